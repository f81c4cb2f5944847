import Derived.Test.YtcehcblhmgeonaaF
/- The walk of ResampleLowest; no condition. -/
namespace Go.Proofs.Ytcehcblhmgeonaa.A
open Go.RowKit Go.Proofs.YtcehcblhmgeonaaW.PrintWords Go.Proofs.YtcehcblhmgeonaaW.PrintLast Go.Proofs.YtcehcblhmgeonaaW.PrintMore
attribute [local go_sem] max2_int min2_int max_two min_two max_three min_three max_four min_four
set_option linter.unusedVariables false

theorem lgcd_loop : ∀ (m k : Nat) (a b : Int), 0 ≤ a → 0 ≤ b → b.toNat = m → m < k →
    PResampleLowest.substationlaw19_gcd.l0 k a b = some (Int.gcd a b : Int) := by
  intro m
  induction m using Nat.strongRecOn with
  | _ m ih =>
    intro k a b ha hb hm hk
    obtain ⟨k, rfl⟩ : ∃ j, k = j + 1 := ⟨k - 1, by omega⟩
    simp only [PResampleLowest.substationlaw19_gcd.l0]
    by_cases h : b > 0
    · rw [if_pos h, if_neg (by omega)]
      have hlt : Int.tmod a b < b := Int.tmod_lt_of_pos a h
      have h0 : 0 ≤ Int.tmod a b := Int.tmod_nonneg b ha
      rw [ih (Int.tmod a b).toNat (by omega) k b (Int.tmod a b) hb h0 rfl (by omega), gcd_step a b ha h]
    · have : b = 0 := by omega
      subst this
      rw [if_neg h]
      simp [Int.natAbs_of_nonneg ha]
theorem lgcd_f (a b : Int) (h0 : -9223372036854775807 ≤ a) (h1 : a ≤ 9223372036854775807) (hb : 0 < b) :
    PResampleLowest.substationlaw19_gcd.f (b.toNat + 2) a b = some (Int.gcd a b : Int) := by
  unfold PResampleLowest.substationlaw19_gcd.f
  by_cases h : a < 0
  · rw [if_pos h, w64 (by omega) (by omega)]
    simp only [PResampleLowest.substationlaw19_gcd.j0]
    rw [lgcd_loop b.toNat _ (-a) b (by omega) (by omega) rfl (by omega)]
    simp
  · rw [if_neg h]
    simp only [PResampleLowest.substationlaw19_gcd.j0]
    rw [lgcd_loop b.toNat _ a b (by omega) (by omega) rfl (by omega)]
theorem lgcd_calls (a b : Int) (h0 : -9223372036854775807 ≤ a) (h1 : a ≤ 9223372036854775807) (hb : 0 < b) (w : World) :
    Calls Try.prog 15 #[.int .i64 a, .int .i64 b] w fun e w' => e = .returned (.int .i64 (Int.gcd a b : Int)) ∧ Drawn0 w w' :=
  PResampleLowest.substationlaw19_gcd.calls _ a b _ w (lgcd_f a b h0 h1 hb)

/-- What a reduced fraction is. -/
theorem red_facts (n d : Int) (hd : 0 < d) : redN n d * (Int.gcd n d : Int) = n ∧ redD n d * (Int.gcd n d : Int) = d ∧ 0 < redD n d ∧ Int.gcd (redN n d) (redD n d) = 1 ∧ redD n d ≤ d ∧ (redN n d).natAbs ≤ n.natAbs := by
  have hg : 0 < Int.gcd n d := Int.gcd_pos_of_ne_zero_right n (by omega)
  have h1 : redN n d * (Int.gcd n d : Int) = n := Int.ediv_mul_cancel (Int.gcd_dvd_left ..)
  have h2 : redD n d * (Int.gcd n d : Int) = d := Int.ediv_mul_cancel (Int.gcd_dvd_right ..)
  have h3 : 0 < redD n d := by
    rcases Int.lt_or_le 0 (redD n d) with h | h
    · exact h
    · have := Int.mul_nonpos_of_nonpos_of_nonneg h (show 0 ≤ (Int.gcd n d : Int) by omega)
      omega
  refine ⟨h1, h2, h3, ?_, ?_, Int.natAbs_ediv_le_natAbs ..⟩
  · unfold redN redD
    rw [Int.gcd_ediv (Int.gcd_dvd_left ..) (Int.gcd_dvd_right ..), Int.natAbs_natCast, Nat.div_self hg]
  · have := Int.mul_le_mul_of_nonneg_left (show (1 : Int) ≤ (Int.gcd n d : Int) by omega) (show 0 ≤ redD n d by omega)
    omega
theorem red_whole (x d : Int) (hd : 0 < d) : redN (x * d) d = x ∧ redD (x * d) d = 1 := by
  have hg : (Int.gcd (x * d) d : Int) = d := by rw [Int.gcd_mul_left_left]; omega
  unfold redN redD
  rw [hg, Int.mul_ediv_cancel _ (by omega), Int.ediv_self (by omega)]
  exact ⟨rfl, rfl⟩

def lo (a b : Int) : Int := if b < a then b else a
def hi (a b : Int) : Int := if a < b then b else a
/-- The linear value lies between its samples. -/
theorem lin_between (a b num den : Int) (h : linOk a b num den = true) :
    lo a b * linB a b num den ≤ linA a b num den ∧ linA a b num den ≤ hi a b * linB a b num den := by
  have hh := h
  rw [linOk, Bool.and_eq_true, Bool.and_eq_true, inS_iff, inS_iff, frac_iff] at hh
  obtain ⟨⟨ha, hb⟩, hf⟩ := hh
  obtain ⟨e1, e2, e3, -, -, -⟩ := red_facts (linN a b num den) den (by omega)
  have hA : linA a b num den = redN (linN a b num den) den := if_pos h
  have hB : linB a b num den = redD (linN a b num den) den := if_pos h
  rw [hA, hB]
  generalize redN (linN a b num den) den = N at *
  generalize redD (linN a b num den) den = D at *
  have hg : 0 < (Int.gcd (linN a b num den) den : Int) := by have := Int.gcd_pos_of_ne_zero_right (linN a b num den) (show den ≠ 0 by omega); omega
  generalize (Int.gcd (linN a b num den) den : Int) = g at *
  have k1 : lo a b * den ≤ linN a b num den := by
    unfold lo linN
    split
    · have := Int.mul_nonneg (show 0 ≤ a - b by omega) (show 0 ≤ den - num by omega)
      grind
    · have := Int.mul_nonneg (show 0 ≤ b - a by omega) (show 0 ≤ num by omega)
      grind
  have k2 : linN a b num den ≤ hi a b * den := by
    unfold hi linN
    split
    · have := Int.mul_nonneg (show 0 ≤ b - a by omega) (show 0 ≤ den - num by omega)
      grind
    · have := Int.mul_nonneg (show 0 ≤ a - b by omega) (show 0 ≤ num by omega)
      grind
  constructor
  · refine Int.le_of_mul_le_mul_right ?_ hg
    rw [Int.mul_assoc, e2, e1]; exact k1
  · refine Int.le_of_mul_le_mul_right ?_ hg
    rw [Int.mul_assoc, e2, e1]; exact k2

/-- The ends of Linear and Cubic. -/
theorem ends_zero (s0 s1 s2 s3 den : Int) (h : cubOk s0 s1 s2 s3 0 den = true) :
    linA s1 s2 0 den = s1 ∧ linB s1 s2 0 den = 1 ∧ cubA s0 s1 s2 s3 0 den = s1 ∧ cubB s0 s1 s2 s3 0 den = 1 := by
  have hh := h
  rw [cubOk_iff, frac_iff] at hh
  have hl : linOk s1 s2 0 den = true := by rw [linOk, hh.1.2.1, hh.1.2.2.1, Bool.true_and, Bool.true_and, frac_iff]; omega
  have e1 : linN s1 s2 0 den = s1 * den := by unfold linN; omega
  have e2 : cubN s0 s1 s2 s3 0 den = s1 * cubD den := by unfold cubN cubD; grind
  have hd : 0 < cubD den := by unfold cubD; exact Int.mul_pos (Int.mul_pos (by omega) (by omega)) (by omega)
  unfold linA linB cubA cubB
  rw [if_pos hl, if_pos hl, if_pos h, if_pos h, e1, e2]
  exact ⟨(red_whole _ _ (by omega)).1, (red_whole _ _ (by omega)).2, (red_whole _ _ hd).1, (red_whole _ _ hd).2⟩
theorem ends_one (s0 s1 s2 s3 den : Int) (h : cubOk s0 s1 s2 s3 den den = true) :
    linA s1 s2 den den = s2 ∧ linB s1 s2 den den = 1 ∧ cubA s0 s1 s2 s3 den den = s2 ∧ cubB s0 s1 s2 s3 den den = 1 := by
  have hh := h
  rw [cubOk_iff, frac_iff] at hh
  have hl : linOk s1 s2 den den = true := by rw [linOk, hh.1.2.1, hh.1.2.2.1, Bool.true_and, Bool.true_and, frac_iff]; omega
  have e1 : linN s1 s2 den den = s2 * den := by unfold linN; grind
  have e2 : cubN s0 s1 s2 s3 den den = s2 * cubD den := by unfold cubN cubD; grind
  have hd : 0 < cubD den := by unfold cubD; exact Int.mul_pos (Int.mul_pos (by omega) (by omega)) (by omega)
  unfold linA linB cubA cubB
  rw [if_pos hl, if_pos hl, if_pos h, if_pos h, e1, e2]
  exact ⟨(red_whole _ _ (by omega)).1, (red_whole _ _ (by omega)).2, (red_whole _ _ hd).1, (red_whole _ _ hd).2⟩

structure LowFacts (s0 s1 s2 s3 num den a b p q : Int) : Prop where
  bb : 1 ≤ b ∧ b ≤ 1000
  qq : 1 ≤ q ∧ q ≤ 6000000000
  aa : -49149000 ≤ a ∧ a ≤ 49149000
  pp : -1000000000000000 ≤ p ∧ p ≤ 1000000000000000
  g1 : Int.gcd a b = 1
  g2 : Int.gcd p q = 1
  lo : lo s1 s2 * b ≤ a
  hi : a ≤ hi s1 s2 * b
  l0 : -16383 ≤ A.lo s1 s2 ∧ A.lo s1 s2 ≤ 16383
  h0 : -16383 ≤ A.hi s1 s2 ∧ A.hi s1 s2 ≤ 16383
theorem low_facts (s0 s1 s2 s3 num den : Int) (h : cubOk s0 s1 s2 s3 num den = true) :
    linOk s1 s2 num den = true ∧ LowFacts s0 s1 s2 s3 num den (linA s1 s2 num den) (linB s1 s2 num den) (cubA s0 s1 s2 s3 num den) (cubB s0 s1 s2 s3 num den) := by
  have hh := h
  rw [cubOk_iff] at hh
  have hl : linOk s1 s2 num den = true := by rw [linOk, hh.1.2.1, hh.1.2.2.1, Bool.true_and, Bool.true_and]; exact hh.2
  have f := hh.2
  rw [frac_iff] at f
  have i1 := inS_iff.1 hh.1.2.1
  have i2 := inS_iff.1 hh.1.2.2.1
  have lb := linN_bd hh.1.2.1 hh.1.2.2.1 hh.2
  have cb := (cubN_bd h).2.2
  have cd := cubD_wrap hh.2
  obtain ⟨-, -, r3, r4, r5, r6⟩ := red_facts (linN s1 s2 num den) den (by omega)
  obtain ⟨-, -, t3, t4, t5, t6⟩ := red_facts (cubN s0 s1 s2 s3 num den) (cubD den) (by omega)
  have b := lin_between s1 s2 num den hl
  have l1 := lb.1; have l2 := lb.2; have c1 := cb.1; have c2 := cb.2
  refine ⟨hl, ?_⟩
  have eA : linA s1 s2 num den = redN (linN s1 s2 num den) den := if_pos hl
  have eB : linB s1 s2 num den = redD (linN s1 s2 num den) den := if_pos hl
  have eC : cubA s0 s1 s2 s3 num den = redN (cubN s0 s1 s2 s3 num den) (cubD den) := if_pos h
  have eD : cubB s0 s1 s2 s3 num den = redD (cubN s0 s1 s2 s3 num den) (cubD den) := if_pos h
  rw [eA, eB] at b
  rw [eA, eB, eC, eD]
  exact ⟨by omega, by omega, by omega, by omega, r4, t4, b.1, b.2, by unfold lo; split <;> omega, by unfold hi; split <;> omega⟩
end Go.Proofs.Ytcehcblhmgeonaa.A
