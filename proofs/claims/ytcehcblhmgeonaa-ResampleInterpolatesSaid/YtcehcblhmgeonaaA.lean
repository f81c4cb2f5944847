import Derived.Test.YtcehcblhmgeonaaPResampleShiftsx1
import Derived.Test.YtcehcblhmgeonaaPResampleShiftsx2
import Derived.Test.YtcehcblhmgeonaaPResampleLowestx1
import Derived.WalkSpells
/- What the functions of the packages resample and substationref19 answer, as plain Lean functions; no condition. -/
namespace Go.Proofs.Ytcehcblhmgeonaa.A
open Go.RowKit Go.Proofs.YtcehcblhmgeonaaW.PrintWords Go.Proofs.YtcehcblhmgeonaaW.PrintLast Go.Proofs.YtcehcblhmgeonaaW.PrintMore
open Go.Proofs.Ytcehcblhmgeonaa.PResampleShifts

/-! ### plain functions -/
def inS (n : Int) : Bool := decide (-16383 ≤ n) && decide (n ≤ 16383)
def frac (num den : Int) : Bool := decide (1 ≤ den) && decide (den ≤ 1000) && decide (0 ≤ num) && decide (num ≤ den)
def redN (n d : Int) : Int := n / (Int.gcd n d : Int)
def redD (n d : Int) : Int := d / (Int.gcd n d : Int)
def isInt (n : Int) : Prop := -9223372036854775808 ≤ n ∧ n ≤ 9223372036854775807

theorem inS_iff {n : Int} : inS n = true ↔ -16383 ≤ n ∧ n ≤ 16383 := by simp [inS]
theorem frac_iff {a b : Int} : frac a b = true ↔ 1 ≤ b ∧ b ≤ 1000 ∧ 0 ≤ a ∧ a ≤ b := by simp [frac, and_assoc]

theorem w64 {n : Int} (h0 : -9223372036854775808 ≤ n) (h1 : n ≤ 9223372036854775807) : wrap64 n = n := by unfold wrap64; omega

theorem rd_drop {l : List Int} {i : Nat} (h : i < l.length) : l.drop i = rd l i :: l.drop (i + 1) := by
  rw [List.drop_eq_getElem_cons h]
  simp [rd, h]

theorem samples_loop (l : List Int) (hl : l.length ≤ 9223372036854775807) : ∀ (d k i : Nat), l.length = i + d → d < k →
    resample_samples_int.l0 k l (l.length : Int) (i : Int) = some ((l.drop i).all inS) := by
  intro d
  induction d with
  | zero =>
    intro k i hd hk
    obtain ⟨k, rfl⟩ : ∃ m, k = m + 1 := ⟨k - 1, by omega⟩
    simp only [resample_samples_int.l0]
    rw [if_neg (by omega), List.drop_of_length_le (by omega)]; rfl
  | succ d ih =>
    intro k i hd hk
    obtain ⟨k, rfl⟩ : ∃ m, k = m + 1 := ⟨k - 1, by omega⟩
    simp only [resample_samples_int.l0]
    rw [if_pos (by omega), if_pos (by omega), if_pos (by omega), rd_drop (by omega)]
    by_cases h1 : rd l (i : Int) < -16383
    · rw [if_pos h1]; simp [inS]; omega
    · rw [if_neg h1]
      by_cases h2 : rd l (i : Int) > 16383
      · rw [if_pos h2]; simp [inS]; omega
      · rw [if_neg h2, w64 (by omega) (by omega)]
        have := ih k (i + 1) (by omega) (by omega)
        rw [show ((i : Int) + 1) = ((i + 1 : Nat) : Int) by omega, this]
        have : inS (rd l (i : Int)) = true := inS_iff.2 ⟨by omega, by omega⟩
        simp [this]

theorem samples_f (l : List Int) (hl : l.length ≤ 9223372036854775807) (k : Nat) (hk : l.length < k) :
    resample_samples_int.f k l = some (l.all inS) := by
  have := samples_loop l hl l.length k 0 (by omega) hk
  simpa [resample_samples_int.f] using this

theorem fraction_f (a b : Int) : resample_fraction.f a b = some (frac a b) := by
  unfold resample_fraction.f frac
  split
  · split
    · split
      · simp only [Option.some.injEq]; rw [Bool.eq_iff_iff]; simp; omega
      · simp only [Option.some.injEq]; rw [Bool.eq_iff_iff]; simp; omega
    · simp only [Option.some.injEq]; rw [Bool.eq_iff_iff]; simp; omega
  · simp only [Option.some.injEq]; rw [Bool.eq_iff_iff]; simp; omega
theorem rfraction_f (a b : Int) : substationref19_fraction.f a b = some (frac a b) := fraction_f a b
theorem rsample_f (a : Int) : substationref19_sample.f a = some (inS a) := by
  unfold substationref19_sample.f inS
  split <;> simp only [Option.some.injEq] <;> rw [Bool.eq_iff_iff] <;> simp <;> omega

theorem gcd_step (a b : Int) (ha : 0 ≤ a) (_hb : 0 < b) : Int.gcd b (Int.tmod a b) = Int.gcd a b := by
  rw [Int.tmod_eq_emod_of_nonneg ha, Int.gcd_comm a b]
  have e : a % b + b * (a / b) = a := by have := Int.emod_add_mul_ediv a b; omega
  have h := Int.gcd_add_mul_left_right b (a % b) (a / b)
  rw [e] at h
  exact h.symm

theorem reduced_loop (n d : Int) : ∀ (m k : Nat) (a b : Int), 0 ≤ a → 0 ≤ b → 0 < a ∨ 0 < b → b.toNat = m → m < k →
    resample_reduced.l0 k n d a b = some (wrap64 (n.tdiv (Int.gcd a b)), wrap64 (d.tdiv (Int.gcd a b))) := by
  intro m
  induction m using Nat.strongRecOn with
  | _ m ih =>
    intro k a b ha hb hab hm hk
    obtain ⟨k, rfl⟩ : ∃ j, k = j + 1 := ⟨k - 1, by omega⟩
    simp only [resample_reduced.l0]
    by_cases h : b > 0
    · rw [if_pos h, if_neg (by omega)]
      have hlt : Int.tmod a b < b := Int.tmod_lt_of_pos a h
      have h0 : 0 ≤ Int.tmod a b := Int.tmod_nonneg b ha
      rw [ih (Int.tmod a b).toNat (by omega) k b (Int.tmod a b) hb h0 (Or.inl h) rfl (by omega), gcd_step a b ha h]
    · have : b = 0 := by omega
      subst this
      rw [if_neg h, if_neg (by omega)]
      simp [Int.natAbs_of_nonneg ha]

theorem mx_abs (n : Int) (h0 : -9223372036854775807 ≤ n) (h1 : n ≤ 9223372036854775807) : mx n (wrap64 (-n)) = (n.natAbs : Int) := by
  rw [w64 (by omega) (by omega)]; unfold mx; split <;> omega

theorem gcd_abs (n d : Int) : Int.gcd (n.natAbs : Int) d = Int.gcd n d := by simp [Int.gcd]

theorem redN_wrap (n d : Int) (h0 : -9223372036854775807 ≤ n) (h1 : n ≤ 9223372036854775807) : wrap64 (n.tdiv (Int.gcd n d)) = redN n d := by
  have hd : ((Int.gcd n d : Nat) : Int) ∣ n := Int.gcd_dvd_left ..
  have e : n.tdiv (Int.gcd n d) = n / (Int.gcd n d : Int) := Int.tdiv_eq_ediv_of_dvd hd
  rw [e]
  unfold redN
  have := Int.natAbs_ediv_le_natAbs n (Int.gcd n d : Int)
  exact w64 (by omega) (by omega)
theorem redD_wrap (n d : Int) (h0 : -9223372036854775807 ≤ d) (h1 : d ≤ 9223372036854775807) : wrap64 (d.tdiv (Int.gcd n d)) = redD n d := by
  have hd : ((Int.gcd n d : Nat) : Int) ∣ d := Int.gcd_dvd_right ..
  have e : d.tdiv (Int.gcd n d) = d / (Int.gcd n d : Int) := Int.tdiv_eq_ediv_of_dvd hd
  rw [e]
  unfold redD
  have := Int.natAbs_ediv_le_natAbs d (Int.gcd n d : Int)
  exact w64 (by omega) (by omega)

theorem reduced_f (n d : Int) (h0 : -9223372036854775807 ≤ n) (h1 : n ≤ 9223372036854775807) (hd : 0 < d) (hd1 : d ≤ 9223372036854775807) (k : Nat) (hk : d.toNat < k) :
    resample_reduced.f k n d = some (redN n d, redD n d) := by
  unfold resample_reduced.f
  rw [mx_abs n h0 h1, reduced_loop n d d.toNat k (n.natAbs : Int) d (by omega) (by omega) (Or.inr hd) rfl hk, gcd_abs,
    redN_wrap n d h0 h1, redD_wrap n d (by omega) hd1]

theorem rgcd_loop : ∀ (m k : Nat) (a b : Int), 0 ≤ a → 0 ≤ b → b.toNat = m → m < k →
    substationref19_gcd.l0 k a b = some (Int.gcd a b : Int) := by
  intro m
  induction m using Nat.strongRecOn with
  | _ m ih =>
    intro k a b ha hb hm hk
    obtain ⟨k, rfl⟩ : ∃ j, k = j + 1 := ⟨k - 1, by omega⟩
    simp only [substationref19_gcd.l0]
    by_cases h : b > 0
    · rw [if_pos h, if_neg (by omega)]
      have hlt : Int.tmod a b < b := Int.tmod_lt_of_pos a h
      have h0 : 0 ≤ Int.tmod a b := Int.tmod_nonneg b ha
      rw [ih (Int.tmod a b).toNat (by omega) k b (Int.tmod a b) hb h0 rfl (by omega), gcd_step a b ha h]
    · have : b = 0 := by omega
      subst this
      rw [if_neg h]
      simp [Int.natAbs_of_nonneg ha]

theorem lowest_f (n d : Int) (h0 : -9223372036854775807 ≤ n) (h1 : n ≤ 9223372036854775807) (hd : 0 < d) (hd1 : d ≤ 9223372036854775807) (k : Nat) (hk : d.toNat < k) :
    substationref19_Lowest.f k n d = some (redN n d, redD n d) := by
  unfold substationref19_Lowest.f substationref19_gcd.f
  rw [mx_abs n h0 h1, rgcd_loop d.toNat k (n.natAbs : Int) d (by omega) (by omega) rfl hk, gcd_abs]
  simp only [Option.bind_some]
  rw [if_neg (by have := Int.gcd_pos_of_ne_zero_right n (show d ≠ 0 by omega); omega), redN_wrap n d h0 h1, redD_wrap n d (by omega) hd1]

/-- floor(a / b) -/
theorem floor_f (a b : Int) (h0 : -9223372036854775807 ≤ a) (h1 : a ≤ 9223372036854775807) (hb : 0 < b) : resample_floor.f a b = some (a / b) := by
  unfold resample_floor.f
  rw [if_neg (by omega)]
  have e := Int.mul_tdiv_add_tmod a b
  have hr : -b < a.tmod b ∧ a.tmod b < b := ⟨Int.lt_tmod_of_pos a hb, Int.tmod_lt_of_pos a hb⟩
  have hq : (a.tdiv b).natAbs ≤ a.natAbs := Int.natAbs_tdiv_le_natAbs a b
  by_cases h : a.tmod b < 0
  · rw [if_pos h, w64 (n := a.tdiv b) (by omega) (by omega), w64 (by omega) (by omega)]
    congr 1
    have : a = (a.tmod b + b) + b * (a.tdiv b - 1) := by rw [Int.mul_sub]; omega
    rw [this, Int.add_mul_ediv_left _ _ (by omega), Int.ediv_eq_zero_of_lt (by omega) (by omega), ← this]; omega
  · rw [if_neg h, w64 (by omega) (by omega)]
    congr 1
    have : a = a.tmod b + b * (a.tdiv b) := by omega
    rw [this, Int.add_mul_ediv_left _ _ (by omega), Int.ediv_eq_zero_of_lt (by omega) (by omega), ← this]; omega
theorem rfloor_f (a b : Int) (h0 : -9223372036854775807 ≤ a) (h1 : a ≤ 9223372036854775807) (hb : 0 < b) : substationref18_Floor.f a b = some (a / b) := floor_f a b h0 h1 hb

/-- Nearest -/
def nearV (n d : Int) : Int := if 1 ≤ d ∧ d ≤ 1152921504606846976 ∧ -1152921504606846976 ≤ n ∧ n ≤ 1152921504606846976 then (2 * n + d) / (2 * d) else 0
def nearE (n d : Int) : Int := if 1 ≤ d ∧ d ≤ 1152921504606846976 ∧ -1152921504606846976 ≤ n ∧ n ≤ 1152921504606846976 then 0 else 1
theorem nearest_f (n d : Int) : resample_Nearest.f n d = some (nearV n d, nearE n d) := by
  unfold resample_Nearest.f nearV nearE
  by_cases h1 : d < 1
  · rw [if_pos h1, if_neg (by omega), if_neg (by omega)]
  rw [if_neg h1]
  by_cases h2 : d > 1152921504606846976
  · rw [if_pos h2, if_neg (by omega), if_neg (by omega)]
  rw [if_neg h2]
  by_cases h3 : n < -1152921504606846976
  · rw [if_pos h3, if_neg (by omega), if_neg (by omega)]
  rw [if_neg h3]
  by_cases h4 : n > 1152921504606846976
  · rw [if_pos h4, if_neg (by omega), if_neg (by omega)]
  rw [if_neg h4, if_pos (by omega), if_pos (by omega), w64 (n := 2 * n) (by omega) (by omega), w64 (n := 2 * n + d) (by omega) (by omega), w64 (n := 2 * d) (by omega) (by omega),
    floor_f _ _ (by omega) (by omega) (by omega)]
  rfl
theorem rnearest_f (n d : Int) : substationref19_Nearest.f n d = some (nearV n d, nearE n d) := nearest_f n d

/-! ### the contracts -/
section
variable (w : World)
theorem nearest_calls (n d : Int) : Calls Try.prog 16 #[.int .i64 n, .int .i64 d] w fun e w' => e = .returned (.tuple #[.int .i64 (nearV n d), .int .i64 (nearE n d)]) ∧ Drawn0 w w' :=
  resample_Nearest.calls n d _ _ w (nearest_f n d)
theorem rnearest_calls (n d : Int) : Calls Try.prog 19 #[.int .i64 n, .int .i64 d] w fun e w' => e = .returned (.tuple #[.int .i64 (nearV n d), .int .i64 (nearE n d)]) ∧ Drawn0 w w' :=
  substationref19_Nearest.calls n d _ _ w (rnearest_f n d)
theorem frac_calls (n d : Int) : Calls Try.prog 24 #[.int .i64 n, .int .i64 d] w fun e w' => e = .returned (.bool (frac n d)) ∧ Drawn0 w w' :=
  resample_fraction.calls n d _ w (fraction_f n d)
theorem rfrac_calls (n d : Int) : Calls Try.prog 28 #[.int .i64 n, .int .i64 d] w fun e w' => e = .returned (.bool (frac n d)) ∧ Drawn0 w w' :=
  substationref19_fraction.calls n d _ w (rfraction_f n d)
theorem rsample_calls (n : Int) : Calls Try.prog 27 #[.int .i64 n] w fun e w' => e = .returned (.bool (inS n)) ∧ Drawn0 w w' :=
  substationref19_sample.calls n _ w (rsample_f n)
theorem samples_calls (A : Option Addr) (c : Nat) (l : List Int) (hr : Kd.C (Kd.int .i64) w A l.length l) (hc : l.length ≤ c) (hl : l.length ≤ 9223372036854775807) :
    Calls Try.prog 23 #[.slice A l.length c] w fun e w' => e = .returned (.bool (l.all inS)) ∧ Drawn0 w w' :=
  resample_samples_int.calls (l.length + 1) A c l _ w hr hc (samples_f l hl _ (by omega))
theorem reduced_calls (n d : Int) (h0 : -9223372036854775807 ≤ n) (h1 : n ≤ 9223372036854775807) (hd : 0 < d) (hd1 : d ≤ 9223372036854775807) :
    Calls Try.prog 25 #[.int .i64 n, .int .i64 d] w fun e w' => e = .returned (.tuple #[.int .i64 (redN n d), .int .i64 (redD n d)]) ∧ Below w.heap.size w w' :=
  resample_reduced.calls (d.toNat + 1) n d _ _ w (reduced_f n d h0 h1 hd hd1 _ (by omega))
theorem lowest_calls (n d : Int) (h0 : -9223372036854775807 ≤ n) (h1 : n ≤ 9223372036854775807) (hd : 0 < d) (hd1 : d ≤ 9223372036854775807) :
    Calls Try.prog 29 #[.int .i64 n, .int .i64 d] w fun e w' => e = .returned (.tuple #[.int .i64 (redN n d), .int .i64 (redD n d)]) ∧ Below w.heap.size w w' :=
  substationref19_Lowest.calls (d.toNat + 1) n d _ _ w (lowest_f n d h0 h1 hd hd1 _ (by omega))
end
end Go.Proofs.Ytcehcblhmgeonaa.A
