import Derived.Test.YtcehcblhmgeonaaL
/- The walks of ResampleShifts and ResampleEnds; no condition. -/
namespace Go.Proofs.Ytcehcblhmgeonaa.A
open Go.RowKit Go.Proofs.YtcehcblhmgeonaaW.PrintWords Go.Proofs.YtcehcblhmgeonaaW.PrintLast Go.Proofs.YtcehcblhmgeonaaW.PrintMore
open Go.Proofs.Ytcehcblhmgeonaa.PResampleShifts
attribute [local go_sem] max2_int min2_int max_two min_two max_three min_three max_four min_four
set_option linter.unusedVariables false
set_option linter.unusedSimpArgs false

theorem same_loop (l : List Int) (hl : l.length ≤ 9223372036854775807) : ∀ (d k i : Nat), l.length = i + d → d < k →
    substationlaw06_SameInts.l0 k l l (i : Int) = some true := by
  intro d
  induction d with
  | zero =>
    intro k i hd hk
    obtain ⟨k, rfl⟩ : ∃ m, k = m + 1 := ⟨k - 1, by omega⟩
    simp only [substationlaw06_SameInts.l0]
    rw [if_neg (by omega)]
  | succ d ih =>
    intro k i hd hk
    obtain ⟨k, rfl⟩ : ∃ m, k = m + 1 := ⟨k - 1, by omega⟩
    simp only [substationlaw06_SameInts.l0]
    rw [if_pos (by omega), if_pos (by omega), if_pos (by omega), if_pos trivial, w64 (by omega) (by omega)]
    have := ih k (i + 1) (by omega) (by omega)
    rw [show ((i : Int) + 1) = ((i + 1 : Nat) : Int) by omega, this]
theorem same_calls (A0 : Option Addr) (c0 : Nat) (l0 : List Int) (A1 : Option Addr) (c1 : Nat) (l1 : List Int) (w : World) (hr0 : Kd.C (Kd.int .i64) w A0 l0.length l0) (hc0 : l0.length ≤ c0) (hr1 : Kd.C (Kd.int .i64) w A1 l1.length l1) (hc1 : l1.length ≤ c1) (he : l0 = l1) (hl : l0.length ≤ 9223372036854775807) :
    Calls Try.prog 22 #[.slice A0 l0.length c0, .slice A1 l1.length c1] w fun e w' => e = .returned (.bool true) ∧ Drawn0 w w' :=
  substationlaw06_SameInts.calls (l0.length + 1) A0 c0 l0 A1 c1 l1 true w hr0 hc0 hr1 hc1 (by
    subst he
    have := same_loop l0 hl l0.length (l0.length + 1) 0 (by omega) (by omega)
    simpa [substationlaw06_SameInts.f] using this)

/-- The reference's Shift: what it answers. -/
theorem rshift_calls (A0 : Option Addr) (c0 : Nat) (l : List Int) (num den : Int) (w : World) (hr : Kd.C (Kd.int .i64) w A0 l.length l) (hc : l.length ≤ c0) :
    Calls Try.prog 21 #[.slice A0 l.length c0, .int .i64 num, .int .i64 den] w fun e w' =>
      ∃ v, e = .returned (.tuple #[v, .int .i64 (errE (shOk l num den))]) ∧ Kd.R (Kd.int .i64) 3 w' w.heap.size (fun _ => True) v (shOut l num den) ∧ Below w.heap.size w w' := by
  by_cases h : l.length < 2 ∨ 240 < l.length ∨ frac num den = false
  · have ok : shOk l num den = false := by
      unfold shOk
      rcases h with h | h | h
      · simp [show ¬ 2 ≤ l.length by omega]
      · simp [show ¬ l.length ≤ 240 by omega]
      · rw [h, Bool.and_false]
    refine (rshift_early A0 c0 l num den w h).mono ?_
    rintro e w' ⟨rfl, hb⟩
    exact ⟨_, by rw [ok]; rfl, by rw [shOut, ok]; exact Kd.R_nil _ _ _ _ _, hb⟩
  · have hf : frac num den = true := by
      cases hh : frac num den
      · exact absurd (Or.inr (Or.inr hh)) h
      · rfl
    exact rshift_late A0 c0 l num den w hr hc (by omega) (by omega) hf

theorem shOut_len (l : List Int) (num den : Int) : (shOut l num den).length ≤ l.length := by
  unfold shOut
  split
  · simp [shL]
  · simp

set_option maxHeartbeats 2000000 in
theorem ResampleShifts_walk (a : Option Addr) (len cap : Nat) (zs : List Int) (num den : Int) (w : World)
    (hrow : (a = none ∧ len = 0 ∧ cap = 0 ∧ zs = []) ∨ ∃ x, a = some x ∧ len ≤ cap ∧ cap ≤ maxLen ∧ zs.length = cap ∧ (∀ i, i < zs.length → w.cell? (x.add i) = some (.int .i64 (zs.getD i 0))) ∧ ∀ n ∈ zs, (Lit.int .i64 n).wf = true)
    (hy : len * 8 ≤ 140737488351232) (w1 : (Lit.int .i64 num).wf = true) (w2 : (Lit.int .i64 den).wf = true) :
    Calls Try.prog 8 #[.slice a len cap, .int .i64 num, .int .i64 den] w fun e w' => e = .returned (.bool true) ∧ Below w.heap.size w w' := by
  obtain ⟨l, rfl, hr, hm, hw, hc⟩ := ReadsInt.ofRowC hrow
  have HR : Aside0 (Kd.C (Kd.int .i64) w a l.length l) := ⟨Kd.C_of_reads (d := (0 : Int)) (h1 := fun _ => rfl) hr⟩
  have HC := Aside0.mk hc
  have HM : Aside0 (l.length ≤ 9223372036854775807) := ⟨by omega⟩
  clear hrow hr hm hw hc hy w1 w2
  go_enter Try.func8, Try.ntmps8
  go_wp2_with fail
  refine (known_calls _).mono ?_
  rintro e w1 ⟨rfl, HB⟩
  have HB := Aside0.mk HB
  have HR1 := Aside0.mk (Kd.C_below HR.out HB.out)
  go_wp2_with fail
  refine (shift_calls _ _ _ _ _ _ HR1.out HC.out HM.out).mono ?_
  rintro e w2 ⟨v1, rfl, HV, HB'⟩
  have HV := Aside0.mk HV
  have HB := Aside0.mk (below_step HB.out HB')
  have HR2 := Aside0.mk (Kd.C_below HR1.out HB')
  clear HB'
  obtain ⟨A1, c1, rfl⟩ := Kd.R_slice HV.out
  go_wp2_with fail
  refine (rshift_calls _ _ _ _ _ _ HR2.out HC.out).mono ?_
  rintro e w3 ⟨v2, rfl, HU, HB'⟩
  have HU := Aside0.mk HU
  have HB := Aside0.mk (below_step HB.out HB')
  have HV := Aside0.mk (Kd.R_below HV.out HB')
  clear HB'
  obtain ⟨A2, c2, rfl⟩ := Kd.R_slice HU.out
  have HL : Aside0 ((shOut l num den).length ≤ 9223372036854775807) := ⟨Nat.le_trans (shOut_len l num den) HM.out⟩
  generalize shOut l num den = ys at *
  generalize errE (shOk l num den) = er at *
  go_wp2_with fail
  refine (same_calls _ _ _ _ _ _ _ (Kd.R_reads' HV.out).2.2 (Kd.R_reads' HV.out).2.1 (Kd.R_reads' HU.out).2.2 (Kd.R_reads' HU.out).2.1 rfl HL.out).mono ?_
  rintro e w' ⟨rfl, ⟨nd, rfl⟩⟩
  go_wp2_with fail
  go_ret
  exact ⟨rfl, pw_below_drewN HB.out _⟩
end Go.Proofs.Ytcehcblhmgeonaa.A
