import Derived.Test.YtcehcblhmgeonaaJ
/- The contracts of Shift where it answers an error; no condition. -/
namespace Go.Proofs.Ytcehcblhmgeonaa.A
open Go.RowKit Go.Proofs.YtcehcblhmgeonaaW.PrintWords Go.Proofs.YtcehcblhmgeonaaW.PrintLast Go.Proofs.YtcehcblhmgeonaaW.PrintMore
attribute [local go_sem] max2_int min2_int max_two min_two max_three min_three max_four min_four
set_option linter.unusedVariables false
set_option linter.unusedSimpArgs false

set_option maxRecDepth 100000 in
set_option maxHeartbeats 2000000 in
theorem shift_no (A0 : Option Addr) (c0 : Nat) (l : List Int) (num den : Int) (w : World) (hr : Kd.C (Kd.int .i64) w A0 l.length l) (hc : l.length ≤ c0) (hm : l.length ≤ 9223372036854775807) (h : shOk l num den = false) :
    Calls Try.prog 20 #[.slice A0 l.length c0, .int .i64 num, .int .i64 den] w fun e w' =>
      e = .returned (.tuple #[.slice none 0 0, .int .i64 1]) ∧ Below w.heap.size w w' := by
  have HR := Aside0.mk hr
  have HC := Aside0.mk hc
  have HH := Aside0.mk h
  clear hr hc h
  by_cases l2 : l.length < 2
  · have f1 : decide ((l.length : Int) < 2) = true := by simp; omega
    have f1' : decide (l.length < 2) = true := by simp; omega
    go_enter Try.func20, Try.ntmps20
    go_wp2_with fail
    go_step3
    go_wp2_with fail
    rw [Exit.noGoto_ret]
    go_ret2
    exact ⟨rfl, Below.refl _ _⟩
  · have f1 : decide ((l.length : Int) < 2) = false := by simp; omega
    have f1' : decide (l.length < 2) = false := by simp; omega
    by_cases l240 : 240 < l.length
    · have f2 : decide (240 < (l.length : Int)) = true := by simp; omega
      have f2' : decide (240 < l.length) = true := by simp; omega
      go_enter Try.func20, Try.ntmps20
      go_wp2_with fail
      go_step3
      go_wp2_with fail
      rw [Exit.noGoto_ret]
      go_ret2
      exact ⟨rfl, Below.refl _ _⟩
    · have f2 : decide (240 < (l.length : Int)) = false := by simp; omega
      have f2' : decide (240 < l.length) = false := by simp; omega
      obtain ⟨b, hb⟩ : ∃ b, l.all inS = b := ⟨_, rfl⟩
      cases b with
      | false =>
        have HS := Aside0.mk hb
        clear hb
        go_enter Try.func20, Try.ntmps20
        go_wp2_with fail
        go_step3
        go_wp2_with fail
        refine (samples_calls _ _ _ _ HR.out HC.out hm).mono ?_
        rw [HS.out]
        rintro e w' ⟨rfl, ⟨nd, rfl⟩⟩
        go_wp2_with fail
        rw [Exit.noGoto_ret]
        go_ret2
        exact ⟨rfl, pw_below_drewN (Below.refl _ _) _⟩
      | true =>
        have HF : Aside0 (frac num den = false) := ⟨by
          have := HH.out
          rw [shOk, hb] at this
          simpa [show 2 ≤ l.length by omega, show l.length ≤ 240 by omega] using this⟩
        have HS := Aside0.mk hb
        clear hb
        go_enter Try.func20, Try.ntmps20
        go_wp2_with fail
        go_step3
        go_wp2_with fail
        refine (samples_calls _ _ _ _ HR.out HC.out hm).mono ?_
        rw [HS.out]
        rintro e w' ⟨rfl, ⟨nd, rfl⟩⟩
        go_wp2_with fail
        refine (frac_calls _ _ _).mono ?_
        rw [HF.out]
        rintro e w' ⟨rfl, ⟨nd2, rfl⟩⟩
        go_wp2_with fail
        rw [Exit.noGoto_ret]
        go_ret2
        exact ⟨rfl, pw_below_drewN (Below.refl _ _) _⟩

/-- Shift: what it answers. -/
theorem shift_calls (A0 : Option Addr) (c0 : Nat) (l : List Int) (num den : Int) (w : World) (hr : Kd.C (Kd.int .i64) w A0 l.length l) (hc : l.length ≤ c0) (hm : l.length ≤ 9223372036854775807) :
    Calls Try.prog 20 #[.slice A0 l.length c0, .int .i64 num, .int .i64 den] w fun e w' =>
      ∃ v, e = .returned (.tuple #[v, .int .i64 (errE (shOk l num den))]) ∧ Kd.R (Kd.int .i64) 3 w' w.heap.size (fun _ => True) v (shOut l num den) ∧ Below w.heap.size w w' := by
  obtain ⟨b, hb⟩ : ∃ b, shOk l num den = b := ⟨_, rfl⟩
  cases b with
  | false =>
    refine (shift_no A0 c0 l num den w hr hc hm hb).mono ?_
    rintro e w' ⟨rfl, h⟩
    refine ⟨_, by rw [hb]; rfl, ?_, h⟩
    rw [shOut, hb]
    exact Kd.R_nil _ _ _ _ _
  | true =>
    refine (shift_ok A0 c0 l num den w hr hc hb).mono ?_
    rintro e w' ⟨v, rfl, h1, h2⟩
    exact ⟨v, by rw [hb]; rfl, by rw [shOut, hb]; exact h1, h2⟩
end Go.Proofs.Ytcehcblhmgeonaa.A
