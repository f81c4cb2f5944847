import Derived.Test.YthnbokmnplipkaaDoorPTeleprotectionStepsx2
import Derived.WalkSpells
/- The table of the schemes, and what usable, Valid and Step answer. The condition Sch (the table reads as laid) is each contract's own. -/
namespace Go.Proofs.YthnbokmnplipkaaDoor.A
open Go.RowKit Go.Proofs.YthnbokmnplipkaaDoorW.PrintWords Go.Proofs.YthnbokmnplipkaaDoorW.PrintLast Go.Proofs.YthnbokmnplipkaaDoorW.PrintMore
open Go.Proofs.YthnbokmnplipkaaDoor.PTeleprotectionSteps
attribute [local go_sem] max2_int min2_int max_two min_two max_three min_three max_four min_four
set_option linter.unusedVariables false
set_option linter.unusedSimpArgs false

/-- The table of the schemes. -/
structure Sch (w : World) : Prop where
  s0 : w.cell? ⟨0, 0, none⟩ = some (.int .i64 0)
  s1 : w.cell? ⟨0, 1, none⟩ = some (.int .i64 0)
  s2 : w.cell? ⟨0, 2, none⟩ = some (.int .i64 0)
  s3 : w.cell? ⟨0, 3, none⟩ = some (.int .i64 0)
  s4 : w.cell? ⟨0, 4, none⟩ = some (.int .i64 0)
  s5 : w.cell? ⟨0, 5, none⟩ = some (.int .i64 50)
  s6 : w.cell? ⟨0, 6, none⟩ = some (.int .i64 0)
  s7 : w.cell? ⟨0, 7, none⟩ = some (.int .i64 0)
  s8 : w.cell? ⟨0, 8, none⟩ = some (.int .i64 50)
  s9 : w.cell? ⟨0, 9, none⟩ = some (.int .i64 1)
  s10 : w.cell? ⟨0, 10, none⟩ = some (.int .i64 50)
  s11 : w.cell? ⟨0, 11, none⟩ = some (.int .i64 50)
theorem Sch.below {w w' : World} (h : Sch w) (hb : Below w.heap.size w w') : Sch w' :=
  ⟨pw_cell_below hb h.s0, pw_cell_below hb h.s1, pw_cell_below hb h.s2, pw_cell_below hb h.s3, pw_cell_below hb h.s4, pw_cell_below hb h.s5, pw_cell_below hb h.s6, pw_cell_below hb h.s7, pw_cell_below hb h.s8, pw_cell_below hb h.s9, pw_cell_below hb h.s10, pw_cell_below hb h.s11⟩
def leastW (s : Int) : Int := if s = 3 then 1 else 0
def mostW (s : Int) : Int := if s = 3 then 50 else 0
def mostG (s : Int) : Int := if s = 0 then 0 else 50
def usableB (s wait guard : Int) : Bool := decide (0 ≤ s) && decide (s ≤ 3) && decide (leastW s ≤ wait) && decide (wait ≤ mostW s) && decide (0 ≤ guard) && decide (guard ≤ mostG s)

set_option maxHeartbeats 2000000 in
theorem usable_calls (s wait guard : Int) (w : World) (hs : Sch w) : Calls Tryd.prog 17 #[.int .i64 s, .int .i64 wait, .int .i64 guard] w fun e w' => e = .returned (.bool (usableB s wait guard)) ∧ Below w.heap.size w w' := by
  have HS := Aside0.mk hs
  clear hs
  have finish : ∀ {b : Bool}, b = usableB s wait guard → ∀ {w'}, Below w.heap.size w w' → (Ending.returned (.bool b) = .returned (.bool (usableB s wait guard)) ∧ Below w.heap.size w w') := fun h _ hb => ⟨by rw [h], hb⟩
  have FIN := Aside0.mk (@finish)
  clear finish
  by_cases h0 : s < 0
  · have t0 : decide (s < 0) = true := by simpa using h0
    have hv : false = usableB s wait guard := by unfold usableB; rw [decide_eq_false (by omega)]; rfl
    have HV := Aside0.mk hv
    clear hv
    go_enter Tryd.func17, Tryd.ntmps17
    go_wp2_with fail
    go_ret
    exact FIN.out HV.out (Below.refl _ _)
  · by_cases h1 : 4 ≤ s
    · have t0 : decide (s < 0) = false := by simpa using h0
      have t1 : decide (4 ≤ s) = true := by simpa using h1
      have hv : false = usableB s wait guard := by unfold usableB; rw [decide_eq_false (show ¬ s ≤ 3 by omega)]; simp
      have HV := Aside0.mk hv
      clear hv
      go_enter Tryd.func17, Tryd.ntmps17
      go_wp2_with fail
      go_ret
      exact FIN.out HV.out (Below.refl _ _)
    · obtain ⟨b1, hb1⟩ : ∃ b, decide (leastW s ≤ wait) = b := ⟨_, rfl⟩
      obtain ⟨b2, hb2⟩ : ∃ b, decide (wait ≤ mostW s) = b := ⟨_, rfl⟩
      obtain ⟨b3, hb3⟩ : ∃ b, decide (0 ≤ guard) = b := ⟨_, rfl⟩
      obtain ⟨b4, hb4⟩ : ∃ b, decide (guard ≤ mostG s) = b := ⟨_, rfl⟩
      have hv : (b1 && b2 && b3 && b4) = usableB s wait guard := by unfold usableB; rw [hb1, hb2, hb3, hb4, decide_eq_true (by omega), decide_eq_true (by omega)]; simp
      have HV := Aside0.mk hv
      clear hv
      have hs : s = 0 ∨ s = 1 ∨ s = 2 ∨ s = 3 := by omega
      clear h0 h1
      have q0 := HS.out.s0
      have q1 := HS.out.s1
      have q2 := HS.out.s2
      have q3 := HS.out.s3
      have q4 := HS.out.s4
      have q5 := HS.out.s5
      have q6 := HS.out.s6
      have q7 := HS.out.s7
      have q8 := HS.out.s8
      have q9 := HS.out.s9
      have q10 := HS.out.s10
      have q11 := HS.out.s11
      rcases hs with rfl | rfl | rfl | rfl
      all_goals
        simp only [leastW, mostW, mostG, Int.reduceEq, if_true, if_false, reduceIte] at hb1 hb2 hb3 hb4
        cases b1 with
        | false =>
          go_enter Tryd.func17, Tryd.ntmps17
          go_wp2_with fail
          go_ret
          exact FIN.out HV.out (by repeat (first | with_reducible exact Below.refl _ _ | with_reducible apply below_alloc))
        | true =>
          cases b2 with
          | false =>
            go_enter Tryd.func17, Tryd.ntmps17
            go_wp2_with fail
            go_ret
            exact FIN.out HV.out (by repeat (first | with_reducible exact Below.refl _ _ | with_reducible apply below_alloc))
          | true =>
            cases b3 with
            | false =>
              go_enter Tryd.func17, Tryd.ntmps17
              go_wp2_with fail
              go_ret
              exact FIN.out HV.out (by repeat (first | with_reducible exact Below.refl _ _ | with_reducible apply below_alloc))
            | true =>
              go_enter Tryd.func17, Tryd.ntmps17
              go_wp2_with fail
              go_ret
              exact FIN.out (by rw [← HV.out]; simp [hb4]) (by repeat (first | with_reducible exact Below.refl _ _ | with_reducible apply below_alloc))
end Go.Proofs.YthnbokmnplipkaaDoor.A
