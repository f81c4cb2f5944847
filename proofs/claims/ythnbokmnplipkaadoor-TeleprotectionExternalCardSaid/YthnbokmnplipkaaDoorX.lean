import Derived.Test.YthnbokmnplipkaaDoorD
/- The walk of TeleprotectionExamples. The condition Sch is its own. -/
namespace Go.Proofs.YthnbokmnplipkaaDoor.A
open Go.RowKit Go.Proofs.YthnbokmnplipkaaDoorW.PrintWords Go.Proofs.YthnbokmnplipkaaDoorW.PrintLast Go.Proofs.YthnbokmnplipkaaDoorW.PrintMore
open Go.Proofs.YthnbokmnplipkaaDoor.PTeleprotectionSteps
open Go.Proofs.YthnbokmnplipkaaDoor
attribute [local go_sem] max2_int min2_int max_two min_two max_three min_three max_four min_four
set_option linter.unusedVariables false
set_option linter.unusedSimpArgs false

theorem valid_is {s wait guard g h : Int} {b : Bool} (e : validB s wait guard g h = b) (w : World) (hs : Sch w) :
    Calls Tryd.prog 11 #[.int .i64 s, .int .i64 wait, .int .i64 guard, tele g h] w fun e w' => e = .returned (.bool b) ∧ Below w.heap.size w w' := by
  have := valid_calls s wait guard g h w hs
  rw [e] at this
  exact this

set_option maxRecDepth 100000 in
set_option maxHeartbeats 4000000 in
theorem TeleprotectionExamples_walk (w : World) (hs : Sch w) :
    Calls Tryd.prog 3 #[] w fun e w' => e = .returned (.bool true) ∧ Below w.heap.size w w' := by
  have HS := Aside0.mk hs
  have HB := Aside0.mk (Below.refl w.heap.size w)
  clear hs
  go_enter Tryd.func3, Tryd.ntmps3
  go_wp2_with fail
  with_reducible refine (step_is (g' := 0) (h' := 1) (a := false) (b := false) (by decide) _ HS.out).mono ?_
  rintro e w1 ⟨rfl, HB1⟩
  have HB2 := below_step HB1 (two_below w1 0 1 false false)
  replace HS := Aside0.mk (HS.out.below HB2)
  replace HB := Aside0.mk (below_step HB.out HB2)
  have T1 := Aside0.mk (two_t w1 0 1 false false)
  have O1 := Aside0.mk (two_o w1 0 1 false false)
  clear HB1 HB2
  have t0 := T1.out.c0
  have t1 := T1.out.c1
  go_wp2_with fail
  with_reducible refine (step_is (g' := 0) (h' := 2) (a := false) (b := true) (by decide) _ HS.out).mono ?_
  rintro e w2 ⟨rfl, HB1⟩
  have HB2 := below_step HB1 (two_below w2 0 2 false true)
  replace HS := Aside0.mk (HS.out.below HB2)
  replace HB := Aside0.mk (below_step HB.out HB2)
  replace T1 := Aside0.mk (T1.out.below HB2)
  replace O1 := Aside0.mk (O1.out.below HB2)
  have T2 := Aside0.mk (two_t w2 0 2 false true)
  have O2 := Aside0.mk (two_o w2 0 2 false true)
  clear HB1 HB2 t0 t1
  have t0 := T1.out.c0
  have t1 := T1.out.c1
  go_wp2_with fail
  with_reducible refine (step_is (g' := 0) (h' := 0) (a := false) (b := false) (by decide) _ HS.out).mono ?_
  rintro e w3 ⟨rfl, HB1⟩
  have HB2 := below_step HB1 (two_below w3 0 0 false false)
  replace HS := Aside0.mk (HS.out.below HB2)
  replace HB := Aside0.mk (below_step HB.out HB2)
  replace T1 := Aside0.mk (T1.out.below HB2)
  replace O1 := Aside0.mk (O1.out.below HB2)
  replace T2 := Aside0.mk (T2.out.below HB2)
  replace O2 := Aside0.mk (O2.out.below HB2)
  have T3 := Aside0.mk (two_t w3 0 0 false false)
  have O3 := Aside0.mk (two_o w3 0 0 false false)
  clear HB1 HB2 t0 t1
  go_wp2_with fail
  with_reducible refine (step_is (g' := 0) (h' := 0) (a := true) (b := false) (by decide) _ HS.out).mono ?_
  rintro e w4 ⟨rfl, HB1⟩
  have HB2 := below_step HB1 (two_below w4 0 0 true false)
  replace HS := Aside0.mk (HS.out.below HB2)
  replace HB := Aside0.mk (below_step HB.out HB2)
  replace T1 := Aside0.mk (T1.out.below HB2)
  replace O1 := Aside0.mk (O1.out.below HB2)
  replace T2 := Aside0.mk (T2.out.below HB2)
  replace O2 := Aside0.mk (O2.out.below HB2)
  replace T3 := Aside0.mk (T3.out.below HB2)
  replace O3 := Aside0.mk (O3.out.below HB2)
  have T4 := Aside0.mk (two_t w4 0 0 true false)
  have O4 := Aside0.mk (two_o w4 0 0 true false)
  clear HB1 HB2
  go_wp2_with fail
  with_reducible refine (step_is (g' := 0) (h' := 0) (a := false) (b := false) (by decide) _ HS.out).mono ?_
  rintro e w5 ⟨rfl, HB1⟩
  have HB2 := below_step HB1 (two_below w5 0 0 false false)
  replace HS := Aside0.mk (HS.out.below HB2)
  replace HB := Aside0.mk (below_step HB.out HB2)
  replace T1 := Aside0.mk (T1.out.below HB2)
  replace O1 := Aside0.mk (O1.out.below HB2)
  replace T2 := Aside0.mk (T2.out.below HB2)
  replace O2 := Aside0.mk (O2.out.below HB2)
  replace T3 := Aside0.mk (T3.out.below HB2)
  replace O3 := Aside0.mk (O3.out.below HB2)
  replace T4 := Aside0.mk (T4.out.below HB2)
  replace O4 := Aside0.mk (O4.out.below HB2)
  have T5 := Aside0.mk (two_t w5 0 0 false false)
  have O5 := Aside0.mk (two_o w5 0 0 false false)
  clear HB1 HB2
  go_wp2_with fail
  with_reducible refine (step_is (g' := 1) (h' := 0) (a := true) (b := false) (by decide) _ HS.out).mono ?_
  rintro e w6 ⟨rfl, HB1⟩
  have HB2 := below_step HB1 (two_below w6 1 0 true false)
  replace HS := Aside0.mk (HS.out.below HB2)
  replace HB := Aside0.mk (below_step HB.out HB2)
  replace T1 := Aside0.mk (T1.out.below HB2)
  replace O1 := Aside0.mk (O1.out.below HB2)
  replace T2 := Aside0.mk (T2.out.below HB2)
  replace O2 := Aside0.mk (O2.out.below HB2)
  replace T3 := Aside0.mk (T3.out.below HB2)
  replace O3 := Aside0.mk (O3.out.below HB2)
  replace T4 := Aside0.mk (T4.out.below HB2)
  replace O4 := Aside0.mk (O4.out.below HB2)
  replace T5 := Aside0.mk (T5.out.below HB2)
  replace O5 := Aside0.mk (O5.out.below HB2)
  have T6 := Aside0.mk (two_t w6 1 0 true false)
  have O6 := Aside0.mk (two_o w6 1 0 true false)
  clear HB1 HB2
  go_wp2_with fail
  with_reducible refine (known_calls _ HS.out).mono ?_
  rintro e w7 ⟨rfl, HB1⟩
  replace HS := Aside0.mk (HS.out.below HB1)
  replace HB := Aside0.mk (below_step HB.out HB1)
  replace T1 := Aside0.mk (T1.out.below HB1)
  replace O1 := Aside0.mk (O1.out.below HB1)
  replace T2 := Aside0.mk (T2.out.below HB1)
  replace O2 := Aside0.mk (O2.out.below HB1)
  replace T3 := Aside0.mk (T3.out.below HB1)
  replace O3 := Aside0.mk (O3.out.below HB1)
  replace T4 := Aside0.mk (T4.out.below HB1)
  replace O4 := Aside0.mk (O4.out.below HB1)
  replace T5 := Aside0.mk (T5.out.below HB1)
  replace O5 := Aside0.mk (O5.out.below HB1)
  replace T6 := Aside0.mk (T6.out.below HB1)
  replace O6 := Aside0.mk (O6.out.below HB1)
  clear HB1
  have t1_0 := T1.out.c0
  have t1_1 := T1.out.c1
  have o1_0 := O1.out.c0
  have o1_1 := O1.out.c1
  have t2_0 := T2.out.c0
  have t2_1 := T2.out.c1
  have o2_0 := O2.out.c0
  have o2_1 := O2.out.c1
  have t3_0 := T3.out.c0
  have t3_1 := T3.out.c1
  have o3_0 := O3.out.c0
  have o3_1 := O3.out.c1
  have t4_0 := T4.out.c0
  have t4_1 := T4.out.c1
  have o4_0 := O4.out.c0
  have o4_1 := O4.out.c1
  have t5_0 := T5.out.c0
  have t5_1 := T5.out.c1
  have o5_0 := O5.out.c0
  have o5_1 := O5.out.c1
  have t6_0 := T6.out.c0
  have t6_1 := T6.out.c1
  have o6_0 := O6.out.c0
  have o6_1 := O6.out.c1
  go_wp2_with fail
  with_reducible refine (valid_is (b := false) (by decide) _ HS.out).mono ?_
  rintro e w8 ⟨rfl, HB1⟩
  replace HS := Aside0.mk (HS.out.below HB1)
  replace HB := Aside0.mk (below_step HB.out HB1)
  clear HB1
  go_wp2_with fail
  with_reducible refine (valid_is (b := true) (by decide) _ HS.out).mono ?_
  rintro e w9 ⟨rfl, HB1⟩
  replace HB := Aside0.mk (below_step HB.out HB1)
  clear HB1
  go_wp2_with fail
  go_ret
  exact ⟨rfl, HB.out⟩
end Go.Proofs.YthnbokmnplipkaaDoor.A
