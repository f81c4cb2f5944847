import Derived.Test.YtcehcblhmgeonaaD
/- The walk of ResampleInterpolates; no condition. -/
namespace Go.Proofs.Ytcehcblhmgeonaa.A
open Go.RowKit Go.Proofs.YtcehcblhmgeonaaW.PrintWords Go.Proofs.YtcehcblhmgeonaaW.PrintLast Go.Proofs.YtcehcblhmgeonaaW.PrintMore
attribute [local go_sem] max2_int min2_int max_two min_two max_three min_three max_four min_four
set_option linter.unusedVariables false

/-- A block that is an array of four ints. -/
structure Box4 (w : World) (b : Nat) (s0 s1 s2 s3 : Int) : Prop where
  blk : w.heap[b]? = some (.cells #[.int .i64 s0, .int .i64 s1, .int .i64 s2, .int .i64 s3] 22 (0, 0))
theorem Box4.c0 {w : World} {b : Nat} {s0 s1 s2 s3 : Int} (h : Box4 w b s0 s1 s2 s3) : w.cell? ⟨b, 0, none⟩ = some (.int .i64 s0) := by rw [cell_of_row w b 0 _ _ _ h.blk]; rfl
theorem Box4.c1 {w : World} {b : Nat} {s0 s1 s2 s3 : Int} (h : Box4 w b s0 s1 s2 s3) : w.cell? ⟨b, 1, none⟩ = some (.int .i64 s1) := by rw [cell_of_row w b 1 _ _ _ h.blk]; rfl
theorem Box4.c2 {w : World} {b : Nat} {s0 s1 s2 s3 : Int} (h : Box4 w b s0 s1 s2 s3) : w.cell? ⟨b, 2, none⟩ = some (.int .i64 s2) := by rw [cell_of_row w b 2 _ _ _ h.blk]; rfl
theorem Box4.c3 {w : World} {b : Nat} {s0 s1 s2 s3 : Int} (h : Box4 w b s0 s1 s2 s3) : w.cell? ⟨b, 3, none⟩ = some (.int .i64 s3) := by rw [cell_of_row w b 3 _ _ _ h.blk]; rfl
theorem Box4.below {w w1 : World} {b : Nat} {s0 s1 s2 s3 : Int} (h : Box4 w b s0 s1 s2 s3) (hb : Below w.heap.size w w1) : Box4 w1 b s0 s1 s2 s3 :=
  ⟨(hb.block b (Array.getElem?_eq_some_iff.1 h.blk).1).trans h.blk⟩
theorem Box4.drawn {w : World} {b : Nat} {s0 s1 s2 s3 : Int} (h : Box4 w b s0 s1 s2 s3) (n : Nat) : Box4 (w.drewN n) b s0 s1 s2 s3 := h.below (pw_below_drewN (Below.refl _ _) n)
theorem Box4.made (w : World) (s0 s1 s2 s3 : Int) : Box4 (w.alloc (.cells #[.int .i64 s0, .int .i64 s1, .int .i64 s2, .int .i64 s3] 22)) w.heap.size s0 s1 s2 s3 :=
  ⟨heap_alloc_new w _⟩

set_option maxHeartbeats 1000000 in
theorem ResampleInterpolates_walk (s0 s1 s2 s3 num den : Int) (w : World) (hw : (Lit.int .i64 s0).wf = true ∧ (Lit.int .i64 s1).wf = true ∧ (Lit.int .i64 s2).wf = true ∧ (Lit.int .i64 s3).wf = true) (hw1 : (Lit.int .i64 num).wf = true) (hw2 : (Lit.int .i64 den).wf = true) :
    Calls Try.prog 7 #[.agg #[.int .i64 s0, .int .i64 s1, .int .i64 s2, .int .i64 s3], .int .i64 num, .int .i64 den] w fun e w' => e = .returned (.bool true) ∧ Below w.heap.size w w' := by
  have BX := Box4.made w s0 s1 s2 s3
  have HW := Aside0.mk (below_alloc (Below.refl w.heap.size w) (.cells #[.int .i64 s0, .int .i64 s1, .int .i64 s2, .int .i64 s3] 22))
  have BX := Aside0.mk BX
  clear hw hw1 hw2
  go_enter Try.func7, Try.ntmps7
  go_wp2_with fail
  refine (known_calls _).mono ?_
  rintro e w1 ⟨rfl, HB⟩
  have BX := Aside0.mk (BX.out.below HB)
  have HW := Aside0.mk (below_then HW.out (by simp) HB)
  clear HB
  have c0 := BX.out.c0
  have c1 := BX.out.c1
  go_wp2_with fail
  refine (linear_calls _ _ _ _ _).mono ?_
  rintro e w2 ⟨rfl, HB⟩
  have BX := Aside0.mk (BX.out.below HB)
  have HW := Aside0.mk (below_step HW.out HB)
  clear HB
  have c0 := BX.out.c0
  have c1 := BX.out.c1
  go_wp2_with fail
  refine (rlinear_calls _ _ _ _ _).mono ?_
  rintro e w3 ⟨rfl, HB⟩
  have BX := Aside0.mk (BX.out.below HB)
  have HW := Aside0.mk (below_step HW.out HB)
  clear HB
  go_wp2_with ((with_reducible refine gate_dst (N := 56) rfl ?_); refine wpList_load_row rfl 22 _ rfl _ rfl 22 _ (0, 0) _ BX.out.blk Try.underlying22 rfl (by kernel_rfl) ?_)
  refine (cubic_calls _ _ _ _ _ _ _).mono ?_
  rintro e w4 ⟨rfl, HB⟩
  have BX := Aside0.mk (BX.out.below HB)
  have HW := Aside0.mk (below_step HW.out HB)
  clear HB
  go_wp2_with ((with_reducible refine gate_dst (N := 64) rfl ?_); refine wpList_load_row rfl 22 _ rfl _ rfl 22 _ (0, 0) _ BX.out.blk Try.underlying22 rfl (by kernel_rfl) ?_)
  refine (rcubic_calls _ _ _ _ _ _ _).mono ?_
  rintro e w5 ⟨rfl, HB⟩
  have HW := Aside0.mk (below_step HW.out HB)
  clear HB
  go_wp2_with fail
  refine (nearest_calls _ _ _).mono ?_
  rintro e w' ⟨rfl, ⟨nd, rfl⟩⟩
  go_wp2_with fail
  refine (rnearest_calls _ _ _).mono ?_
  rintro e w' ⟨rfl, ⟨nd, rfl⟩⟩
  go_wp2_with fail
  go_ret
  have HB := HW.out
  exact ⟨rfl, by repeat (first | exact HB | apply below_alloc | apply pw_below_drewN)⟩
end Go.Proofs.Ytcehcblhmgeonaa.A
