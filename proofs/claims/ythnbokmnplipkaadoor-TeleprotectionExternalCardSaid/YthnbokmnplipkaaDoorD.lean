import Derived.Test.YthnbokmnplipkaaDoorC
/- known. The condition Sch is the contract's own. -/
namespace Go.Proofs.YthnbokmnplipkaaDoor.A
open Go.RowKit Go.Proofs.YthnbokmnplipkaaDoorW.PrintWords Go.Proofs.YthnbokmnplipkaaDoorW.PrintLast Go.Proofs.YthnbokmnplipkaaDoorW.PrintMore
open Go.Proofs.YthnbokmnplipkaaDoor.PTeleprotectionSteps
open Go.Proofs.YthnbokmnplipkaaDoor
attribute [local go_sem] max2_int min2_int max_two min_two max_three min_three max_four min_four
set_option linter.unusedVariables false
set_option linter.unusedSimpArgs false

/-- Step, with its answer told. -/
theorem step_is {s wait guard g h : Int} {z1 z2 rv rc : Bool} {g' h' : Int} {a b : Bool} (e : stepV s wait guard g h z1 z2 rv rc = (g', h', a, b)) (w : World) (hs : Sch w) :
    Calls Tryd.prog 9 #[.int .i64 s, .int .i64 wait, .int .i64 guard, tele g h, inp z1 z2 rv rc] w fun e w' =>
      e = .returned (.tuple #[tele g' h', outp a b]) ∧ Below w.heap.size w w' := by
  have := step_calls s wait guard g h z1 z2 rv rc w hs
  rw [e] at this
  exact this

/-- A block that is a state, a block that is an output. -/
structure Tb (w : World) (b : Nat) (x y : Int) : Prop where
  blk : w.heap[b]? = some (.cells #[.int .i64 x, .int .i64 y] 23 (0, 0))
structure Ob (w : World) (b : Nat) (u v : Bool) : Prop where
  blk : w.heap[b]? = some (.cells #[.bool u, .bool v] 25 (0, 0))
section
variable {w w1 : World} {b : Nat} {x y : Int} {u v : Bool}
theorem Tb.c0 (h : Tb w b x y) : w.cell? ⟨b, 0, none⟩ = some (.int .i64 x) := blk_cell h.blk 0
theorem Tb.c1 (h : Tb w b x y) : w.cell? ⟨b, 1, none⟩ = some (.int .i64 y) := blk_cell h.blk 1
theorem Tb.fr (h : Tb w b x y) (j : Nat) : w.frozen? ⟨b, j, none⟩ = false := blk_frozen h.blk j
theorem Tb.lt (h : Tb w b x y) : b < w.heap.size := blk_lt h.blk
theorem Tb.below (h : Tb w b x y) (hb : Below w.heap.size w w1) : Tb w1 b x y := ⟨(hb.block b h.lt).trans h.blk⟩
theorem Ob.c0 (h : Ob w b u v) : w.cell? ⟨b, 0, none⟩ = some (.bool u) := blk_cell h.blk 0
theorem Ob.c1 (h : Ob w b u v) : w.cell? ⟨b, 1, none⟩ = some (.bool v) := blk_cell h.blk 1
theorem Ob.fr (h : Ob w b u v) (j : Nat) : w.frozen? ⟨b, j, none⟩ = false := blk_frozen h.blk j
theorem Ob.lt (h : Ob w b u v) : b < w.heap.size := blk_lt h.blk
theorem Ob.below (h : Ob w b u v) (hb : Below w.heap.size w w1) : Ob w1 b u v := ⟨(hb.block b h.lt).trans h.blk⟩
/-- What 't, a := Step(..)' makes. -/
abbrev twoW (w : World) (x y : Int) (u v : Bool) : World := (w.alloc (.cells #[.int .i64 x, .int .i64 y] 23)).alloc (.cells #[.bool u, .bool v] 25)
theorem two_below (w : World) (x y : Int) (u v : Bool) : Below w.heap.size w (twoW w x y u v) := below_alloc (below_alloc (Below.refl _ _) _) _
theorem two_t (w : World) (x y : Int) (u v : Bool) : Tb (twoW w x y u v) w.heap.size x y := ⟨blk_alloc (heap_alloc_new w _) _⟩
theorem two_o (w : World) (x y : Int) (u v : Bool) : Ob (twoW w x y u v) (w.heap.size + 1) u v := ⟨by have := heap_alloc_new (w.alloc (.cells #[.int .i64 x, .int .i64 y] 23)) (.cells #[.bool u, .bool v] 25); rwa [World.size_alloc] at this⟩
end

set_option maxHeartbeats 2000000 in
theorem known_calls (w : World) (hs : Sch w) : Calls Tryd.prog 10 #[] w fun e w' => e = .returned (.bool true) ∧ Below w.heap.size w w' := by
  have HS := Aside0.mk hs
  clear hs
  go_enter Tryd.func10, Tryd.ntmps10
  go_wp2_with fail
  with_reducible refine (step_is (g' := 0) (h' := 0) (a := true) (b := true) (by decide) _ HS.out).mono ?_
  rintro e w1 ⟨rfl, HB⟩
  replace HS := Aside0.mk (HS.out.below HB)
  replace HS := Aside0.mk (HS.out.below (two_below w1 0 0 true true))
  have T1 := Aside0.mk (two_t w1 0 0 true true)
  have O1 := Aside0.mk (two_o w1 0 0 true true)
  have HB1 := Aside0.mk (below_step HB (two_below w1 0 0 true true))
  clear HB
  go_wp2_with fail
  with_reducible refine (step_is (g' := 1) (h' := 0) (a := false) (b := false) (by decide) _ HS.out).mono ?_
  rintro e w2 ⟨rfl, HB⟩
  replace T1 := Aside0.mk ((T1.out.below HB).below (two_below w2 1 0 false false))
  replace O1 := Aside0.mk ((O1.out.below HB).below (two_below w2 1 0 false false))
  replace HB1 := Aside0.mk (below_step (below_step HB1.out HB) (two_below w2 1 0 false false))
  have T2 := Aside0.mk (two_t w2 1 0 false false)
  have O2 := Aside0.mk (two_o w2 1 0 false false)
  clear HB HS
  have a0 := T1.out.c0
  have a1 := T1.out.c1
  have b0 := O1.out.c0
  have b1 := O1.out.c1
  have c0 := T2.out.c0
  have c1 := T2.out.c1
  have d0 := O2.out.c0
  have d1 := O2.out.c1
  go_wp2_with fail
  go_ret
  exact ⟨rfl, HB1.out⟩
end Go.Proofs.YthnbokmnplipkaaDoor.A
