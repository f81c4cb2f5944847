import Derived.Test.YtpnkeealojgpcaaB
import Derived.Test.YtpnkeealojgpcaaQ
/- known, Jump, Stamp; the walks of ClockRuns and ClockHoldover. No condition beside the ranges that each theorem names. -/
namespace Go.Proofs.Ytpnkeealojgpcaa.A
open Go.RowKit Go.Proofs.YtpnkeealojgpcaaW.PrintWords Go.Proofs.YtpnkeealojgpcaaW.PrintLast Go.Proofs.YtpnkeealojgpcaaW.PrintMore
open Go.Proofs.Ytpnkeealojgpcaa
attribute [local go_sem] max2_int min2_int max_two min_two max_three min_three max_four min_four
set_option linter.unusedVariables false
set_option linter.unusedSimpArgs false

/-- A block that is a clock. -/
structure Cb (w : World) (b : Nat) (t r : Int) (k : Bool) (e s : Int) : Prop where
  blk : w.heap[b]? = some (.cells (cells5 t r k e s) 25 (0, 0))
section
variable {w w1 : World} {b : Nat} {t r e s : Int} {k : Bool}
theorem Cb.c0 (h : Cb w b t r k e s) : w.cell? ⟨b, 0, none⟩ = some (.int .i64 t) := blk_cell h.blk 0
theorem Cb.c1 (h : Cb w b t r k e s) : w.cell? ⟨b, 1, none⟩ = some (.int .i64 r) := blk_cell h.blk 1
theorem Cb.c2 (h : Cb w b t r k e s) : w.cell? ⟨b, 2, none⟩ = some (.bool k) := blk_cell h.blk 2
theorem Cb.c3 (h : Cb w b t r k e s) : w.cell? ⟨b, 3, none⟩ = some (.int .i64 e) := blk_cell h.blk 3
theorem Cb.c4 (h : Cb w b t r k e s) : w.cell? ⟨b, 4, none⟩ = some (.int .i64 s) := blk_cell h.blk 4
theorem Cb.fr (h : Cb w b t r k e s) (j : Nat) : w.frozen? ⟨b, j, none⟩ = false := blk_frozen h.blk j
theorem Cb.lt (h : Cb w b t r k e s) : b < w.heap.size := (Array.getElem?_eq_some_iff.1 h.blk).1
theorem Cb.below (h : Cb w b t r k e s) (hb : Below w.heap.size w w1) : Cb w1 b t r k e s := ⟨(hb.block b h.lt).trans h.blk⟩
theorem Cb.drawn (h : Cb w b t r k e s) (n : Nat) : Cb (w.drewN n) b t r k e s := ⟨h.blk⟩
theorem Cb.made (w : World) (t r : Int) (k : Bool) (e s : Int) : Cb (w.alloc (.cells (cells5 t r k e s) 25)) w.heap.size t r k e s := ⟨heap_alloc_new w _⟩
theorem Cb.put (h : Cb w b t r k e s) (t' r' : Int) (k' : Bool) (e' s' : Int) :
    Cb (((((w.setCell ⟨b, 0, none⟩ (.int .i64 t')).setCell ⟨b, 1, none⟩ (.int .i64 r')).setCell ⟨b, 2, none⟩ (.bool k')).setCell ⟨b, 3, none⟩ (.int .i64 e')).setCell ⟨b, 4, none⟩ (.int .i64 s')) b t' r' k' e' s' :=
  ⟨blk_set (blk_set (blk_set (blk_set (blk_set h.blk 0 _) 1 _) 2 _) 3 _) 4 _⟩
theorem Cb.far (h : Cb w b t r k e s) {b' : Nat} (hne : b ≠ b') (j : Nat) (u : Value) : Cb (w.setCell ⟨b', j, none⟩ u) b t r k e s := ⟨blk_far h.blk hne u⟩
theorem put_below {a : World} {B : Nat} (h : Below B a w) (hb : B ≤ b) (v0 v1 v2 v3 v4 : Value) :
    Below B a (((((w.setCell ⟨b, 0, none⟩ v0).setCell ⟨b, 1, none⟩ v1).setCell ⟨b, 2, none⟩ v2).setCell ⟨b, 3, none⟩ v3).setCell ⟨b, 4, none⟩ v4) :=
  below_set (below_set (below_set (below_set (below_set h _ hb _ _) _ hb _ _) _ hb _ _) _ hb _ _) _ hb _ _
end

set_option maxHeartbeats 1000000 in
theorem jump_calls (t r e s by_ : Int) (k : Bool) (w : World) :
    Calls Try.prog 20 #[ck t r k e s, .int .i64 by_] w fun e' w' => e' = .returned (ck (wrap64 (t + by_)) r k e s) ∧ Below w.heap.size w w' := by
  go_enter Try.func20, Try.ntmps20
  go_wp2_with fail
  with_reducible refine (gain_calls t r e s by_ k _ _ (blk_alloc (heap_alloc_new w _) _)).mono ?_
  rintro e' w' ⟨rfl, rfl⟩
  obtain ⟨t', ht⟩ : ∃ x, wrap64 (t + by_) = x := ⟨_, rfl⟩
  have HT := Aside0.mk ht
  rw [ht]
  clear ht
  go_wp2_with fail
  refine bodyPost_ret (v := ck t' r k e s) (by simp [results, Try.results20, go_sem]) rfl ⟨by rw [HT.out], ?_⟩
  repeat (first | with_reducible exact Below.refl _ _ | with_reducible apply pw_below_drewN | with_reducible apply below_alloc | (with_reducible refine below_set ?_ _ (by omega) _ _))

set_option maxHeartbeats 1000000 in
theorem known_calls (w : World) : Calls Try.prog 8 #[] w fun e w' => e = .returned (.bool true) ∧ Below w.heap.size w w' := by
  go_enter Try.func8, Try.ntmps8
  go_wp2_with fail
  refine (new_calls 0 _).mono ?_
  rintro e w1 ⟨rfl, HB⟩
  have HB := Aside0.mk HB
  go_wp2_with fail
  refine (step_calls 0 0 0 0 25 false _ (by omega) (by omega) (by omega)).mono ?_
  rw [show (0 : Int) + 20000 + gainQ 0 25 = 20000 by decide, show gainR 0 25 = 500000 by decide, show stepS false 0 = 0 from rfl]
  rintro e w2 ⟨rfl, HB'⟩
  have HB := Aside0.mk (below_step HB.out HB')
  clear HB'
  go_wp2_with fail
  refine (step_calls 20000 500000 0 0 25 false _ (by omega) (by omega) (by omega)).mono ?_
  rw [show (20000 : Int) + 20000 + gainQ 500000 25 = 40001 by decide, show gainR 500000 25 = 0 by decide, show stepS false 0 = 0 from rfl]
  rintro e w3 ⟨rfl, HB'⟩
  have HB := Aside0.mk (below_step HB.out HB')
  clear HB'
  go_wp2_with fail
  refine (class_calls 40001 0 0 0 false (by omega) (by omega) _).mono ?_
  rw [show classV false 0 0 = 2 from rfl]
  rintro e w4 ⟨rfl, HB'⟩
  have HB'' := Aside0.mk HB'
  clear HB'
  go_wp2_with fail
  go_ret
  exact ⟨rfl, below_step (below_alloc HB.out _) HB''.out⟩
end Go.Proofs.Ytpnkeealojgpcaa.A
