import Derived.Test.YtcehcblhmgeonaaE
/- The walk of ResampleMirror; no condition. -/
namespace Go.Proofs.Ytcehcblhmgeonaa.A
open Go.RowKit Go.Proofs.YtcehcblhmgeonaaW.PrintWords Go.Proofs.YtcehcblhmgeonaaW.PrintLast Go.Proofs.YtcehcblhmgeonaaW.PrintMore
attribute [local go_sem] max2_int min2_int max_two min_two max_three min_three max_four min_four
set_option linter.unusedVariables false

theorem Box4.set0 {w : World} {b : Nat} {s0 s1 s2 s3 : Int} (h : Box4 w b s0 s1 s2 s3) (x : Int) : Box4 (w.setCell ⟨b, 0, none⟩ (.int .i64 x)) b x s1 s2 s3 := ⟨by rw [blk_set h.blk]; rfl⟩
theorem Box4.set1 {w : World} {b : Nat} {s0 s1 s2 s3 : Int} (h : Box4 w b s0 s1 s2 s3) (x : Int) : Box4 (w.setCell ⟨b, 1, none⟩ (.int .i64 x)) b s0 x s2 s3 := ⟨by rw [blk_set h.blk]; rfl⟩
theorem Box4.set2 {w : World} {b : Nat} {s0 s1 s2 s3 : Int} (h : Box4 w b s0 s1 s2 s3) (x : Int) : Box4 (w.setCell ⟨b, 2, none⟩ (.int .i64 x)) b s0 s1 x s3 := ⟨by rw [blk_set h.blk]; rfl⟩
theorem Box4.set3 {w : World} {b : Nat} {s0 s1 s2 s3 : Int} (h : Box4 w b s0 s1 s2 s3) (x : Int) : Box4 (w.setCell ⟨b, 3, none⟩ (.int .i64 x)) b s0 s1 s2 x := ⟨by rw [blk_set h.blk]; rfl⟩
theorem Box4.free {w : World} {b : Nat} {s0 s1 s2 s3 : Int} (h : Box4 w b s0 s1 s2 s3) (j : Nat) : w.frozen? ⟨b, j, none⟩ = false := by
  simp [World.frozen?, h.blk]

/-- a sample out of any number -/
def nrm (x : Int) : Int := x % 32767 - 16383
theorem nrm_inS (x : Int) : inS (nrm x) = true := by rw [inS_iff]; unfold nrm; omega
def tr (k j : Nat) (x : Int) : Int := if j < k then nrm x else x
theorem below_set {B : Nat} {a w : World} (h : Below B a w) (b : Nat) (hb : B ≤ b) (j : Nat) (u : Value) : Below B a (w.setCell ⟨b, j, none⟩ u) := h.setCell hb u

theorem cubN_mirror (s0 s1 s2 s3 num den : Int) : cubN s3 s2 s1 s0 (den - num) den = cubN s0 s1 s2 s3 num den := by
  unfold cubN
  have e1 : den - num - den = -num := by omega
  have e2 : den - num - 2 * den = -(num + den) := by omega
  have e3 : den - num + den = -(num - 2 * den) := by omega
  have e4 : den - num = -(num - den) := by omega
  grind

theorem cub_mirror (s0 s1 s2 s3 num den : Int) (h : cubOk s0 s1 s2 s3 num den = true) :
    cubOk s3 s2 s1 s0 (den - num) den = true ∧ cubA s3 s2 s1 s0 (den - num) den = cubA s0 s1 s2 s3 num den ∧ cubB s3 s2 s1 s0 (den - num) den = cubB s0 s1 s2 s3 num den := by
  have h2 : cubOk s3 s2 s1 s0 (den - num) den = true := by
    rw [cubOk_iff, frac_iff] at h ⊢
    exact ⟨⟨h.1.2.2.2, h.1.2.2.1, h.1.2.1, h.1.1⟩, by omega⟩
  exact ⟨h2, by unfold cubA; rw [if_pos h, if_pos h2, cubN_mirror], by unfold cubB; rw [if_pos h, if_pos h2, cubN_mirror]⟩

set_option maxHeartbeats 2000000 in
theorem ResampleMirror_walk (s0 s1 s2 s3 num den : Int) (w : World) (hw : (Lit.int .i64 s0).wf = true ∧ (Lit.int .i64 s1).wf = true ∧ (Lit.int .i64 s2).wf = true ∧ (Lit.int .i64 s3).wf = true) (hw1 : (Lit.int .i64 num).wf = true) (hw2 : (Lit.int .i64 den).wf = true) :
    Calls Try.prog 4 #[.agg #[.int .i64 s0, .int .i64 s1, .int .i64 s2, .int .i64 s3], .int .i64 num, .int .i64 den] w fun e w' => e = .returned (.bool true) ∧ Below w.heap.size w w' := by
  have BX := Box4.made w s0 s1 s2 s3
  have HW := Aside0.mk (below_alloc (Below.refl w.heap.size w) (.cells #[.int .i64 s0, .int .i64 s1, .int .i64 s2, .int .i64 s3] 22))
  have BX := Aside0.mk BX
  clear hw hw1 hw2
  go_enter Try.func4, Try.ntmps4
  go_wp2_with fail
  refine (known_calls _).mono ?_
  rintro e w1 ⟨rfl, HB⟩
  have BX := Aside0.mk (BX.out.below HB)
  have HW := Aside0.mk (below_then HW.out (by simp) HB)
  clear HB
  go_wp2_with fail
  refine (fraction_calls _ _ _).mono ?_
  rintro e w2 ⟨rfl, ⟨nd, rfl⟩⟩
  have BX := Aside0.mk (BX.out.drawn nd)
  have HW := Aside0.mk (pw_below_drewN HW.out nd)
  have hD := fracD_range den
  have hN := fracN_range num den
  have HF := Aside0.mk (frac_ok num den)
  generalize fracN num den = N at *
  generalize fracD den = D at *
  go_wp2_with fail
  go_loopw [7] (fun i wr => ∃ k : Nat, k ≤ 4 ∧ i = .int .i64 k ∧ Aside0 (Box4 wr w.heap.size (tr k 0 s0) (tr k 1 s1) (tr k 2 s2) (tr k 3 s3)) ∧ Aside0 (Below w.heap.size w wr))
     (fun i _ => 4 - (intOf i).toNat)
  case atStart => exact ⟨0, by omega, rfl, ⟨by simpa [tr] using BX.out⟩, HW⟩
  case round =>
    clear BX HW
    obtain ⟨k, hk, rfl, BX, HW⟩ := hrel
    by_cases hlt : k < 4
    · obtain rfl | rfl | rfl | rfl : k = 0 ∨ k = 1 ∨ k = 2 ∨ k = 3 := by omega
      · have c := BX.out.c0
        have fz := BX.out.free 0
        simp only [tr, Nat.lt_irrefl, if_false] at c
        go_wp2_with fail
        refine (within_calls _ _ (by omega) (by omega) _).mono ?_
        rintro e w' ⟨rfl, ⟨nd, rfl⟩⟩
        have g := nrm_inS s0
        rw [inS_iff] at g
        unfold nrm at g
        go_wp2_with fail
        go_roundw
        case rel => exact ⟨1, by omega, rfl, ⟨by have := (BX.out.drawn nd).set0 (s0 % 32767 - 16383); simpa [tr, nrm] using this⟩, ⟨by repeat (first | exact HW.out | apply pw_below_drewN | (refine below_set ?_ _ (Nat.le_refl _) _ _))⟩⟩
        case measure => simp [intOf]
      · have c := BX.out.c1
        have fz := BX.out.free 1
        simp only [tr, Nat.lt_irrefl, if_false] at c
        go_wp2_with fail
        refine (within_calls _ _ (by omega) (by omega) _).mono ?_
        rintro e w' ⟨rfl, ⟨nd, rfl⟩⟩
        have g := nrm_inS s1
        rw [inS_iff] at g
        unfold nrm at g
        go_wp2_with fail
        go_roundw
        case rel => exact ⟨2, by omega, rfl, ⟨by have := (BX.out.drawn nd).set1 (s1 % 32767 - 16383); simpa [tr, nrm] using this⟩, ⟨by repeat (first | exact HW.out | apply pw_below_drewN | (refine below_set ?_ _ (Nat.le_refl _) _ _))⟩⟩
        case measure => simp [intOf]
      · have c := BX.out.c2
        have fz := BX.out.free 2
        simp only [tr, Nat.lt_irrefl, if_false] at c
        go_wp2_with fail
        refine (within_calls _ _ (by omega) (by omega) _).mono ?_
        rintro e w' ⟨rfl, ⟨nd, rfl⟩⟩
        have g := nrm_inS s2
        rw [inS_iff] at g
        unfold nrm at g
        go_wp2_with fail
        go_roundw
        case rel => exact ⟨3, by omega, rfl, ⟨by have := (BX.out.drawn nd).set2 (s2 % 32767 - 16383); simpa [tr, nrm] using this⟩, ⟨by repeat (first | exact HW.out | apply pw_below_drewN | (refine below_set ?_ _ (Nat.le_refl _) _ _))⟩⟩
        case measure => simp [intOf]
      · have c := BX.out.c3
        have fz := BX.out.free 3
        simp only [tr, Nat.lt_irrefl, if_false] at c
        go_wp2_with fail
        refine (within_calls _ _ (by omega) (by omega) _).mono ?_
        rintro e w' ⟨rfl, ⟨nd, rfl⟩⟩
        have g := nrm_inS s3
        rw [inS_iff] at g
        unfold nrm at g
        go_wp2_with fail
        go_roundw
        case rel => exact ⟨4, by omega, rfl, ⟨by have := (BX.out.drawn nd).set3 (s3 % 32767 - 16383); simpa [tr, nrm] using this⟩, ⟨by repeat (first | exact HW.out | apply pw_below_drewN | (refine below_set ?_ _ (Nat.le_refl _) _ _))⟩⟩
        case measure => simp [intOf]
    · obtain rfl : k = 4 := by omega
      have ok : cubOk (nrm s0) (nrm s1) (nrm s2) (nrm s3) N D = true := by rw [cubOk_iff]; exact ⟨⟨nrm_inS _, nrm_inS _, nrm_inS _, nrm_inS _⟩, HF.out⟩
      have BX : Aside0 (Box4 wr w.heap.size (nrm s0) (nrm s1) (nrm s2) (nrm s3)) := ⟨by simpa [tr] using BX.out⟩
      have HM := Aside0.mk (cub_mirror _ _ _ _ _ _ ok)
      have HO := Aside0.mk ok
      clear ok hlt hk
      generalize nrm s0 = t0 at *
      generalize nrm s1 = t1 at *
      generalize nrm s2 = t2 at *
      generalize nrm s3 = t3 at *
      go_wp2_with ((with_reducible refine gate_dst (N := 34) rfl ?_); refine wpList_load_row rfl 22 _ rfl _ rfl 22 _ (0, 0) _ BX.out.blk Try.underlying22 rfl (by kernel_rfl) ?_)
      refine (cubic_calls _ _ _ _ _ _ _).mono ?_
      rintro e w4 ⟨rfl, HB⟩
      have BX := Aside0.mk (BX.out.below HB)
      have HW := Aside0.mk (below_step HW.out HB)
      clear HB
      have c0 := BX.out.c0
      have c1 := BX.out.c1
      have c2 := BX.out.c2
      have c3 := BX.out.c3
      go_wp2_with fail
      refine (cubic_calls _ _ _ _ _ _ _).mono ?_
      rw [HM.out.2.1, HM.out.2.2, HM.out.1, HO.out]
      rintro e w5 ⟨rfl, HB⟩
      have HW := Aside0.mk (below_step HW.out HB)
      clear HB
      simp only [errE, if_true]
      go_wp2_with fail
      go_ret
      exact ⟨rfl, HW.out⟩
end Go.Proofs.Ytcehcblhmgeonaa.A
