import Derived.Test.YtcehcblhmgeonaaG
/- The walk of ResampleLowest; no condition. -/
namespace Go.Proofs.Ytcehcblhmgeonaa.A
open Go.RowKit Go.Proofs.YtcehcblhmgeonaaW.PrintWords Go.Proofs.YtcehcblhmgeonaaW.PrintLast Go.Proofs.YtcehcblhmgeonaaW.PrintMore
attribute [local go_sem] max2_int min2_int max_two min_two max_three min_three max_four min_four
set_option linter.unusedVariables false

theorem lgcd_one (a b : Int) (h : Int.gcd a b = 1) (h0 : -9223372036854775807 ≤ a) (h1 : a ≤ 9223372036854775807) (hb : 0 < b) (w : World) :
    Calls Try.prog 15 #[.int .i64 a, .int .i64 b] w fun e w' => e = .returned (.int .i64 1) ∧ Drawn0 w w' :=
  PResampleLowest.substationlaw19_gcd.calls _ a b _ w (by rw [lgcd_f a b h0 h1 hb, h]; rfl)

set_option maxHeartbeats 2000000 in
theorem ResampleLowest_walk (s0 s1 s2 s3 num den : Int) (w : World) (hw : (Lit.int .i64 s0).wf = true ∧ (Lit.int .i64 s1).wf = true ∧ (Lit.int .i64 s2).wf = true ∧ (Lit.int .i64 s3).wf = true) (hw1 : (Lit.int .i64 num).wf = true) (hw2 : (Lit.int .i64 den).wf = true) :
    Calls Try.prog 5 #[.agg #[.int .i64 s0, .int .i64 s1, .int .i64 s2, .int .i64 s3], .int .i64 num, .int .i64 den] w fun e w' => e = .returned (.bool true) ∧ Below w.heap.size w w' := by
  have BX := Box4.made w s0 s1 s2 s3
  have HW := Aside0.mk (below_alloc (Below.refl w.heap.size w) (.cells #[.int .i64 s0, .int .i64 s1, .int .i64 s2, .int .i64 s3] 22))
  have BX := Aside0.mk BX
  clear hw hw1 hw2
  go_enter Try.func5, Try.ntmps5
  go_wp2_with fail
  refine (known_calls _).mono ?_
  rintro e w1 ⟨rfl, HB⟩
  have BX := Aside0.mk (BX.out.below HB)
  have HW := Aside0.mk (below_then HW.out (by simp) HB)
  clear HB
  go_wp2_with fail
  refine (fraction_calls _ _ _).mono ?_
  rintro e w2 ⟨rfl, ⟨nd, rfl⟩⟩
  have BX := Aside0.mk (BX.out.drawn nd)
  have HW := Aside0.mk (pw_below_drewN HW.out nd)
  have hD := fracD_range den
  have hN := fracN_range num den
  have HF := Aside0.mk (frac_ok num den)
  generalize fracN num den = N at *
  generalize fracD den = D at *
  go_wp2_with fail
  go_loopw [7] (fun i wr => ∃ k : Nat, k ≤ 4 ∧ i = .int .i64 k ∧ Aside0 (Box4 wr w.heap.size (tr k 0 s0) (tr k 1 s1) (tr k 2 s2) (tr k 3 s3)) ∧ Aside0 (Below w.heap.size w wr))
     (fun i _ => 4 - (intOf i).toNat)
  case atStart => exact ⟨0, by omega, rfl, ⟨by simpa [tr] using BX.out⟩, HW⟩
  case round =>
    clear BX HW
    obtain ⟨k, hk, rfl, BX, HW⟩ := hrel
    by_cases hlt : k < 4
    · obtain rfl | rfl | rfl | rfl : k = 0 ∨ k = 1 ∨ k = 2 ∨ k = 3 := by omega
      · have c := BX.out.c0
        have fz := BX.out.free 0
        simp only [tr, Nat.lt_irrefl, if_false] at c
        go_wp2_with fail
        refine (within_calls _ _ (by omega) (by omega) _).mono ?_
        rintro e w' ⟨rfl, ⟨nd, rfl⟩⟩
        have g := nrm_inS s0
        rw [inS_iff] at g
        unfold nrm at g
        go_wp2_with fail
        go_roundw
        case rel => exact ⟨1, by omega, rfl, ⟨by have := (BX.out.drawn nd).set0 (s0 % 32767 - 16383); simpa [tr, nrm] using this⟩, ⟨by repeat (first | exact HW.out | apply pw_below_drewN | (refine below_set ?_ _ (Nat.le_refl _) _ _))⟩⟩
        case measure => simp [intOf]
      · have c := BX.out.c1
        have fz := BX.out.free 1
        simp only [tr, Nat.lt_irrefl, if_false] at c
        go_wp2_with fail
        refine (within_calls _ _ (by omega) (by omega) _).mono ?_
        rintro e w' ⟨rfl, ⟨nd, rfl⟩⟩
        have g := nrm_inS s1
        rw [inS_iff] at g
        unfold nrm at g
        go_wp2_with fail
        go_roundw
        case rel => exact ⟨2, by omega, rfl, ⟨by have := (BX.out.drawn nd).set1 (s1 % 32767 - 16383); simpa [tr, nrm] using this⟩, ⟨by repeat (first | exact HW.out | apply pw_below_drewN | (refine below_set ?_ _ (Nat.le_refl _) _ _))⟩⟩
        case measure => simp [intOf]
      · have c := BX.out.c2
        have fz := BX.out.free 2
        simp only [tr, Nat.lt_irrefl, if_false] at c
        go_wp2_with fail
        refine (within_calls _ _ (by omega) (by omega) _).mono ?_
        rintro e w' ⟨rfl, ⟨nd, rfl⟩⟩
        have g := nrm_inS s2
        rw [inS_iff] at g
        unfold nrm at g
        go_wp2_with fail
        go_roundw
        case rel => exact ⟨3, by omega, rfl, ⟨by have := (BX.out.drawn nd).set2 (s2 % 32767 - 16383); simpa [tr, nrm] using this⟩, ⟨by repeat (first | exact HW.out | apply pw_below_drewN | (refine below_set ?_ _ (Nat.le_refl _) _ _))⟩⟩
        case measure => simp [intOf]
      · have c := BX.out.c3
        have fz := BX.out.free 3
        simp only [tr, Nat.lt_irrefl, if_false] at c
        go_wp2_with fail
        refine (within_calls _ _ (by omega) (by omega) _).mono ?_
        rintro e w' ⟨rfl, ⟨nd, rfl⟩⟩
        have g := nrm_inS s3
        rw [inS_iff] at g
        unfold nrm at g
        go_wp2_with fail
        go_roundw
        case rel => exact ⟨4, by omega, rfl, ⟨by have := (BX.out.drawn nd).set3 (s3 % 32767 - 16383); simpa [tr, nrm] using this⟩, ⟨by repeat (first | exact HW.out | apply pw_below_drewN | (refine below_set ?_ _ (Nat.le_refl _) _ _))⟩⟩
        case measure => simp [intOf]
    · obtain rfl : k = 4 := by omega
      have ok : cubOk (nrm s0) (nrm s1) (nrm s2) (nrm s3) N D = true := by rw [cubOk_iff]; exact ⟨⟨nrm_inS _, nrm_inS _, nrm_inS _, nrm_inS _⟩, HF.out⟩
      have BX : Aside0 (Box4 wr w.heap.size (nrm s0) (nrm s1) (nrm s2) (nrm s3)) := ⟨by simpa [tr] using BX.out⟩
      have HO := Aside0.mk ok
      clear ok hlt hk
      generalize nrm s0 = t0 at *
      generalize nrm s1 = t1 at *
      generalize nrm s2 = t2 at *
      generalize nrm s3 = t3 at *
      have LF := Aside0.mk (low_facts _ _ _ _ _ _ HO.out)
      have c1 := BX.out.c1
      have c2 := BX.out.c2
      go_wp2_with fail
      refine (linear_calls _ _ _ _ _).mono ?_
      rw [LF.out.1]
      rintro e w4 ⟨rfl, HB⟩
      have BX := Aside0.mk (BX.out.below HB)
      have HW := Aside0.mk (below_step HW.out HB)
      clear HB
      simp only [errE, if_true]
      go_wp2_with ((with_reducible refine gate_dst (N := 48) rfl ?_); refine wpList_load_row rfl 22 _ rfl _ rfl 22 _ (0, 0) _ BX.out.blk Try.underlying22 rfl (by kernel_rfl) ?_)
      refine (cubic_calls _ _ _ _ _ _ _).mono ?_
      rw [HO.out]
      rintro e w5 ⟨rfl, HB⟩
      have BX := Aside0.mk (BX.out.below HB)
      have HW := Aside0.mk (below_step HW.out HB)
      clear HB
      simp only [errE, if_true]
      have HE0 : Aside0 (N = 0 → linA t1 t2 N D = t1 ∧ linB t1 t2 N D = 1 ∧ cubA t0 t1 t2 t3 N D = t1 ∧ cubB t0 t1 t2 t3 N D = 1) := ⟨by rintro rfl; exact ends_zero _ _ _ _ _ HO.out⟩
      have HE1 : Aside0 (N = D → linA t1 t2 N D = t2 ∧ linB t1 t2 N D = 1 ∧ cubA t0 t1 t2 t3 N D = t2 ∧ cubB t0 t1 t2 t3 N D = 1) := ⟨by intro e; subst e; exact ends_one _ _ _ _ _ HO.out⟩
      have LF := Aside0.mk LF.out.2
      generalize linA t1 t2 N D = a at *
      generalize linB t1 t2 N D = b at *
      generalize cubA t0 t1 t2 t3 N D = p at *
      generalize cubB t0 t1 t2 t3 N D = q at *
      have ⟨⟨b1, b2⟩, ⟨q1, q2⟩, ⟨a1, a2⟩, ⟨p1, p2⟩, g1, g2, l, h, ⟨l0, l1⟩, ⟨h0, h1⟩⟩ := LF.out
      have G1 := Aside0.mk g1
      have G2 := Aside0.mk g2
      have L := Aside0.mk l
      have H := Aside0.mk h
      clear g1 g2 l h
      go_wp2_with fail
      refine (lgcd_one _ _ G1.out (by omega) (by omega) (by omega) _).mono ?_
      rintro e w' ⟨rfl, ⟨nd, rfl⟩⟩
      go_wp2_with fail
      refine (lgcd_one _ _ G2.out (by omega) (by omega) (by omega) _).mono ?_
      rintro e w' ⟨rfl, ⟨nd2, rfl⟩⟩
      have c1 := BX.out.c1
      have c2 := BX.out.c2
      have hl : (if t2 < t1 then t2 else t1) = lo t1 t2 := rfl
      have hh : (if t1 < t2 then t2 else t1) = hi t1 t2 := rfl
      generalize lo t1 t2 = lw at *
      generalize hi t1 t2 = hg at *
      go_wp2_with fail
      go_quiet (fail)
      have HBw := HW.out
      by_cases hN0 : N = 0
      · obtain rfl := hN0
        obtain ⟨e1, e2, e3, e4⟩ := HE0.out rfl
        have hq : (0 : Int) / D = 0 := Int.zero_ediv D
        clear HE0 HE1
        have r1 : decide (lw ≤ a) = true := by have := L.out; rw [e2] at this; simp; omega
        have r2 : decide (a ≤ hg) = true := by have := H.out; rw [e2] at this; simp; omega
        subst e2 e4
        subst e1
        subst e3
        go_wp2_with fail
        go_ret
        exact ⟨by simp, by repeat (first | exact HBw | apply below_alloc | apply pw_below_drewN)⟩
      · have n0 : (N == 0) = false := beq_eq_false_iff_ne.2 hN0
        have n0' : (N != 0) = true := bne_iff_ne.2 hN0
        by_cases hND : N = D
        · obtain rfl := hND
          obtain ⟨e1, e2, e3, e4⟩ := HE1.out rfl
          have hq : N / N = 1 := Int.ediv_self hN0
          clear HE0 HE1
          have r1 : decide (lw ≤ a) = true := by have := L.out; rw [e2] at this; simp; omega
          have r2 : decide (a ≤ hg) = true := by have := H.out; rw [e2] at this; simp; omega
          subst e2 e4
          subst e1
          subst e3
          clear hN0
          go_wp2_with fail
          go_ret
          exact ⟨by simp, by repeat (first | exact HBw | apply below_alloc | apply pw_below_drewN)⟩
        · have n1 : (N == D) = false := beq_eq_false_iff_ne.2 hND
          have n1' : (N != D) = true := bne_iff_ne.2 hND
          have x1 := bd_mul (X := 16383) (Y := 1000) (x := lw) (y := b) ⟨by omega, by omega⟩ ⟨by omega, by omega⟩
          have x2 := bd_mul (X := 16383) (Y := 1000) (x := hg) (y := b) ⟨by omega, by omega⟩ ⟨by omega, by omega⟩
          obtain ⟨u, hu⟩ : ∃ u, lw * b = u := ⟨_, rfl⟩
          obtain ⟨v, hv⟩ : ∃ v, hg * b = v := ⟨_, rfl⟩
          have l := L.out
          have h := H.out
          rw [hu] at l x1
          rw [hv] at h x2
          have w1 : wrap64 (lw * b) = u := by rw [hu]; exact bd_w x1 (by omega)
          have w2 : wrap64 (hg * b) = v := by rw [hv]; exact bd_w x2 (by omega)
          have r1 : decide (u ≤ a) = true := by simp; omega
          have r2 : decide (a ≤ v) = true := by simp; omega
          clear HE0 HE1 hu hv x1 x2 hN0 hND
          go_wp2_with fail
          go_ret
          exact ⟨by simp, by repeat (first | exact HBw | apply below_alloc | apply pw_below_drewN)⟩
end Go.Proofs.Ytcehcblhmgeonaa.A
