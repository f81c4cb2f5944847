import Derived.Test.YtpnkeealojgpcaaD
/- The walk of ClockRuns; no condition. -/
namespace Go.Proofs.Ytpnkeealojgpcaa.A
open Go.RowKit Go.Proofs.YtpnkeealojgpcaaW.PrintWords Go.Proofs.YtpnkeealojgpcaaW.PrintLast Go.Proofs.YtpnkeealojgpcaaW.PrintMore
open Go.Proofs.Ytpnkeealojgpcaa
attribute [local go_sem] max2_int min2_int max_two min_two max_three min_three max_four min_four
set_option linter.unusedVariables false
set_option linter.unusedSimpArgs false

/-- A block that is a clock of the reference. -/
structure Rb (w : World) (b : Nat) (t r : Int) (k : Bool) (e s : Int) : Prop where
  blk : w.heap[b]? = some (.cells (cells5 t r k e s) 44 (0, 0))
section
variable {w w1 : World} {b : Nat} {t r e s : Int} {k : Bool}
theorem Rb.c0 (h : Rb w b t r k e s) : w.cell? ⟨b, 0, none⟩ = some (.int .i64 t) := blk_cell h.blk 0
theorem Rb.c1 (h : Rb w b t r k e s) : w.cell? ⟨b, 1, none⟩ = some (.int .i64 r) := blk_cell h.blk 1
theorem Rb.c2 (h : Rb w b t r k e s) : w.cell? ⟨b, 2, none⟩ = some (.bool k) := blk_cell h.blk 2
theorem Rb.c3 (h : Rb w b t r k e s) : w.cell? ⟨b, 3, none⟩ = some (.int .i64 e) := blk_cell h.blk 3
theorem Rb.c4 (h : Rb w b t r k e s) : w.cell? ⟨b, 4, none⟩ = some (.int .i64 s) := blk_cell h.blk 4
theorem Rb.below (h : Rb w b t r k e s) (hb : Below w.heap.size w w1) : Rb w1 b t r k e s := ⟨(hb.block b (Array.getElem?_eq_some_iff.1 h.blk).1).trans h.blk⟩
theorem Rb.made (w : World) (t r : Int) (k : Bool) (e s : Int) : Rb (w.alloc (.cells (cells5 t r k e s) 44)) w.heap.size t r k e s := ⟨heap_alloc_new w _⟩
end

set_option maxRecDepth 100000 in
set_option maxHeartbeats 4000000 in
theorem ClockRuns_walk (t r e s drift by_ : Int) (k : Bool) (w : World) :
    Calls Try.prog 7 #[ck t r k e s, .int .i64 drift, .int .i64 by_] w fun e' w' => e' = .returned (.bool true) ∧ Below w.heap.size w w' := by
  have BX := Aside0.mk (Cb.made w t r k e s)
  have HB := Aside0.mk (below_alloc (Below.refl w.heap.size w) (.cells (cells5 t r k e s) 25))
  obtain ⟨fb, hf⟩ : ∃ fb, fineB t r k e s = fb := ⟨_, rfl⟩
  have HF := Aside0.mk hf
  clear hf
  go_enter Try.func7, Try.ntmps7
  go_wp2_with fail
  refine (known_calls _).mono ?_
  rintro e' w1 ⟨rfl, HB'⟩
  have BX := Aside0.mk (BX.out.below HB')
  have HB := Aside0.mk (below_step HB.out HB')
  clear HB'
  generalize w.heap.size = b at BX
  have q0 := BX.out.c0
  have q1 := BX.out.c1
  have q2 := BX.out.c2
  have q3 := BX.out.c3
  have q4 := BX.out.c4
  cases fb with
  | false =>
    go_wp2_with fail
    refine (fine_calls t r e s k _).mono ?_
    rw [HF.out]
    rintro e' w2 ⟨rfl, HB'⟩
    have HB := Aside0.mk (below_step HB.out HB')
    clear HB'
    go_wp2_with fail
    go_ret
    exact ⟨rfl, HB.out⟩
  | true =>
    have hf := HF.out
    unfold fineB at hf
    simp only [Bool.and_eq_true, decide_eq_true_eq] at hf
    obtain ⟨⟨⟨⟨⟨⟨⟨ft0, ft1⟩, fr0⟩, fr1⟩, fs0⟩, fs1⟩, fe0⟩, fe1⟩ := hf
    go_wp2_with fail
    refine (fine_calls t r e s k _).mono ?_
    rw [HF.out]
    rintro e' w2 ⟨rfl, HB'⟩
    have BX := Aside0.mk (BX.out.below HB')
    have HB := Aside0.mk (below_step HB.out HB')
    clear HB' q0 q1 q2 q3 q4
    have q0 := BX.out.c0
    have q1 := BX.out.c1
    have q2 := BX.out.c2
    have q3 := BX.out.c3
    have q4 := BX.out.c4
    obtain ⟨ok, hok⟩ : ∃ ok, syncOk by_ drift = ok := ⟨_, rfl⟩
    obtain ⟨y0, y1, y2, y3, y4, hy⟩ : ∃ y0 y1 y2 y3 y4, (if ok = true then ck by_ 0 true drift 0 else ck t r k e s) = ck y0 y1 y2 y3 y4 := by
      cases ok
      · exact ⟨_, _, _, _, _, rfl⟩
      · exact ⟨_, _, _, _, _, rfl⟩
    obtain ⟨er, her⟩ : ∃ er, (if ok = true then (0 : Int) else 2) = er := ⟨_, rfl⟩
    have HER := Aside0.mk her
    go_wp2_with fail
    refine (sync_calls t r e s by_ drift k _).mono ?_
    rw [hok, hy, her]
    clear her
    rintro e' w3 ⟨rfl, HB'⟩
    have BX := Aside0.mk (BX.out.below HB')
    have HB := Aside0.mk (below_step HB.out HB')
    clear HB' q0 q1 q2 q3 q4
    have HOK := Aside0.mk hok
    have HY := Aside0.mk hy
    clear hok hy
    have CA := Aside0.mk (Cb.made w3 y0 y1 y2 y3 y4)
    have BX := Aside0.mk (BX.out.below (below_alloc (Below.refl _ _) (.cells (cells5 y0 y1 y2 y3 y4) 25)))
    have HB := Aside0.mk (below_alloc HB.out (.cells (cells5 y0 y1 y2 y3 y4) 25))
    have q0 := BX.out.c0
    have q1 := BX.out.c1
    have q2 := BX.out.c2
    have q3 := BX.out.c3
    have q4 := BX.out.c4
    go_wp2_with fail
    refine (to_calls t r e s k _).mono ?_
    rintro e' w4 ⟨rfl, HB'⟩
    have BX := Aside0.mk (BX.out.below HB')
    have CA := Aside0.mk (CA.out.below HB')
    have HB := Aside0.mk (below_step HB.out HB')
    clear HB' q0 q1 q2 q3 q4
    go_wp2_with fail
    refine (rsync_calls t r e s by_ drift k _).mono ?_
    rw [HOK.out, HY.out, HER.out]
    rintro e' w5 ⟨rfl, HB'⟩
    have BX := Aside0.mk (BX.out.below HB')
    have CA := Aside0.mk (CA.out.below HB')
    have HB := Aside0.mk (below_step HB.out HB')
    clear HB'
    have RA := Aside0.mk (Rb.made w5 y0 y1 y2 y3 y4)
    have BX := Aside0.mk (BX.out.below (below_alloc (Below.refl _ _) (.cells (cells5 y0 y1 y2 y3 y4) 44)))
    have CA := Aside0.mk (CA.out.below (below_alloc (Below.refl _ _) (.cells (cells5 y0 y1 y2 y3 y4) 44)))
    have HB := Aside0.mk (below_alloc HB.out (.cells (cells5 y0 y1 y2 y3 y4) 44))
    have hm0 := Int.lt_tmod_of_pos by_ (show (0 : Int) < 1125899906842624 by omega)
    have hm1 := Int.tmod_lt_of_pos by_ (show (0 : Int) < 1125899906842624 by omega)
    go_wp2_with fail
    generalize by_.tmod 1125899906842624 = m at *
    generalize hW : w5.alloc (.cells (cells5 y0 y1 y2 y3 y4) 44) = W at *
    clear hW
    obtain ⟨T, hT⟩ : ∃ T, t + 20000 + gainQ r drift = T := ⟨_, rfl⟩
    obtain ⟨R, hR⟩ : ∃ R, gainR r drift = R := ⟨_, rfl⟩
    obtain ⟨S, hS⟩ : ∃ S, stepS k s = S := ⟨_, rfl⟩
    obtain ⟨J, hJ⟩ : ∃ J, wrap64 (t + m) = J := ⟨_, rfl⟩
    have HSTEP : Aside0 (∀ w', Below W.heap.size W w' → Calls Try.prog 11 #[ck t r k e s, .int .i64 drift] w' fun e' w'' => e' = .returned (ck T R k e S) ∧ Below W.heap.size W w'') := ⟨by
      rw [← hT, ← hR, ← hS]; exact Q.q_below fun w' => step_calls t r e s drift k w' (by omega) ⟨fr0, fr1⟩ (by omega)⟩
    have HRSTEP : Aside0 (∀ w', Below W.heap.size W w' → Calls Try.prog 19 #[ck t r k e s, .int .i64 drift] w' fun e' w'' => e' = .returned (ck T R k e S) ∧ Below W.heap.size W w'') := ⟨by
      rw [← hT, ← hR, ← hS]; exact Q.q_below fun w' => rstep_calls t r e s drift k w' (by omega) ⟨fr0, fr1⟩ (by omega)⟩
    have HJ : Aside0 (∀ w', Below W.heap.size W w' → Calls Try.prog 20 #[ck t r k e s, .int .i64 m] w' fun e' w'' => e' = .returned (ck J r k e s) ∧ Below W.heap.size W w'') := ⟨by
      rw [← hJ]; exact Q.q_below fun w' => jump_calls t r e s m k w'⟩
    have HRJ : Aside0 (∀ w', Below W.heap.size W w' → Calls Try.prog 21 #[ck t r k e s, .int .i64 m] w' fun e' w'' => e' = .returned (ck J r k e s) ∧ Below W.heap.size W w'') := ⟨by
      rw [← hJ]; exact Q.q_below fun w' => rjump_calls t r e s m k w'⟩
    clear hT hR hS hJ
    have q0 := BX.out.c0
    have q1 := BX.out.c1
    have q2 := BX.out.c2
    have q3 := BX.out.c3
    have q4 := BX.out.c4
    have a0 := CA.out.c0
    have a1 := CA.out.c1
    have a2 := CA.out.c2
    have a3 := CA.out.c3
    have a4 := CA.out.c4
    have b0 := RA.out.c0
    have b1 := RA.out.c1
    have b2 := RA.out.c2
    have b3 := RA.out.c3
    have b4 := RA.out.c4
    refine Q.q_start (by kernel_rfl) (by kernel_rfl) ?_
    refine Q.q_value (N := some 33) (v := ?_) (a' := ?_) rfl (by rfl) ?_ ?_ ?_
    rotate_left
    · intro w' hb
      have s0 := pw_cell_below hb q0
      have s1 := pw_cell_below hb q1
      have s2 := pw_cell_below hb q2
      have s3 := pw_cell_below hb q3
      have s4 := pw_cell_below hb q4
      clear hb
      go_simp
      with_reducible rfl
    rotate_left
    · simp only [Act.put, List.setIfInBounds_toArray, List.set_cons_zero, List.set_cons_succ, i64_w, i32_w]
      rfl
    refine Q.q_value (N := some 34) (v := ?_) (a' := ?_) rfl (by rfl) ?_ ?_ ?_
    rotate_left
    · intro w' hb
      clear hb
      go_simp
      with_reducible rfl
    rotate_left
    · simp only [Act.put, List.setIfInBounds_toArray, List.set_cons_zero, List.set_cons_succ, i64_w, i32_w]
      rfl
    refine Q.q_call (N := some 35) (v := ck T R k e S) (a' := ?_) 11 #[ck t r k e s, .int .i64 drift] rfl (by rfl) Try.func11 (by kernel_rfl) rfl (by rfl) (by first | rfl | (simp only [List.map_toArray, List.map_cons, List.map_nil]; rfl)) (HSTEP.out) ?_ ?_
    rotate_left
    · simp only [Act.put, List.setIfInBounds_toArray, List.set_cons_zero, List.set_cons_succ, i64_w, i32_w]
      rfl
    refine Q.q_call (N := some 36) (v := ck T R k e S) (a' := ?_) 18 #[ck T R k e S] rfl (by rfl) Try.func18 (by kernel_rfl) rfl (by rfl) (by first | rfl | (simp only [List.map_toArray, List.map_cons, List.map_nil]; rfl)) (Q.q_below fun w' => to_calls T R e S k w') ?_ ?_
    rotate_left
    · simp only [Act.put, List.setIfInBounds_toArray, List.set_cons_zero, List.set_cons_succ, i64_w, i32_w]
      rfl
    refine Q.q_value (N := some 37) (v := ?_) (a' := ?_) rfl (by rfl) ?_ ?_ ?_
    rotate_left
    · intro w' hb
      have s0 := pw_cell_below hb q0
      have s1 := pw_cell_below hb q1
      have s2 := pw_cell_below hb q2
      have s3 := pw_cell_below hb q3
      have s4 := pw_cell_below hb q4
      clear hb
      go_simp
      with_reducible rfl
    rotate_left
    · simp only [Act.put, List.setIfInBounds_toArray, List.set_cons_zero, List.set_cons_succ, i64_w, i32_w]
      rfl
    refine Q.q_call (N := some 38) (v := ck t r k e s) (a' := ?_) 18 #[ck t r k e s] rfl (by rfl) Try.func18 (by kernel_rfl) rfl (by rfl) (by first | rfl | (simp only [List.map_toArray, List.map_cons, List.map_nil]; rfl)) (Q.q_below fun w' => to_calls t r e s k w') ?_ ?_
    rotate_left
    · simp only [Act.put, List.setIfInBounds_toArray, List.set_cons_zero, List.set_cons_succ, i64_w, i32_w]
      rfl
    refine Q.q_value (N := some 39) (v := ?_) (a' := ?_) rfl (by rfl) ?_ ?_ ?_
    rotate_left
    · intro w' hb
      clear hb
      go_simp
      with_reducible rfl
    rotate_left
    · simp only [Act.put, List.setIfInBounds_toArray, List.set_cons_zero, List.set_cons_succ, i64_w, i32_w]
      rfl
    refine Q.q_call (N := some 40) (v := ck T R k e S) (a' := ?_) 19 #[ck t r k e s, .int .i64 drift] rfl (by rfl) Try.func19 (by kernel_rfl) rfl (by rfl) (by first | rfl | (simp only [List.map_toArray, List.map_cons, List.map_nil]; rfl)) (HRSTEP.out) ?_ ?_
    rotate_left
    · simp only [Act.put, List.setIfInBounds_toArray, List.set_cons_zero, List.set_cons_succ, i64_w, i32_w]
      rfl
    refine Q.q_value (N := some 41) (v := ?_) (a' := ?_) rfl (by rfl) ?_ ?_ ?_
    rotate_left
    · intro w' hb
      clear hb
      go_simp
      with_reducible rfl
    rotate_left
    · simp only [Act.put, List.setIfInBounds_toArray, List.set_cons_zero, List.set_cons_succ, i64_w, i32_w]
      rfl
    refine Q.q_value (N := some 42) (v := ?_) (a' := ?_) rfl (by rfl) ?_ ?_ ?_
    rotate_left
    · intro w' hb
      clear hb
      go_simp
      with_reducible rfl
    rotate_left
    · simp only [Act.put, List.setIfInBounds_toArray, List.set_cons_zero, List.set_cons_succ, i64_w, i32_w]
      rfl
    refine Q.q_value (N := some 43) (v := ?_) (a' := ?_) rfl (by rfl) ?_ ?_ ?_
    rotate_left
    · intro w' hb
      have s0 := pw_cell_below hb a0
      have s1 := pw_cell_below hb a1
      have s2 := pw_cell_below hb a2
      have s3 := pw_cell_below hb a3
      have s4 := pw_cell_below hb a4
      clear hb
      go_simp
      with_reducible rfl
    rotate_left
    · simp only [Act.put, List.setIfInBounds_toArray, List.set_cons_zero, List.set_cons_succ, i64_w, i32_w]
      rfl
    refine Q.q_call (N := some 44) (v := ck y0 y1 y2 y3 y4) (a' := ?_) 18 #[ck y0 y1 y2 y3 y4] rfl (by rfl) Try.func18 (by kernel_rfl) rfl (by rfl) (by first | rfl | (simp only [List.map_toArray, List.map_cons, List.map_nil]; rfl)) (Q.q_below fun w' => to_calls y0 y1 y3 y4 y2 w') ?_ ?_
    rotate_left
    · simp only [Act.put, List.setIfInBounds_toArray, List.set_cons_zero, List.set_cons_succ, i64_w, i32_w]
      rfl
    refine Q.q_value (N := some 45) (v := ?_) (a' := ?_) rfl (by rfl) ?_ ?_ ?_
    rotate_left
    · intro w' hb
      have s0 := pw_cell_below hb b0
      have s1 := pw_cell_below hb b1
      have s2 := pw_cell_below hb b2
      have s3 := pw_cell_below hb b3
      have s4 := pw_cell_below hb b4
      clear hb
      go_simp
      with_reducible rfl
    rotate_left
    · simp only [Act.put, List.setIfInBounds_toArray, List.set_cons_zero, List.set_cons_succ, i64_w, i32_w]
      rfl
    refine Q.q_value (N := some 46) (v := ?_) (a' := ?_) rfl (by rfl) ?_ ?_ ?_
    rotate_left
    · intro w' hb
      clear hb
      go_simp
      with_reducible rfl
    rotate_left
    · simp only [Act.put, List.setIfInBounds_toArray, List.set_cons_zero, List.set_cons_succ, i64_w, i32_w]
      rfl
    refine Q.q_value (N := some 47) (v := ?_) (a' := ?_) rfl (by rfl) ?_ ?_ ?_
    rotate_left
    · intro w' hb
      clear hb
      go_simp
      with_reducible rfl
    rotate_left
    · simp only [Act.put, List.setIfInBounds_toArray, List.set_cons_zero, List.set_cons_succ, i64_w, i32_w]
      rfl
    refine Q.q_value (N := some 48) (v := ?_) (a' := ?_) rfl (by rfl) ?_ ?_ ?_
    rotate_left
    · intro w' hb
      clear hb
      go_simp
      with_reducible rfl
    rotate_left
    · simp only [Act.put, List.setIfInBounds_toArray, List.set_cons_zero, List.set_cons_succ, i64_w, i32_w]
      rfl
    refine Q.q_value (N := some 49) (v := ?_) (a' := ?_) rfl (by rfl) ?_ ?_ ?_
    rotate_left
    · intro w' hb
      clear hb
      go_simp
      with_reducible rfl
    rotate_left
    · simp only [Act.put, List.setIfInBounds_toArray, List.set_cons_zero, List.set_cons_succ, i64_w, i32_w]
      rfl
    refine Q.q_value (N := some 50) (v := ?_) (a' := ?_) rfl (by rfl) ?_ ?_ ?_
    rotate_left
    · intro w' hb
      clear hb
      go_simp
      with_reducible rfl
    rotate_left
    · simp only [Act.put, List.setIfInBounds_toArray, List.set_cons_zero, List.set_cons_succ, i64_w, i32_w]
      rfl
    refine Q.q_value (N := some 51) (v := ?_) (a' := ?_) rfl (by rfl) ?_ ?_ ?_
    rotate_left
    · intro w' hb
      clear hb
      go_simp
      with_reducible rfl
    rotate_left
    · simp only [Act.put, List.setIfInBounds_toArray, List.set_cons_zero, List.set_cons_succ, i64_w, i32_w]
      rfl
    refine Q.q_value (N := some 52) (v := ?_) (a' := ?_) rfl (by rfl) ?_ ?_ ?_
    rotate_left
    · intro w' hb
      clear hb
      go_simp
      with_reducible rfl
    rotate_left
    · simp only [Act.put, List.setIfInBounds_toArray, List.set_cons_zero, List.set_cons_succ, i64_w, i32_w]
      rfl
    refine Q.q_value (N := some 53) (v := ?_) (a' := ?_) rfl (by rfl) ?_ ?_ ?_
    rotate_left
    · intro w' hb
      clear hb
      go_simp
      with_reducible rfl
    rotate_left
    · simp only [Act.put, List.setIfInBounds_toArray, List.set_cons_zero, List.set_cons_succ, i64_w, i32_w]
      rfl
    refine Q.q_value (N := some 54) (v := ?_) (a' := ?_) rfl (by rfl) ?_ ?_ ?_
    rotate_left
    · intro w' hb
      have s0 := pw_cell_below hb q0
      have s1 := pw_cell_below hb q1
      have s2 := pw_cell_below hb q2
      have s3 := pw_cell_below hb q3
      have s4 := pw_cell_below hb q4
      clear hb
      go_simp
      with_reducible rfl
    rotate_left
    · simp only [Act.put, List.setIfInBounds_toArray, List.set_cons_zero, List.set_cons_succ, i64_w, i32_w]
      rfl
    refine Q.q_value (N := some 55) (v := ?_) (a' := ?_) rfl (by rfl) ?_ ?_ ?_
    rotate_left
    · intro w' hb
      clear hb
      go_simp
      with_reducible rfl
    rotate_left
    · simp only [Act.put, List.setIfInBounds_toArray, List.set_cons_zero, List.set_cons_succ, i64_w, i32_w]
      rfl
    refine Q.q_call (N := some 56) (v := ck J r k e s) (a' := ?_) 20 #[ck t r k e s, .int .i64 m] rfl (by rfl) Try.func20 (by kernel_rfl) rfl (by rfl) (by first | rfl | (simp only [List.map_toArray, List.map_cons, List.map_nil]; rfl)) (HJ.out) ?_ ?_
    rotate_left
    · simp only [Act.put, List.setIfInBounds_toArray, List.set_cons_zero, List.set_cons_succ, i64_w, i32_w]
      rfl
    refine Q.q_call (N := some 57) (v := ck J r k e s) (a' := ?_) 18 #[ck J r k e s] rfl (by rfl) Try.func18 (by kernel_rfl) rfl (by rfl) (by first | rfl | (simp only [List.map_toArray, List.map_cons, List.map_nil]; rfl)) (Q.q_below fun w' => to_calls J r e s k w') ?_ ?_
    rotate_left
    · simp only [Act.put, List.setIfInBounds_toArray, List.set_cons_zero, List.set_cons_succ, i64_w, i32_w]
      rfl
    refine Q.q_value (N := some 58) (v := ?_) (a' := ?_) rfl (by rfl) ?_ ?_ ?_
    rotate_left
    · intro w' hb
      have s0 := pw_cell_below hb q0
      have s1 := pw_cell_below hb q1
      have s2 := pw_cell_below hb q2
      have s3 := pw_cell_below hb q3
      have s4 := pw_cell_below hb q4
      clear hb
      go_simp
      with_reducible rfl
    rotate_left
    · simp only [Act.put, List.setIfInBounds_toArray, List.set_cons_zero, List.set_cons_succ, i64_w, i32_w]
      rfl
    refine Q.q_call (N := some 59) (v := ck t r k e s) (a' := ?_) 18 #[ck t r k e s] rfl (by rfl) Try.func18 (by kernel_rfl) rfl (by rfl) (by first | rfl | (simp only [List.map_toArray, List.map_cons, List.map_nil]; rfl)) (Q.q_below fun w' => to_calls t r e s k w') ?_ ?_
    rotate_left
    · simp only [Act.put, List.setIfInBounds_toArray, List.set_cons_zero, List.set_cons_succ, i64_w, i32_w]
      rfl
    refine Q.q_value (N := some 60) (v := ?_) (a' := ?_) rfl (by rfl) ?_ ?_ ?_
    rotate_left
    · intro w' hb
      clear hb
      go_simp
      with_reducible rfl
    rotate_left
    · simp only [Act.put, List.setIfInBounds_toArray, List.set_cons_zero, List.set_cons_succ, i64_w, i32_w]
      rfl
    refine Q.q_call (N := some 61) (v := ck J r k e s) (a' := ?_) 21 #[ck t r k e s, .int .i64 m] rfl (by rfl) Try.func21 (by kernel_rfl) rfl (by rfl) (by first | rfl | (simp only [List.map_toArray, List.map_cons, List.map_nil]; rfl)) (HRJ.out) ?_ ?_
    rotate_left
    · simp only [Act.put, List.setIfInBounds_toArray, List.set_cons_zero, List.set_cons_succ, i64_w, i32_w]
      rfl
    refine Q.q_value (N := some 62) (v := ?_) (a' := ?_) rfl (by rfl) ?_ ?_ ?_
    rotate_left
    · intro w' hb
      clear hb
      go_simp
      with_reducible rfl
    rotate_left
    · simp only [Act.put, List.setIfInBounds_toArray, List.set_cons_zero, List.set_cons_succ, i64_w, i32_w]
      rfl
    refine Q.q_value (N := some 63) (v := ?_) (a' := ?_) rfl (by rfl) ?_ ?_ ?_
    rotate_left
    · intro w' hb
      clear hb
      go_simp
      with_reducible rfl
    rotate_left
    · simp only [Act.put, List.setIfInBounds_toArray, List.set_cons_zero, List.set_cons_succ, i64_w, i32_w]
      rfl
    refine Q.q_value (N := some 64) (v := ?_) (a' := ?_) rfl (by rfl) ?_ ?_ ?_
    rotate_left
    · intro w' hb
      clear hb
      go_simp
      with_reducible rfl
    rotate_left
    · simp only [Act.put, List.setIfInBounds_toArray, List.set_cons_zero, List.set_cons_succ, i64_w, i32_w]
      rfl
    refine Q.q_value (N := some 65) (v := ?_) (a' := ?_) rfl (by rfl) ?_ ?_ ?_
    rotate_left
    · intro w' hb
      clear hb
      go_simp
      with_reducible rfl
    rotate_left
    · simp only [Act.put, List.setIfInBounds_toArray, List.set_cons_zero, List.set_cons_succ, i64_w, i32_w]
      rfl
    refine Q.q_call (N := some 66) (v := ck m 0 false 0 0) (a' := ?_) 10 #[.int .i64 m] rfl (by rfl) Try.func10 (by kernel_rfl) rfl (by rfl) (by first | rfl | (simp only [List.map_toArray, List.map_cons, List.map_nil]; rfl)) (Q.q_below fun w' => new_calls m w') ?_ ?_
    rotate_left
    · simp only [Act.put, List.setIfInBounds_toArray, List.set_cons_zero, List.set_cons_succ, i64_w, i32_w]
      rfl
    refine Q.q_call (N := some 67) (v := ck m 0 false 0 0) (a' := ?_) 18 #[ck m 0 false 0 0] rfl (by rfl) Try.func18 (by kernel_rfl) rfl (by rfl) (by first | rfl | (simp only [List.map_toArray, List.map_cons, List.map_nil]; rfl)) (Q.q_below fun w' => to_calls m 0 0 0 false w') ?_ ?_
    rotate_left
    · simp only [Act.put, List.setIfInBounds_toArray, List.set_cons_zero, List.set_cons_succ, i64_w, i32_w]
      rfl
    refine Q.q_value (N := some 68) (v := ?_) (a' := ?_) rfl (by rfl) ?_ ?_ ?_
    rotate_left
    · intro w' hb
      clear hb
      go_simp
      with_reducible rfl
    rotate_left
    · simp only [Act.put, List.setIfInBounds_toArray, List.set_cons_zero, List.set_cons_succ, i64_w, i32_w]
      rfl
    refine Q.q_call (N := some 69) (v := ck m 0 false 0 0) (a' := ?_) 22 #[.int .i64 m] rfl (by rfl) Try.func22 (by kernel_rfl) rfl (by rfl) (by first | rfl | (simp only [List.map_toArray, List.map_cons, List.map_nil]; rfl)) (Q.q_below fun w' => rnew_calls m w') ?_ ?_
    rotate_left
    · simp only [Act.put, List.setIfInBounds_toArray, List.set_cons_zero, List.set_cons_succ, i64_w, i32_w]
      rfl
    refine Q.q_value (N := some 70) (v := ?_) (a' := ?_) rfl (by rfl) ?_ ?_ ?_
    rotate_left
    · intro w' hb
      clear hb
      go_simp
      with_reducible rfl
    rotate_left
    · simp only [Act.put, List.setIfInBounds_toArray, List.set_cons_zero, List.set_cons_succ, i64_w, i32_w]
      rfl
    refine Q.q_value (N := some 71) (v := ?_) (a' := ?_) rfl (by rfl) ?_ ?_ ?_
    rotate_left
    · intro w' hb
      clear hb
      go_simp
      with_reducible rfl
    rotate_left
    · simp only [Act.put, List.setIfInBounds_toArray, List.set_cons_zero, List.set_cons_succ, i64_w, i32_w]
      rfl
    refine Q.q_value (N := some 6) (v := ?_) (a' := ?_) rfl (by rfl) ?_ ?_ ?_
    rotate_left
    · intro w' hb
      clear hb
      go_simp
      with_reducible rfl
    rotate_left
    · simp only [Act.put, List.setIfInBounds_toArray, List.set_cons_zero, List.set_cons_succ, i64_w, i32_w]
      rfl
    refine wpQuiet_nil ?_
    intro w9 HB9
    have HB := Aside0.mk (below_step HB.out HB9)
    clear HB9
    go_wp2_with fail
    go_ret
    exact ⟨rfl, HB.out⟩
end Go.Proofs.Ytpnkeealojgpcaa.A
