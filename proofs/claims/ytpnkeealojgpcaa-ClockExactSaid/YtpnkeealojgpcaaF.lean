import Derived.Test.YtpnkeealojgpcaaC
/- The walk of ClockExact; no condition. -/
namespace Go.Proofs.Ytpnkeealojgpcaa.A
open Go.RowKit Go.Proofs.YtpnkeealojgpcaaW.PrintWords Go.Proofs.YtpnkeealojgpcaaW.PrintLast Go.Proofs.YtpnkeealojgpcaaW.PrintMore
open Go.Proofs.Ytpnkeealojgpcaa
attribute [local go_sem] max2_int min2_int max_two min_two max_three min_three max_four min_four
set_option linter.unusedVariables false
set_option linter.unusedSimpArgs false

set_option maxRecDepth 100000 in
set_option maxHeartbeats 3000000 in
theorem ClockExact_walk (start drift n0 : Int) (w : World) (w0 : (Lit.int .i64 start).wf = true) (w1 : (Lit.int .i64 drift).wf = true) (w2 : (Lit.int .i64 n0).wf = true) :
    Calls Try.prog 3 #[.int .i64 start, .int .i64 drift, .int .i64 n0] w fun e' w' => e' = .returned (.bool true) ∧ Below w.heap.size w w' := by
  clear w0 w2
  have w1 : -9223372036854775808 ≤ drift ∧ drift ≤ 9223372036854775807 := by simpa [Lit.wf, IntKind.min, IntKind.max, IntKind.signed, IntKind.bits] using w1
  have hs0 := Int.lt_tmod_of_pos start (show (0 : Int) < 1125899906842624 by omega)
  have hs1 := Int.tmod_lt_of_pos start (show (0 : Int) < 1125899906842624 by omega)
  go_enter Try.func3, Try.ntmps3
  go_wp2_with fail
  refine (known_calls _).mono ?_
  rintro e' wa ⟨rfl, HB⟩
  have HB := Aside0.mk HB
  go_wp2_with fail
  refine (within_calls _ _ (by omega) (by omega) _).mono ?_
  rintro e w' ⟨rfl, ⟨nd, rfl⟩⟩
  have a0 := Int.emod_nonneg n0 (show (100 : Int) ≠ 0 by omega)
  have a1 := Int.emod_lt_of_pos n0 (show (0 : Int) < 100 by omega)
  generalize n0 % 100 = n at *
  generalize start.tmod 1125899906842624 = s at *
  have HB := Aside0.mk (pw_below_drewN HB.out nd)
  go_wp2_with fail
  refine (new_calls s _).mono ?_
  rintro e wb ⟨rfl, HB'⟩
  have HB := Aside0.mk (below_step HB.out HB')
  clear HB'
  go_wp2_with fail
  refine (new_calls s _).mono ?_
  rintro e wc ⟨rfl, HB'⟩
  have HB := Aside0.mk (below_step HB.out HB')
  clear HB'
  go_wp2_with fail
  have BC := Aside0.mk ((Cb.made wc s 0 false 0 0).below (below_alloc (Below.refl _ _) (.cells (cells5 s 0 false 0 0) 25)))
  have BD := Aside0.mk (Cb.made (wc.alloc (.cells (cells5 s 0 false 0 0) 25)) s 0 false 0 0)
  have BD : Aside0 (Cb ((wc.alloc (.cells (cells5 s 0 false 0 0) 25)).alloc (.cells (cells5 s 0 false 0 0) 25)) (wc.heap.size + 1) s 0 false 0 0) := ⟨by have := BD.out; rwa [World.size_alloc] at this⟩
  have hle : w.heap.size ≤ wc.heap.size := HB.out.size
  have HB := Aside0.mk (below_alloc (below_alloc HB.out (.cells (cells5 s 0 false 0 0) 25)) (.cells (cells5 s 0 false 0 0) 25))
  obtain ⟨d, hd⟩ : ∃ d, wc.heap.size + 1 = d := ⟨_, rfl⟩
  rw [hd] at BD ⊢
  obtain ⟨c, hc⟩ : ∃ c, wc.heap.size = c := ⟨_, rfl⟩
  rw [hc] at hd BC hle ⊢
  have hle2 : w.heap.size ≤ d := by omega
  have hcd : c ≠ d := by omega
  have hdc : d ≠ c := by omega
  clear hc hd
  generalize (wc.alloc (.cells (cells5 s 0 false 0 0) 25)).alloc (.cells (cells5 s 0 false 0 0) 25) = W at *
  obtain ⟨dd, hdd⟩ : ∃ dd, -(drift.tmod 101) = dd := ⟨_, rfl⟩
  have hm0 := Int.lt_tmod_of_pos drift (show (0 : Int) < 101 by omega)
  have hm1 := Int.tmod_lt_of_pos drift (show (0 : Int) < 101 by omega)
  have hin : -100 ≤ drift ∧ drift ≤ 100 → cl drift + cl dd = 0 := by
    intro ⟨h0, h1⟩
    have : drift.tmod 101 = drift := by
      by_cases hs : 0 ≤ drift
      · exact Int.tmod_eq_of_lt hs (by omega)
      · obtain ⟨a, rfl⟩ : ∃ a, drift = -a := ⟨-drift, by omega⟩
        rw [Int.neg_tmod, Int.tmod_eq_of_lt (by omega) (by omega)]
    unfold cl
    repeat' split
    all_goals omega
  have hdb : -101 < dd ∧ dd < 101 := by omega
  clear hm0 hm1
  have HDD := Aside0.mk hdd
  clear hdd
  go_loopw [9] (fun i wr => ∃ k : Nat, (k : Int) ≤ n ∧ i = .int .i64 k ∧ ∃ T R, s - 40010 * (k : Int) ≤ T ∧ T ≤ s + 40010 * (k : Int) ∧ 0 ≤ R ∧ R ≤ 999999 ∧ (-100 ≤ drift ∧ drift ≤ 100 → T = s + 40000 * (k : Int) ∧ R = 0) ∧ Aside0 (Cb wr c (s + (k : Int) * 20000) 0 false 0 0) ∧ Aside0 (Cb wr d T R false 0 0) ∧ Aside0 (Below w.heap.size w wr))
    (fun i _ => 101 - (intOf i).toNat)
  case atStart => exact ⟨0, by omega, rfl, s, 0, by omega, by omega, by omega, by omega, fun _ => ⟨by omega, rfl⟩, ⟨by simpa using BC.out⟩, ⟨BD.out⟩, HB⟩
  case round =>
    clear BC BD HB
    obtain ⟨k, hk, rfl, T, R, hT0, hT1, hR0, hR1, hex, BC, BD, HB⟩ := hrel
    by_cases hlt : (k : Int) < n
    · have t0 : decide ((k : Int) < n) = true := by simp; omega
      have q0 := BC.out.c0
      have q1 := BC.out.c1
      have q2 := BC.out.c2
      have q3 := BC.out.c3
      have q4 := BC.out.c4
      have f0 := BC.out.fr 0
      have f1 := BC.out.fr 1
      have f2 := BC.out.fr 2
      have f3 := BC.out.fr 3
      have f4 := BC.out.fr 4
      go_wp2_with fail
      refine (step_calls (s + (k : Int) * 20000) 0 0 0 0 false _ (by omega) (by omega) (by omega)).mono ?_
      rw [show gainQ 0 0 = 0 by decide, show gainR 0 0 = 0 by decide, show stepS false 0 = 0 from rfl]
      rintro e w5 ⟨rfl, HB'⟩
      have BC := Aside0.mk (BC.out.below HB')
      have BD := Aside0.mk (BD.out.below HB')
      have HB := Aside0.mk (below_step HB.out HB')
      clear HB' q0 q1 q2 q3 q4 f0 f1 f2 f3 f4
      obtain ⟨C, hC⟩ : ∃ C, s + (k : Int) * 20000 + 20000 + 0 = C := ⟨_, rfl⟩
      rw [hC]
      have HC := Aside0.mk hC
      clear hC
      have q0 := BC.out.c0
      have q1 := BC.out.c1
      have q2 := BC.out.c2
      have q3 := BC.out.c3
      have q4 := BC.out.c4
      have f0 := BC.out.fr 0
      have f1 := BC.out.fr 1
      have f2 := BC.out.fr 2
      have f3 := BC.out.fr 3
      have f4 := BC.out.fr 4
      have BC := Aside0.mk (BC.out.put C 0 false 0 0)
      have HB := Aside0.mk (put_below (b := c) HB.out hle (.int .i64 C) (.int .i64 0) (.bool false) (.int .i64 0) (.int .i64 0))
      have BD := Aside0.mk (((((BD.out.far hdc 0 (.int .i64 C)).far hdc 1 (.int .i64 0)).far hdc 2 (.bool false)).far hdc 3 (.int .i64 0)).far hdc 4 (.int .i64 0))
      have r0 := BD.out.c0
      have r1 := BD.out.c1
      have r2 := BD.out.c2
      have r3 := BD.out.c3
      have r4 := BD.out.c4
      go_wp2_with fail
      with_reducible refine (step_calls T R 0 0 drift false _ (by omega) ⟨hR0, hR1⟩ (by omega)).mono ?_
      rw [show stepS false 0 = 0 from rfl]
      rintro e w6 ⟨rfl, HB'⟩
      have BC := Aside0.mk (BC.out.below HB')
      have BD := Aside0.mk (BD.out.below HB')
      have HB := Aside0.mk (below_step HB.out HB')
      clear HB' q0 q1 q2 q3 q4 f0 f1 f2 f3 f4 r0 r1 r2 r3 r4
      have hg := gain_bd R drift ⟨hR0, hR1⟩
      obtain ⟨g1, g2, g3, g4, g5⟩ := hg
      obtain ⟨T1, hT1'⟩ : ∃ T1, T + 20000 + gainQ R drift = T1 := ⟨_, rfl⟩
      obtain ⟨R1, hR1'⟩ : ∃ R1, gainR R drift = R1 := ⟨_, rfl⟩
      rw [hT1', hR1']
      have G : Aside0 (1000000 * (T1 - T - 20000) + R1 = R + 20000 * cl drift ∧ T + 19998 ≤ T1 ∧ T1 ≤ T + 20002 ∧ 0 ≤ R1 ∧ R1 ≤ 999999) := ⟨by rw [← hT1', ← hR1']; omega⟩
      clear hT1' hR1' g1 g2 g3 g4 g5
      have q0 := BD.out.c0
      have q1 := BD.out.c1
      have q2 := BD.out.c2
      have q3 := BD.out.c3
      have q4 := BD.out.c4
      have f0 := BD.out.fr 0
      have f1 := BD.out.fr 1
      have f2 := BD.out.fr 2
      have f3 := BD.out.fr 3
      have f4 := BD.out.fr 4
      go_wp2_with fail
      rw [HDD.out, w64 (n := dd) (by omega) (by omega)]
      have ⟨_, G1, G2, G3, G4⟩ := G.out
      with_reducible refine (step_calls T1 R1 0 0 dd false _ (by omega) ⟨G3, G4⟩ (by omega)).mono ?_
      rw [show stepS false 0 = 0 from rfl]
      rintro e w7 ⟨rfl, HB'⟩
      have BC := Aside0.mk (BC.out.below HB')
      have BD := Aside0.mk (BD.out.below HB')
      have HB := Aside0.mk (below_step HB.out HB')
      clear HB' q0 q1 q2 q3 q4 f0 f1 f2 f3 f4
      have hg := gain_bd R1 dd ⟨G3, G4⟩
      obtain ⟨g1, g2, g3, g4, g5⟩ := hg
      obtain ⟨T2, hT2'⟩ : ∃ T2, T1 + 20000 + gainQ R1 dd = T2 := ⟨_, rfl⟩
      obtain ⟨R2, hR2'⟩ : ∃ R2, gainR R1 dd = R2 := ⟨_, rfl⟩
      rw [hT2', hR2']
      have G' : Aside0 (1000000 * (T2 - T1 - 20000) + R2 = R1 + 20000 * cl dd ∧ T1 + 19998 ≤ T2 ∧ T2 ≤ T1 + 20002 ∧ 0 ≤ R2 ∧ R2 ≤ 999999) := ⟨by rw [← hT2', ← hR2']; omega⟩
      clear hT2' hR2' g1 g2 g3 g4 g5
      have q0 := BD.out.c0
      have q1 := BD.out.c1
      have q2 := BD.out.c2
      have q3 := BD.out.c3
      have q4 := BD.out.c4
      have f0 := BD.out.fr 0
      have f1 := BD.out.fr 1
      have f2 := BD.out.fr 2
      have f3 := BD.out.fr 3
      have f4 := BD.out.fr 4
      have BD := Aside0.mk (BD.out.put T2 R2 false 0 0)
      have HB := Aside0.mk (put_below (b := d) HB.out hle2 (.int .i64 T2) (.int .i64 R2) (.bool false) (.int .i64 0) (.int .i64 0))
      have BC := Aside0.mk (((((BC.out.far hcd 0 (.int .i64 T2)).far hcd 1 (.int .i64 R2)).far hcd 2 (.bool false)).far hcd 3 (.int .i64 0)).far hcd 4 (.int .i64 0))
      go_wp2_with fail
      go_roundw
      case rel =>
        refine ⟨k + 1, by omega, by go_num, T2, R2, ?_, ?_, ?_, ?_, ?_, ?_, BD, HB⟩
        · have := G.out; have := G'.out; omega
        · have := G.out; have := G'.out; omega
        · have := G'.out; omega
        · have := G'.out; omega
        · intro h
          have h1 := hin h
          obtain ⟨h2, h3⟩ := hex h
          have := G.out; have := G'.out
          omega
        · refine ⟨?_⟩
          rw [show s + ((k + 1 : Nat) : Int) * 20000 = C by have := HC.out; omega]
          exact BC.out
      case measure => simp [intOf]; omega
    · obtain rfl : (k : Int) = n := by omega
      have BC0 := BC
      have hin2 := Aside0.mk hin
      clear hin
      have BD0 := BD
      by_cases h0 : -100 ≤ drift
      · by_cases h1 : drift ≤ 100
        · skip
          obtain ⟨hT, rfl⟩ := hex ⟨h0, h1⟩
          clear hex
          obtain rfl : T = s + 2 * (k : Int) * 20000 := by omega
          clear hT
          have t1 : decide (-100 ≤ drift) = true := by simp; omega
          have t2 : decide (drift ≤ 100) = true := by simp; omega
          have d0 := BD.out.c0
          have d1 := BD.out.c1
          have d2 := BD.out.c2
          have d3 := BD.out.c3
          have d4 := BD.out.c4
          have BE := Aside0.mk (Cb.made wr (s + 2 * (k : Int) * 20000) 0 false 0 0)
          have hle3 : w.heap.size ≤ wr.heap.size := HB.out.size
          have BC := Aside0.mk (BC.out.below (below_alloc (Below.refl _ _) (.cells (cells5 (s + 2 * (k : Int) * 20000) 0 false 0 0) 25)))
          have BD := Aside0.mk (BD.out.below (below_alloc (Below.refl _ _) (.cells (cells5 (s + 2 * (k : Int) * 20000) 0 false 0 0) 25)))
          have hce : c < wr.heap.size := by have h := BC0.out.lt; exact h
          have hde : d < wr.heap.size := by have h := BD0.out.lt; exact h
          have HB := Aside0.mk (below_alloc HB.out (.cells (cells5 (s + 2 * (k : Int) * 20000) 0 false 0 0) 25))
          have q0 := BC.out.c0
          have q1 := BC.out.c1
          have q2 := BC.out.c2
          have q3 := BC.out.c3
          have q4 := BC.out.c4
          go_wp2_with fail
          generalize wr.alloc (.cells (cells5 (s + 2 * (k : Int) * 20000) 0 false 0 0) 25) = W0 at *
          generalize wr.heap.size = eb at *
          with_reducible refine (step_calls (s + (k : Int) * 20000) 0 0 0 100 false _ (by omega) (by omega) (by omega)).mono ?_
          rw [show gainQ 0 100 = 2 by decide, show gainR 0 100 = 0 by decide, show stepS false 0 = 0 from rfl]
          rintro e w5 ⟨rfl, HB'⟩
          obtain ⟨top, htop⟩ : ∃ x, s + (k : Int) * 20000 + 20000 + 2 = x := ⟨_, rfl⟩
          rw [htop]
          have Htop := Aside0.mk htop
          clear htop
          have BC := Aside0.mk (BC.out.below HB')
          have BD := Aside0.mk (BD.out.below HB')
          have BE := Aside0.mk (BE.out.below HB')
          have HB := Aside0.mk (below_step HB.out HB')
          clear HB' q0 q1 q2 q3 q4
          have BC := Aside0.mk (BC.out.below (below_alloc (Below.refl _ _) (.cells (cells5 top 0 false 0 0) 25)))
          have BD := Aside0.mk (BD.out.below (below_alloc (Below.refl _ _) (.cells (cells5 top 0 false 0 0) 25)))
          have BE := Aside0.mk (BE.out.below (below_alloc (Below.refl _ _) (.cells (cells5 top 0 false 0 0) 25)))
          have HB := Aside0.mk (below_alloc HB.out (.cells (cells5 top 0 false 0 0) 25))
          have BT := Aside0.mk (Cb.made w5 top 0 false 0 0)
          have q0 := BC.out.c0
          have q1 := BC.out.c1
          have q2 := BC.out.c2
          have q3 := BC.out.c3
          have q4 := BC.out.c4
          go_wp2_with fail
          generalize w5.alloc (.cells (cells5 top 0 false 0 0) 25) = Wtop at *
          generalize w5.heap.size = btop at *
          with_reducible refine (step_calls (s + (k : Int) * 20000) 0 0 0 (-100) false _ (by omega) (by omega) (by omega)).mono ?_
          rw [show gainQ 0 (-100) = -2 by decide, show gainR 0 (-100) = 0 by decide, show stepS false 0 = 0 from rfl]
          rintro e w6 ⟨rfl, HB'⟩
          obtain ⟨low, hlow⟩ : ∃ x, s + (k : Int) * 20000 + 20000 + -2 = x := ⟨_, rfl⟩
          rw [hlow]
          have Hlow := Aside0.mk hlow
          clear hlow
          have BC := Aside0.mk (BC.out.below HB')
          have BD := Aside0.mk (BD.out.below HB')
          have BE := Aside0.mk (BE.out.below HB')
          have BT := Aside0.mk (BT.out.below HB')
          have HB := Aside0.mk (below_step HB.out HB')
          clear HB' q0 q1 q2 q3 q4
          have BC := Aside0.mk (BC.out.below (below_alloc (Below.refl _ _) (.cells (cells5 low 0 false 0 0) 25)))
          have BD := Aside0.mk (BD.out.below (below_alloc (Below.refl _ _) (.cells (cells5 low 0 false 0 0) 25)))
          have BE := Aside0.mk (BE.out.below (below_alloc (Below.refl _ _) (.cells (cells5 low 0 false 0 0) 25)))
          have BT := Aside0.mk (BT.out.below (below_alloc (Below.refl _ _) (.cells (cells5 low 0 false 0 0) 25)))
          have HB := Aside0.mk (below_alloc HB.out (.cells (cells5 low 0 false 0 0) 25))
          have BL := Aside0.mk (Cb.made w6 low 0 false 0 0)
          go_wp2_with fail
          generalize w6.alloc (.cells (cells5 low 0 false 0 0) 25) = Wlow at *
          generalize w6.heap.size = blow at *
          have q0 := BC.out.c0
          have q1 := BC.out.c1
          have q2 := BC.out.c2
          have q3 := BC.out.c3
          have q4 := BC.out.c4
          have e0 := BE.out.c0
          have e1 := BE.out.c1
          have e2 := BE.out.c2
          have e3 := BE.out.c3
          have e4 := BE.out.c4
          have x0 := BD.out.c0
          have x1 := BD.out.c1
          have x2 := BD.out.c2
          have x3 := BD.out.c3
          have x4 := BD.out.c4
          have y0 := BT.out.c0
          have y1 := BT.out.c1
          have y2 := BT.out.c2
          have y3 := BT.out.c3
          have y4 := BT.out.c4
          have z0 := BL.out.c0
          have z1 := BL.out.c1
          have z2 := BL.out.c2
          have z3 := BL.out.c3
          have z4 := BL.out.c4
          have hv1 : wrap64 ((k : Int) * 20000) = (k : Int) * 20000 := w64 (by omega) (by omega)
          have hv2 : wrap64 (s + (k : Int) * 20000) = s + (k : Int) * 20000 := w64 (by omega) (by omega)
          refine Q.q_start (by kernel_rfl) (by kernel_rfl) ?_
          refine Q.q_value (N := some 54) (v := ?_) (a' := ?_) rfl (by rfl) ?_ ?_ ?_
          rotate_left
          · intro w' hb
            have s0 := pw_cell_below hb q0
            have s1 := pw_cell_below hb q1
            have s2 := pw_cell_below hb q2
            have s3 := pw_cell_below hb q3
            have s4 := pw_cell_below hb q4
            clear hb
            go_simp
            with_reducible rfl
          rotate_left
          · simp only [Act.put, List.setIfInBounds_toArray, List.set_cons_zero, List.set_cons_succ, i64_w, i32_w]
            rfl
          refine Q.q_value (N := some 55) (v := ?_) (a' := ?_) rfl (by rfl) ?_ ?_ ?_
          rotate_left
          · intro w' hb
            clear hb
            go_simp
            with_reducible rfl
          rotate_left
          · simp only [Act.put, List.setIfInBounds_toArray, List.set_cons_zero, List.set_cons_succ, i64_w, i32_w]
            rfl
          refine Q.q_value (N := some 56) (v := ?_) (a' := ?_) rfl (by rfl) ?_ ?_ ?_
          rotate_left
          · intro w' hb
            clear hb
            go_simp
            with_reducible rfl
          rotate_left
          · simp only [Act.put, List.setIfInBounds_toArray, List.set_cons_zero, List.set_cons_succ, i64_w, i32_w]
            rfl
          refine Q.q_value (N := some 57) (v := ?_) (a' := ?_) rfl (by rfl) ?_ ?_ ?_
          rotate_left
          · intro w' hb
            clear hb
            go_simp
            with_reducible rfl
          rotate_left
          · simp only [Act.put, List.setIfInBounds_toArray, List.set_cons_zero, List.set_cons_succ, i64_w, i32_w]
            rfl
          refine Q.q_value (N := some 58) (v := ?_) (a' := ?_) rfl (by rfl) ?_ ?_ ?_
          rotate_left
          · intro w' hb
            clear hb
            go_simp
            with_reducible rfl
          rotate_left
          · simp only [Act.put, List.setIfInBounds_toArray, List.set_cons_zero, List.set_cons_succ, i64_w, i32_w]
            rfl
          refine Q.q_value (N := some 59) (v := ?_) (a' := ?_) rfl (by rfl) ?_ ?_ ?_
          rotate_left
          · intro w' hb
            clear hb
            go_simp
            with_reducible rfl
          rotate_left
          · simp only [Act.put, List.setIfInBounds_toArray, List.set_cons_zero, List.set_cons_succ, i64_w, i32_w]
            rfl
          refine Q.q_value (N := some 60) (v := ?_) (a' := ?_) rfl (by rfl) ?_ ?_ ?_
          rotate_left
          · intro w' hb
            clear hb
            go_simp
            with_reducible rfl
          rotate_left
          · simp only [Act.put, List.setIfInBounds_toArray, List.set_cons_zero, List.set_cons_succ, i64_w, i32_w]
            rfl
          refine Q.q_value (N := some 61) (v := ?_) (a' := ?_) rfl (by rfl) ?_ ?_ ?_
          rotate_left
          · intro w' hb
            clear hb
            go_simp
            with_reducible rfl
          rotate_left
          · simp only [Act.put, List.setIfInBounds_toArray, List.set_cons_zero, List.set_cons_succ, i64_w, i32_w]
            rfl
          refine Q.q_value (N := some 62) (v := ?_) (a' := ?_) rfl (by rfl) ?_ ?_ ?_
          rotate_left
          · intro w' hb
            have s0 := pw_cell_below hb e0
            have s1 := pw_cell_below hb e1
            have s2 := pw_cell_below hb e2
            have s3 := pw_cell_below hb e3
            have s4 := pw_cell_below hb e4
            clear hb
            go_simp
            with_reducible rfl
          rotate_left
          · simp only [Act.put, List.setIfInBounds_toArray, List.set_cons_zero, List.set_cons_succ, i64_w, i32_w]
            rfl
          refine Q.q_value (N := some 63) (v := ?_) (a' := ?_) rfl (by rfl) ?_ ?_ ?_
          rotate_left
          · intro w' hb
            have s0 := pw_cell_below hb x0
            have s1 := pw_cell_below hb x1
            have s2 := pw_cell_below hb x2
            have s3 := pw_cell_below hb x3
            have s4 := pw_cell_below hb x4
            clear hb
            go_simp
            with_reducible rfl
          rotate_left
          · simp only [Act.put, List.setIfInBounds_toArray, List.set_cons_zero, List.set_cons_succ, i64_w, i32_w]
            rfl
          refine Q.q_value (N := some 64) (v := ?_) (a' := ?_) rfl (by rfl) ?_ ?_ ?_
          rotate_left
          · intro w' hb
            clear hb
            go_simp
            with_reducible rfl
          rotate_left
          · simp only [Act.put, List.setIfInBounds_toArray, List.set_cons_zero, List.set_cons_succ, i64_w, i32_w]
            rfl
          refine Q.q_value (N := some 65) (v := ?_) (a' := ?_) rfl (by rfl) ?_ ?_ ?_
          rotate_left
          · intro w' hb
            clear hb
            go_simp
            with_reducible rfl
          rotate_left
          · simp only [Act.put, List.setIfInBounds_toArray, List.set_cons_zero, List.set_cons_succ, i64_w, i32_w]
            rfl
          refine Q.q_value (N := some 66) (v := ?_) (a' := ?_) rfl (by rfl) ?_ ?_ ?_
          rotate_left
          · intro w' hb
            clear hb
            go_simp
            with_reducible rfl
          rotate_left
          · simp only [Act.put, List.setIfInBounds_toArray, List.set_cons_zero, List.set_cons_succ, i64_w, i32_w]
            rfl
          refine Q.q_value (N := some 67) (v := ?_) (a' := ?_) rfl (by rfl) ?_ ?_ ?_
          rotate_left
          · intro w' hb
            clear hb
            go_simp
            with_reducible rfl
          rotate_left
          · simp only [Act.put, List.setIfInBounds_toArray, List.set_cons_zero, List.set_cons_succ, i64_w, i32_w]
            rfl
          refine Q.q_value (N := some 68) (v := ?_) (a' := ?_) rfl (by rfl) ?_ ?_ ?_
          rotate_left
          · intro w' hb
            clear hb
            go_simp
            with_reducible rfl
          rotate_left
          · simp only [Act.put, List.setIfInBounds_toArray, List.set_cons_zero, List.set_cons_succ, i64_w, i32_w]
            rfl
          refine Q.q_value (N := some 69) (v := ?_) (a' := ?_) rfl (by rfl) ?_ ?_ ?_
          rotate_left
          · intro w' hb
            clear hb
            go_simp
            with_reducible rfl
          rotate_left
          · simp only [Act.put, List.setIfInBounds_toArray, List.set_cons_zero, List.set_cons_succ, i64_w, i32_w]
            rfl
          refine Q.q_off (N := some 70) (a' := ?_) rfl (by rfl) ?_ ?_
          rotate_left
          · simp only [Act.put, List.setIfInBounds_toArray, List.set_cons_zero, List.set_cons_succ, i64_w, i32_w]
            rfl
          refine Q.q_off (N := some 71) (a' := ?_) rfl (by rfl) ?_ ?_
          rotate_left
          · simp only [Act.put, List.setIfInBounds_toArray, List.set_cons_zero, List.set_cons_succ, i64_w, i32_w]
            rfl
          refine Q.q_off (N := some 72) (a' := ?_) rfl (by rfl) ?_ ?_
          rotate_left
          · simp only [Act.put, List.setIfInBounds_toArray, List.set_cons_zero, List.set_cons_succ, i64_w, i32_w]
            rfl
          refine Q.q_off (N := some 73) (a' := ?_) rfl (by rfl) ?_ ?_
          rotate_left
          · simp only [Act.put, List.setIfInBounds_toArray, List.set_cons_zero, List.set_cons_succ, i64_w, i32_w]
            rfl
          refine Q.q_off (N := some 74) (a' := ?_) rfl (by rfl) ?_ ?_
          rotate_left
          · simp only [Act.put, List.setIfInBounds_toArray, List.set_cons_zero, List.set_cons_succ, i64_w, i32_w]
            rfl
          refine Q.q_value (N := some 75) (v := ?_) (a' := ?_) rfl (by rfl) ?_ ?_ ?_
          rotate_left
          · intro w' hb
            clear hb
            go_simp
            with_reducible rfl
          rotate_left
          · simp only [Act.put, List.setIfInBounds_toArray, List.set_cons_zero, List.set_cons_succ, i64_w, i32_w]
            rfl
          refine Q.q_value (N := some 76) (v := ?_) (a' := ?_) rfl (by rfl) ?_ ?_ ?_
          rotate_left
          · intro w' hb
            clear hb
            go_simp
            with_reducible rfl
          rotate_left
          · simp only [Act.put, List.setIfInBounds_toArray, List.set_cons_zero, List.set_cons_succ, i64_w, i32_w]
            rfl
          refine Q.q_value (N := some 77) (v := ?_) (a' := ?_) rfl (by rfl) ?_ ?_ ?_
          rotate_left
          · intro w' hb
            clear hb
            go_simp
            with_reducible rfl
          rotate_left
          · simp only [Act.put, List.setIfInBounds_toArray, List.set_cons_zero, List.set_cons_succ, i64_w, i32_w]
            rfl
          refine Q.q_value (N := some 78) (v := ?_) (a' := ?_) rfl (by rfl) ?_ ?_ ?_
          rotate_left
          · intro w' hb
            clear hb
            go_simp
            with_reducible rfl
          rotate_left
          · simp only [Act.put, List.setIfInBounds_toArray, List.set_cons_zero, List.set_cons_succ, i64_w, i32_w]
            rfl
          refine Q.q_value (N := some 79) (v := ?_) (a' := ?_) rfl (by rfl) ?_ ?_ ?_
          rotate_left
          · intro w' hb
            clear hb
            go_simp
            with_reducible rfl
          rotate_left
          · simp only [Act.put, List.setIfInBounds_toArray, List.set_cons_zero, List.set_cons_succ, i64_w, i32_w]
            rfl
          refine Q.q_value (N := some 80) (v := ?_) (a' := ?_) rfl (by rfl) ?_ ?_ ?_
          rotate_left
          · intro w' hb
            clear hb
            go_simp
            with_reducible rfl
          rotate_left
          · simp only [Act.put, List.setIfInBounds_toArray, List.set_cons_zero, List.set_cons_succ, i64_w, i32_w]
            rfl
          refine Q.q_off (N := some 81) (a' := ?_) rfl (by rfl) ?_ ?_
          rotate_left
          · simp only [Act.put, List.setIfInBounds_toArray, List.set_cons_zero, List.set_cons_succ, i64_w, i32_w]
            rfl
          refine Q.q_off (N := some 82) (a' := ?_) rfl (by rfl) ?_ ?_
          rotate_left
          · simp only [Act.put, List.setIfInBounds_toArray, List.set_cons_zero, List.set_cons_succ, i64_w, i32_w]
            rfl
          refine Q.q_off (N := some 83) (a' := ?_) rfl (by rfl) ?_ ?_
          rotate_left
          · simp only [Act.put, List.setIfInBounds_toArray, List.set_cons_zero, List.set_cons_succ, i64_w, i32_w]
            rfl
          refine Q.q_off (N := some 84) (a' := ?_) rfl (by rfl) ?_ ?_
          rotate_left
          · simp only [Act.put, List.setIfInBounds_toArray, List.set_cons_zero, List.set_cons_succ, i64_w, i32_w]
            rfl
          refine Q.q_off (N := some 85) (a' := ?_) rfl (by rfl) ?_ ?_
          rotate_left
          · simp only [Act.put, List.setIfInBounds_toArray, List.set_cons_zero, List.set_cons_succ, i64_w, i32_w]
            rfl
          refine Q.q_value (N := some 86) (v := ?_) (a' := ?_) rfl (by rfl) ?_ ?_ ?_
          rotate_left
          · intro w' hb
            clear hb
            go_simp
            with_reducible rfl
          rotate_left
          · simp only [Act.put, List.setIfInBounds_toArray, List.set_cons_zero, List.set_cons_succ, i64_w, i32_w]
            rfl
          refine Q.q_value (N := some 87) (v := ?_) (a' := ?_) rfl (by rfl) ?_ ?_ ?_
          rotate_left
          · intro w' hb
            clear hb
            go_simp
            with_reducible rfl
          rotate_left
          · simp only [Act.put, List.setIfInBounds_toArray, List.set_cons_zero, List.set_cons_succ, i64_w, i32_w]
            rfl
          refine Q.q_value (N := some 6) (v := ?_) (a' := ?_) rfl (by rfl) ?_ ?_ ?_
          rotate_left
          · intro w' hb
            clear hb
            go_simp
            with_reducible rfl
          rotate_left
          · simp only [Act.put, List.setIfInBounds_toArray, List.set_cons_zero, List.set_cons_succ, i64_w, i32_w]
            rfl
          refine wpQuiet_nil ?_
          intro w9 HB9
          have HB := Aside0.mk (below_step HB.out HB9)
          clear HB9
          go_wp2_with fail
          go_ret
          exact ⟨rfl, HB.out⟩
        · skip
          clear hex
          have t1 : decide (-100 ≤ drift) = true := by simp; omega
          have t2 : decide (drift ≤ 100) = false := by simp; omega
          have d0 := BD.out.c0
          have d1 := BD.out.c1
          have d2 := BD.out.c2
          have d3 := BD.out.c3
          have d4 := BD.out.c4
          have BE := Aside0.mk (Cb.made wr T R false 0 0)
          have hle3 : w.heap.size ≤ wr.heap.size := HB.out.size
          have BC := Aside0.mk (BC.out.below (below_alloc (Below.refl _ _) (.cells (cells5 T R false 0 0) 25)))
          have BD := Aside0.mk (BD.out.below (below_alloc (Below.refl _ _) (.cells (cells5 T R false 0 0) 25)))
          have hce : c < wr.heap.size := by have h := BC0.out.lt; exact h
          have hde : d < wr.heap.size := by have h := BD0.out.lt; exact h
          have HB := Aside0.mk (below_alloc HB.out (.cells (cells5 T R false 0 0) 25))
          have q0 := BC.out.c0
          have q1 := BC.out.c1
          have q2 := BC.out.c2
          have q3 := BC.out.c3
          have q4 := BC.out.c4
          go_wp2_with fail
          generalize wr.alloc (.cells (cells5 T R false 0 0) 25) = W0 at *
          generalize wr.heap.size = eb at *
          with_reducible refine (step_calls (s + (k : Int) * 20000) 0 0 0 100 false _ (by omega) (by omega) (by omega)).mono ?_
          rw [show gainQ 0 100 = 2 by decide, show gainR 0 100 = 0 by decide, show stepS false 0 = 0 from rfl]
          rintro e w5 ⟨rfl, HB'⟩
          obtain ⟨top, htop⟩ : ∃ x, s + (k : Int) * 20000 + 20000 + 2 = x := ⟨_, rfl⟩
          rw [htop]
          have Htop := Aside0.mk htop
          clear htop
          have BC := Aside0.mk (BC.out.below HB')
          have BD := Aside0.mk (BD.out.below HB')
          have BE := Aside0.mk (BE.out.below HB')
          have HB := Aside0.mk (below_step HB.out HB')
          clear HB' q0 q1 q2 q3 q4
          have BC := Aside0.mk (BC.out.below (below_alloc (Below.refl _ _) (.cells (cells5 top 0 false 0 0) 25)))
          have BD := Aside0.mk (BD.out.below (below_alloc (Below.refl _ _) (.cells (cells5 top 0 false 0 0) 25)))
          have BE := Aside0.mk (BE.out.below (below_alloc (Below.refl _ _) (.cells (cells5 top 0 false 0 0) 25)))
          have HB := Aside0.mk (below_alloc HB.out (.cells (cells5 top 0 false 0 0) 25))
          have BT := Aside0.mk (Cb.made w5 top 0 false 0 0)
          have q0 := BC.out.c0
          have q1 := BC.out.c1
          have q2 := BC.out.c2
          have q3 := BC.out.c3
          have q4 := BC.out.c4
          go_wp2_with fail
          generalize w5.alloc (.cells (cells5 top 0 false 0 0) 25) = Wtop at *
          generalize w5.heap.size = btop at *
          with_reducible refine (step_calls (s + (k : Int) * 20000) 0 0 0 (-100) false _ (by omega) (by omega) (by omega)).mono ?_
          rw [show gainQ 0 (-100) = -2 by decide, show gainR 0 (-100) = 0 by decide, show stepS false 0 = 0 from rfl]
          rintro e w6 ⟨rfl, HB'⟩
          obtain ⟨low, hlow⟩ : ∃ x, s + (k : Int) * 20000 + 20000 + -2 = x := ⟨_, rfl⟩
          rw [hlow]
          have Hlow := Aside0.mk hlow
          clear hlow
          have BC := Aside0.mk (BC.out.below HB')
          have BD := Aside0.mk (BD.out.below HB')
          have BE := Aside0.mk (BE.out.below HB')
          have BT := Aside0.mk (BT.out.below HB')
          have HB := Aside0.mk (below_step HB.out HB')
          clear HB' q0 q1 q2 q3 q4
          have BC := Aside0.mk (BC.out.below (below_alloc (Below.refl _ _) (.cells (cells5 low 0 false 0 0) 25)))
          have BD := Aside0.mk (BD.out.below (below_alloc (Below.refl _ _) (.cells (cells5 low 0 false 0 0) 25)))
          have BE := Aside0.mk (BE.out.below (below_alloc (Below.refl _ _) (.cells (cells5 low 0 false 0 0) 25)))
          have BT := Aside0.mk (BT.out.below (below_alloc (Below.refl _ _) (.cells (cells5 low 0 false 0 0) 25)))
          have HB := Aside0.mk (below_alloc HB.out (.cells (cells5 low 0 false 0 0) 25))
          have BL := Aside0.mk (Cb.made w6 low 0 false 0 0)
          go_wp2_with fail
          generalize w6.alloc (.cells (cells5 low 0 false 0 0) 25) = Wlow at *
          generalize w6.heap.size = blow at *
          have q0 := BC.out.c0
          have q1 := BC.out.c1
          have q2 := BC.out.c2
          have q3 := BC.out.c3
          have q4 := BC.out.c4
          have e0 := BE.out.c0
          have e1 := BE.out.c1
          have e2 := BE.out.c2
          have e3 := BE.out.c3
          have e4 := BE.out.c4
          have x0 := BD.out.c0
          have x1 := BD.out.c1
          have x2 := BD.out.c2
          have x3 := BD.out.c3
          have x4 := BD.out.c4
          have y0 := BT.out.c0
          have y1 := BT.out.c1
          have y2 := BT.out.c2
          have y3 := BT.out.c3
          have y4 := BT.out.c4
          have z0 := BL.out.c0
          have z1 := BL.out.c1
          have z2 := BL.out.c2
          have z3 := BL.out.c3
          have z4 := BL.out.c4
          have hcl : cl drift = 100 := by
            unfold cl
            repeat' split
            all_goals omega
          have HS : Aside0 (∀ w', Below Wlow.heap.size Wlow w' → Calls Try.prog 11 #[ck (s + (k : Int) * 20000) 0 false 0 0, .int .i64 drift] w' fun e' w'' => e' = .returned (ck top 0 false 0 0) ∧ Below Wlow.heap.size Wlow w'') := ⟨by
            rw [← Htop.out]
            have hgq : gainQ 0 drift = 2 := by unfold gainQ; rw [hcl]; decide
            have hgr : gainR 0 drift = 0 := by unfold gainR; rw [hcl]; decide
            have := Q.q_below (P := Try.prog) (w := Wlow) fun w' => step_calls (s + (k : Int) * 20000) 0 0 0 drift false w' (by omega) (by omega) (by omega)
            rw [hgq, hgr, show stepS false 0 = 0 from rfl] at this
            exact this⟩
          clear hcl
          have hv1 : wrap64 ((k : Int) * 20000) = (k : Int) * 20000 := w64 (by omega) (by omega)
          have hv2 : wrap64 (s + (k : Int) * 20000) = s + (k : Int) * 20000 := w64 (by omega) (by omega)
          refine Q.q_start (by kernel_rfl) (by kernel_rfl) ?_
          refine Q.q_value (N := some 54) (v := ?_) (a' := ?_) rfl (by rfl) ?_ ?_ ?_
          rotate_left
          · intro w' hb
            have s0 := pw_cell_below hb q0
            have s1 := pw_cell_below hb q1
            have s2 := pw_cell_below hb q2
            have s3 := pw_cell_below hb q3
            have s4 := pw_cell_below hb q4
            clear hb
            go_simp
            with_reducible rfl
          rotate_left
          · simp only [Act.put, List.setIfInBounds_toArray, List.set_cons_zero, List.set_cons_succ, i64_w, i32_w]
            rfl
          refine Q.q_value (N := some 55) (v := ?_) (a' := ?_) rfl (by rfl) ?_ ?_ ?_
          rotate_left
          · intro w' hb
            clear hb
            go_simp
            with_reducible rfl
          rotate_left
          · simp only [Act.put, List.setIfInBounds_toArray, List.set_cons_zero, List.set_cons_succ, i64_w, i32_w]
            rfl
          refine Q.q_value (N := some 56) (v := ?_) (a' := ?_) rfl (by rfl) ?_ ?_ ?_
          rotate_left
          · intro w' hb
            clear hb
            go_simp
            with_reducible rfl
          rotate_left
          · simp only [Act.put, List.setIfInBounds_toArray, List.set_cons_zero, List.set_cons_succ, i64_w, i32_w]
            rfl
          refine Q.q_value (N := some 57) (v := ?_) (a' := ?_) rfl (by rfl) ?_ ?_ ?_
          rotate_left
          · intro w' hb
            clear hb
            go_simp
            with_reducible rfl
          rotate_left
          · simp only [Act.put, List.setIfInBounds_toArray, List.set_cons_zero, List.set_cons_succ, i64_w, i32_w]
            rfl
          refine Q.q_value (N := some 58) (v := ?_) (a' := ?_) rfl (by rfl) ?_ ?_ ?_
          rotate_left
          · intro w' hb
            clear hb
            go_simp
            with_reducible rfl
          rotate_left
          · simp only [Act.put, List.setIfInBounds_toArray, List.set_cons_zero, List.set_cons_succ, i64_w, i32_w]
            rfl
          refine Q.q_value (N := some 59) (v := ?_) (a' := ?_) rfl (by rfl) ?_ ?_ ?_
          rotate_left
          · intro w' hb
            clear hb
            go_simp
            with_reducible rfl
          rotate_left
          · simp only [Act.put, List.setIfInBounds_toArray, List.set_cons_zero, List.set_cons_succ, i64_w, i32_w]
            rfl
          refine Q.q_value (N := some 60) (v := ?_) (a' := ?_) rfl (by rfl) ?_ ?_ ?_
          rotate_left
          · intro w' hb
            clear hb
            go_simp
            with_reducible rfl
          rotate_left
          · simp only [Act.put, List.setIfInBounds_toArray, List.set_cons_zero, List.set_cons_succ, i64_w, i32_w]
            rfl
          refine Q.q_value (N := some 61) (v := ?_) (a' := ?_) rfl (by rfl) ?_ ?_ ?_
          rotate_left
          · intro w' hb
            clear hb
            go_simp
            with_reducible rfl
          rotate_left
          · simp only [Act.put, List.setIfInBounds_toArray, List.set_cons_zero, List.set_cons_succ, i64_w, i32_w]
            rfl
          refine Q.q_value (N := some 62) (v := ?_) (a' := ?_) rfl (by rfl) ?_ ?_ ?_
          rotate_left
          · intro w' hb
            have s0 := pw_cell_below hb e0
            have s1 := pw_cell_below hb e1
            have s2 := pw_cell_below hb e2
            have s3 := pw_cell_below hb e3
            have s4 := pw_cell_below hb e4
            clear hb
            go_simp
            with_reducible rfl
          rotate_left
          · simp only [Act.put, List.setIfInBounds_toArray, List.set_cons_zero, List.set_cons_succ, i64_w, i32_w]
            rfl
          refine Q.q_value (N := some 63) (v := ?_) (a' := ?_) rfl (by rfl) ?_ ?_ ?_
          rotate_left
          · intro w' hb
            have s0 := pw_cell_below hb x0
            have s1 := pw_cell_below hb x1
            have s2 := pw_cell_below hb x2
            have s3 := pw_cell_below hb x3
            have s4 := pw_cell_below hb x4
            clear hb
            go_simp
            with_reducible rfl
          rotate_left
          · simp only [Act.put, List.setIfInBounds_toArray, List.set_cons_zero, List.set_cons_succ, i64_w, i32_w]
            rfl
          refine Q.q_value (N := some 64) (v := ?_) (a' := ?_) rfl (by rfl) ?_ ?_ ?_
          rotate_left
          · intro w' hb
            clear hb
            go_simp
            with_reducible rfl
          rotate_left
          · simp only [Act.put, List.setIfInBounds_toArray, List.set_cons_zero, List.set_cons_succ, i64_w, i32_w]
            rfl
          refine Q.q_value (N := some 65) (v := ?_) (a' := ?_) rfl (by rfl) ?_ ?_ ?_
          rotate_left
          · intro w' hb
            clear hb
            go_simp
            with_reducible rfl
          rotate_left
          · simp only [Act.put, List.setIfInBounds_toArray, List.set_cons_zero, List.set_cons_succ, i64_w, i32_w]
            rfl
          refine Q.q_value (N := some 66) (v := ?_) (a' := ?_) rfl (by rfl) ?_ ?_ ?_
          rotate_left
          · intro w' hb
            clear hb
            go_simp
            with_reducible rfl
          rotate_left
          · simp only [Act.put, List.setIfInBounds_toArray, List.set_cons_zero, List.set_cons_succ, i64_w, i32_w]
            rfl
          refine Q.q_value (N := some 67) (v := ?_) (a' := ?_) rfl (by rfl) ?_ ?_ ?_
          rotate_left
          · intro w' hb
            clear hb
            go_simp
            with_reducible rfl
          rotate_left
          · simp only [Act.put, List.setIfInBounds_toArray, List.set_cons_zero, List.set_cons_succ, i64_w, i32_w]
            rfl
          refine Q.q_value (N := some 68) (v := ?_) (a' := ?_) rfl (by rfl) ?_ ?_ ?_
          rotate_left
          · intro w' hb
            clear hb
            go_simp
            with_reducible rfl
          rotate_left
          · simp only [Act.put, List.setIfInBounds_toArray, List.set_cons_zero, List.set_cons_succ, i64_w, i32_w]
            rfl
          refine Q.q_value (N := some 69) (v := ?_) (a' := ?_) rfl (by rfl) ?_ ?_ ?_
          rotate_left
          · intro w' hb
            clear hb
            go_simp
            with_reducible rfl
          rotate_left
          · simp only [Act.put, List.setIfInBounds_toArray, List.set_cons_zero, List.set_cons_succ, i64_w, i32_w]
            rfl
          refine Q.q_value (N := some 70) (v := ?_) (a' := ?_) rfl (by rfl) ?_ ?_ ?_
          rotate_left
          · intro w' hb
            have s0 := pw_cell_below hb q0
            have s1 := pw_cell_below hb q1
            have s2 := pw_cell_below hb q2
            have s3 := pw_cell_below hb q3
            have s4 := pw_cell_below hb q4
            clear hb
            go_simp
            with_reducible rfl
          rotate_left
          · simp only [Act.put, List.setIfInBounds_toArray, List.set_cons_zero, List.set_cons_succ, i64_w, i32_w]
            rfl
          refine Q.q_value (N := some 71) (v := ?_) (a' := ?_) rfl (by rfl) ?_ ?_ ?_
          rotate_left
          · intro w' hb
            clear hb
            go_simp
            with_reducible rfl
          rotate_left
          · simp only [Act.put, List.setIfInBounds_toArray, List.set_cons_zero, List.set_cons_succ, i64_w, i32_w]
            rfl
          refine Q.q_call (N := some 72) (v := ck top 0 false 0 0) (a' := ?_) 11 #[ck (s + (k : Int) * 20000) 0 false 0 0, .int .i64 drift] rfl (by rfl) Try.func11 (by kernel_rfl) rfl (by rfl) (by first | rfl | (simp only [List.map_toArray, List.map_cons, List.map_nil]; rfl)) (HS.out) ?_ ?_
          rotate_left
          · simp only [Act.put, List.setIfInBounds_toArray, List.set_cons_zero, List.set_cons_succ, i64_w, i32_w]
            rfl
          refine Q.q_value (N := some 73) (v := ?_) (a' := ?_) rfl (by rfl) ?_ ?_ ?_
          rotate_left
          · intro w' hb
            have s0 := pw_cell_below hb y0
            have s1 := pw_cell_below hb y1
            have s2 := pw_cell_below hb y2
            have s3 := pw_cell_below hb y3
            have s4 := pw_cell_below hb y4
            clear hb
            go_simp
            with_reducible rfl
          rotate_left
          · simp only [Act.put, List.setIfInBounds_toArray, List.set_cons_zero, List.set_cons_succ, i64_w, i32_w]
            rfl
          refine Q.q_value (N := some 74) (v := ?_) (a' := ?_) rfl (by rfl) ?_ ?_ ?_
          rotate_left
          · intro w' hb
            clear hb
            go_simp
            with_reducible rfl
          rotate_left
          · simp only [Act.put, List.setIfInBounds_toArray, List.set_cons_zero, List.set_cons_succ, i64_w, i32_w]
            rfl
          refine Q.q_value (N := some 75) (v := ?_) (a' := ?_) rfl (by rfl) ?_ ?_ ?_
          rotate_left
          · intro w' hb
            clear hb
            go_simp
            with_reducible rfl
          rotate_left
          · simp only [Act.put, List.setIfInBounds_toArray, List.set_cons_zero, List.set_cons_succ, i64_w, i32_w]
            rfl
          refine Q.q_value (N := some 76) (v := ?_) (a' := ?_) rfl (by rfl) ?_ ?_ ?_
          rotate_left
          · intro w' hb
            clear hb
            go_simp
            with_reducible rfl
          rotate_left
          · simp only [Act.put, List.setIfInBounds_toArray, List.set_cons_zero, List.set_cons_succ, i64_w, i32_w]
            rfl
          refine Q.q_value (N := some 77) (v := ?_) (a' := ?_) rfl (by rfl) ?_ ?_ ?_
          rotate_left
          · intro w' hb
            clear hb
            go_simp
            with_reducible rfl
          rotate_left
          · simp only [Act.put, List.setIfInBounds_toArray, List.set_cons_zero, List.set_cons_succ, i64_w, i32_w]
            rfl
          refine Q.q_value (N := some 78) (v := ?_) (a' := ?_) rfl (by rfl) ?_ ?_ ?_
          rotate_left
          · intro w' hb
            clear hb
            go_simp
            with_reducible rfl
          rotate_left
          · simp only [Act.put, List.setIfInBounds_toArray, List.set_cons_zero, List.set_cons_succ, i64_w, i32_w]
            rfl
          refine Q.q_value (N := some 79) (v := ?_) (a' := ?_) rfl (by rfl) ?_ ?_ ?_
          rotate_left
          · intro w' hb
            clear hb
            go_simp
            with_reducible rfl
          rotate_left
          · simp only [Act.put, List.setIfInBounds_toArray, List.set_cons_zero, List.set_cons_succ, i64_w, i32_w]
            rfl
          refine Q.q_value (N := some 80) (v := ?_) (a' := ?_) rfl (by rfl) ?_ ?_ ?_
          rotate_left
          · intro w' hb
            clear hb
            go_simp
            with_reducible rfl
          rotate_left
          · simp only [Act.put, List.setIfInBounds_toArray, List.set_cons_zero, List.set_cons_succ, i64_w, i32_w]
            rfl
          refine Q.q_off (N := some 81) (a' := ?_) rfl (by rfl) ?_ ?_
          rotate_left
          · simp only [Act.put, List.setIfInBounds_toArray, List.set_cons_zero, List.set_cons_succ, i64_w, i32_w]
            rfl
          refine Q.q_off (N := some 82) (a' := ?_) rfl (by rfl) ?_ ?_
          rotate_left
          · simp only [Act.put, List.setIfInBounds_toArray, List.set_cons_zero, List.set_cons_succ, i64_w, i32_w]
            rfl
          refine Q.q_off (N := some 83) (a' := ?_) rfl (by rfl) ?_ ?_
          rotate_left
          · simp only [Act.put, List.setIfInBounds_toArray, List.set_cons_zero, List.set_cons_succ, i64_w, i32_w]
            rfl
          refine Q.q_off (N := some 84) (a' := ?_) rfl (by rfl) ?_ ?_
          rotate_left
          · simp only [Act.put, List.setIfInBounds_toArray, List.set_cons_zero, List.set_cons_succ, i64_w, i32_w]
            rfl
          refine Q.q_off (N := some 85) (a' := ?_) rfl (by rfl) ?_ ?_
          rotate_left
          · simp only [Act.put, List.setIfInBounds_toArray, List.set_cons_zero, List.set_cons_succ, i64_w, i32_w]
            rfl
          refine Q.q_value (N := some 86) (v := ?_) (a' := ?_) rfl (by rfl) ?_ ?_ ?_
          rotate_left
          · intro w' hb
            clear hb
            go_simp
            with_reducible rfl
          rotate_left
          · simp only [Act.put, List.setIfInBounds_toArray, List.set_cons_zero, List.set_cons_succ, i64_w, i32_w]
            rfl
          refine Q.q_value (N := some 87) (v := ?_) (a' := ?_) rfl (by rfl) ?_ ?_ ?_
          rotate_left
          · intro w' hb
            clear hb
            go_simp
            with_reducible rfl
          rotate_left
          · simp only [Act.put, List.setIfInBounds_toArray, List.set_cons_zero, List.set_cons_succ, i64_w, i32_w]
            rfl
          refine Q.q_value (N := some 6) (v := ?_) (a' := ?_) rfl (by rfl) ?_ ?_ ?_
          rotate_left
          · intro w' hb
            clear hb
            go_simp
            with_reducible rfl
          rotate_left
          · simp only [Act.put, List.setIfInBounds_toArray, List.set_cons_zero, List.set_cons_succ, i64_w, i32_w]
            rfl
          refine wpQuiet_nil ?_
          intro w9 HB9
          have HB := Aside0.mk (below_step HB.out HB9)
          clear HB9
          go_wp2_with fail
          go_ret
          exact ⟨rfl, HB.out⟩
      · skip
        clear hex
        have t1 : decide (-100 ≤ drift) = false := by simp; omega
        have t2 : decide (drift ≤ 100) = true := by simp; omega
        have d0 := BD.out.c0
        have d1 := BD.out.c1
        have d2 := BD.out.c2
        have d3 := BD.out.c3
        have d4 := BD.out.c4
        have BE := Aside0.mk (Cb.made wr T R false 0 0)
        have hle3 : w.heap.size ≤ wr.heap.size := HB.out.size
        have BC := Aside0.mk (BC.out.below (below_alloc (Below.refl _ _) (.cells (cells5 T R false 0 0) 25)))
        have BD := Aside0.mk (BD.out.below (below_alloc (Below.refl _ _) (.cells (cells5 T R false 0 0) 25)))
        have hce : c < wr.heap.size := by have h := BC0.out.lt; exact h
        have hde : d < wr.heap.size := by have h := BD0.out.lt; exact h
        have HB := Aside0.mk (below_alloc HB.out (.cells (cells5 T R false 0 0) 25))
        have q0 := BC.out.c0
        have q1 := BC.out.c1
        have q2 := BC.out.c2
        have q3 := BC.out.c3
        have q4 := BC.out.c4
        go_wp2_with fail
        generalize wr.alloc (.cells (cells5 T R false 0 0) 25) = W0 at *
        generalize wr.heap.size = eb at *
        with_reducible refine (step_calls (s + (k : Int) * 20000) 0 0 0 100 false _ (by omega) (by omega) (by omega)).mono ?_
        rw [show gainQ 0 100 = 2 by decide, show gainR 0 100 = 0 by decide, show stepS false 0 = 0 from rfl]
        rintro e w5 ⟨rfl, HB'⟩
        obtain ⟨top, htop⟩ : ∃ x, s + (k : Int) * 20000 + 20000 + 2 = x := ⟨_, rfl⟩
        rw [htop]
        have Htop := Aside0.mk htop
        clear htop
        have BC := Aside0.mk (BC.out.below HB')
        have BD := Aside0.mk (BD.out.below HB')
        have BE := Aside0.mk (BE.out.below HB')
        have HB := Aside0.mk (below_step HB.out HB')
        clear HB' q0 q1 q2 q3 q4
        have BC := Aside0.mk (BC.out.below (below_alloc (Below.refl _ _) (.cells (cells5 top 0 false 0 0) 25)))
        have BD := Aside0.mk (BD.out.below (below_alloc (Below.refl _ _) (.cells (cells5 top 0 false 0 0) 25)))
        have BE := Aside0.mk (BE.out.below (below_alloc (Below.refl _ _) (.cells (cells5 top 0 false 0 0) 25)))
        have HB := Aside0.mk (below_alloc HB.out (.cells (cells5 top 0 false 0 0) 25))
        have BT := Aside0.mk (Cb.made w5 top 0 false 0 0)
        have q0 := BC.out.c0
        have q1 := BC.out.c1
        have q2 := BC.out.c2
        have q3 := BC.out.c3
        have q4 := BC.out.c4
        go_wp2_with fail
        generalize w5.alloc (.cells (cells5 top 0 false 0 0) 25) = Wtop at *
        generalize w5.heap.size = btop at *
        with_reducible refine (step_calls (s + (k : Int) * 20000) 0 0 0 (-100) false _ (by omega) (by omega) (by omega)).mono ?_
        rw [show gainQ 0 (-100) = -2 by decide, show gainR 0 (-100) = 0 by decide, show stepS false 0 = 0 from rfl]
        rintro e w6 ⟨rfl, HB'⟩
        obtain ⟨low, hlow⟩ : ∃ x, s + (k : Int) * 20000 + 20000 + -2 = x := ⟨_, rfl⟩
        rw [hlow]
        have Hlow := Aside0.mk hlow
        clear hlow
        have BC := Aside0.mk (BC.out.below HB')
        have BD := Aside0.mk (BD.out.below HB')
        have BE := Aside0.mk (BE.out.below HB')
        have BT := Aside0.mk (BT.out.below HB')
        have HB := Aside0.mk (below_step HB.out HB')
        clear HB' q0 q1 q2 q3 q4
        have BC := Aside0.mk (BC.out.below (below_alloc (Below.refl _ _) (.cells (cells5 low 0 false 0 0) 25)))
        have BD := Aside0.mk (BD.out.below (below_alloc (Below.refl _ _) (.cells (cells5 low 0 false 0 0) 25)))
        have BE := Aside0.mk (BE.out.below (below_alloc (Below.refl _ _) (.cells (cells5 low 0 false 0 0) 25)))
        have BT := Aside0.mk (BT.out.below (below_alloc (Below.refl _ _) (.cells (cells5 low 0 false 0 0) 25)))
        have HB := Aside0.mk (below_alloc HB.out (.cells (cells5 low 0 false 0 0) 25))
        have BL := Aside0.mk (Cb.made w6 low 0 false 0 0)
        go_wp2_with fail
        generalize w6.alloc (.cells (cells5 low 0 false 0 0) 25) = Wlow at *
        generalize w6.heap.size = blow at *
        have q0 := BC.out.c0
        have q1 := BC.out.c1
        have q2 := BC.out.c2
        have q3 := BC.out.c3
        have q4 := BC.out.c4
        have e0 := BE.out.c0
        have e1 := BE.out.c1
        have e2 := BE.out.c2
        have e3 := BE.out.c3
        have e4 := BE.out.c4
        have x0 := BD.out.c0
        have x1 := BD.out.c1
        have x2 := BD.out.c2
        have x3 := BD.out.c3
        have x4 := BD.out.c4
        have y0 := BT.out.c0
        have y1 := BT.out.c1
        have y2 := BT.out.c2
        have y3 := BT.out.c3
        have y4 := BT.out.c4
        have z0 := BL.out.c0
        have z1 := BL.out.c1
        have z2 := BL.out.c2
        have z3 := BL.out.c3
        have z4 := BL.out.c4
        have hcl : cl drift = (-100) := by
          unfold cl
          repeat' split
          all_goals omega
        have HS : Aside0 (∀ w', Below Wlow.heap.size Wlow w' → Calls Try.prog 11 #[ck (s + (k : Int) * 20000) 0 false 0 0, .int .i64 drift] w' fun e' w'' => e' = .returned (ck low 0 false 0 0) ∧ Below Wlow.heap.size Wlow w'') := ⟨by
          rw [← Hlow.out]
          have hgq : gainQ 0 drift = -2 := by unfold gainQ; rw [hcl]; decide
          have hgr : gainR 0 drift = 0 := by unfold gainR; rw [hcl]; decide
          have := Q.q_below (P := Try.prog) (w := Wlow) fun w' => step_calls (s + (k : Int) * 20000) 0 0 0 drift false w' (by omega) (by omega) (by omega)
          rw [hgq, hgr, show stepS false 0 = 0 from rfl] at this
          exact this⟩
        clear hcl
        have hv1 : wrap64 ((k : Int) * 20000) = (k : Int) * 20000 := w64 (by omega) (by omega)
        have hv2 : wrap64 (s + (k : Int) * 20000) = s + (k : Int) * 20000 := w64 (by omega) (by omega)
        refine Q.q_start (by kernel_rfl) (by kernel_rfl) ?_
        refine Q.q_value (N := some 54) (v := ?_) (a' := ?_) rfl (by rfl) ?_ ?_ ?_
        rotate_left
        · intro w' hb
          have s0 := pw_cell_below hb q0
          have s1 := pw_cell_below hb q1
          have s2 := pw_cell_below hb q2
          have s3 := pw_cell_below hb q3
          have s4 := pw_cell_below hb q4
          clear hb
          go_simp
          with_reducible rfl
        rotate_left
        · simp only [Act.put, List.setIfInBounds_toArray, List.set_cons_zero, List.set_cons_succ, i64_w, i32_w]
          rfl
        refine Q.q_value (N := some 55) (v := ?_) (a' := ?_) rfl (by rfl) ?_ ?_ ?_
        rotate_left
        · intro w' hb
          clear hb
          go_simp
          with_reducible rfl
        rotate_left
        · simp only [Act.put, List.setIfInBounds_toArray, List.set_cons_zero, List.set_cons_succ, i64_w, i32_w]
          rfl
        refine Q.q_value (N := some 56) (v := ?_) (a' := ?_) rfl (by rfl) ?_ ?_ ?_
        rotate_left
        · intro w' hb
          clear hb
          go_simp
          with_reducible rfl
        rotate_left
        · simp only [Act.put, List.setIfInBounds_toArray, List.set_cons_zero, List.set_cons_succ, i64_w, i32_w]
          rfl
        refine Q.q_value (N := some 57) (v := ?_) (a' := ?_) rfl (by rfl) ?_ ?_ ?_
        rotate_left
        · intro w' hb
          clear hb
          go_simp
          with_reducible rfl
        rotate_left
        · simp only [Act.put, List.setIfInBounds_toArray, List.set_cons_zero, List.set_cons_succ, i64_w, i32_w]
          rfl
        refine Q.q_value (N := some 58) (v := ?_) (a' := ?_) rfl (by rfl) ?_ ?_ ?_
        rotate_left
        · intro w' hb
          clear hb
          go_simp
          with_reducible rfl
        rotate_left
        · simp only [Act.put, List.setIfInBounds_toArray, List.set_cons_zero, List.set_cons_succ, i64_w, i32_w]
          rfl
        refine Q.q_value (N := some 59) (v := ?_) (a' := ?_) rfl (by rfl) ?_ ?_ ?_
        rotate_left
        · intro w' hb
          clear hb
          go_simp
          with_reducible rfl
        rotate_left
        · simp only [Act.put, List.setIfInBounds_toArray, List.set_cons_zero, List.set_cons_succ, i64_w, i32_w]
          rfl
        refine Q.q_value (N := some 60) (v := ?_) (a' := ?_) rfl (by rfl) ?_ ?_ ?_
        rotate_left
        · intro w' hb
          clear hb
          go_simp
          with_reducible rfl
        rotate_left
        · simp only [Act.put, List.setIfInBounds_toArray, List.set_cons_zero, List.set_cons_succ, i64_w, i32_w]
          rfl
        refine Q.q_value (N := some 61) (v := ?_) (a' := ?_) rfl (by rfl) ?_ ?_ ?_
        rotate_left
        · intro w' hb
          clear hb
          go_simp
          with_reducible rfl
        rotate_left
        · simp only [Act.put, List.setIfInBounds_toArray, List.set_cons_zero, List.set_cons_succ, i64_w, i32_w]
          rfl
        refine Q.q_value (N := some 62) (v := ?_) (a' := ?_) rfl (by rfl) ?_ ?_ ?_
        rotate_left
        · intro w' hb
          have s0 := pw_cell_below hb e0
          have s1 := pw_cell_below hb e1
          have s2 := pw_cell_below hb e2
          have s3 := pw_cell_below hb e3
          have s4 := pw_cell_below hb e4
          clear hb
          go_simp
          with_reducible rfl
        rotate_left
        · simp only [Act.put, List.setIfInBounds_toArray, List.set_cons_zero, List.set_cons_succ, i64_w, i32_w]
          rfl
        refine Q.q_value (N := some 63) (v := ?_) (a' := ?_) rfl (by rfl) ?_ ?_ ?_
        rotate_left
        · intro w' hb
          have s0 := pw_cell_below hb x0
          have s1 := pw_cell_below hb x1
          have s2 := pw_cell_below hb x2
          have s3 := pw_cell_below hb x3
          have s4 := pw_cell_below hb x4
          clear hb
          go_simp
          with_reducible rfl
        rotate_left
        · simp only [Act.put, List.setIfInBounds_toArray, List.set_cons_zero, List.set_cons_succ, i64_w, i32_w]
          rfl
        refine Q.q_value (N := some 64) (v := ?_) (a' := ?_) rfl (by rfl) ?_ ?_ ?_
        rotate_left
        · intro w' hb
          clear hb
          go_simp
          with_reducible rfl
        rotate_left
        · simp only [Act.put, List.setIfInBounds_toArray, List.set_cons_zero, List.set_cons_succ, i64_w, i32_w]
          rfl
        refine Q.q_value (N := some 65) (v := ?_) (a' := ?_) rfl (by rfl) ?_ ?_ ?_
        rotate_left
        · intro w' hb
          clear hb
          go_simp
          with_reducible rfl
        rotate_left
        · simp only [Act.put, List.setIfInBounds_toArray, List.set_cons_zero, List.set_cons_succ, i64_w, i32_w]
          rfl
        refine Q.q_value (N := some 66) (v := ?_) (a' := ?_) rfl (by rfl) ?_ ?_ ?_
        rotate_left
        · intro w' hb
          clear hb
          go_simp
          with_reducible rfl
        rotate_left
        · simp only [Act.put, List.setIfInBounds_toArray, List.set_cons_zero, List.set_cons_succ, i64_w, i32_w]
          rfl
        refine Q.q_value (N := some 67) (v := ?_) (a' := ?_) rfl (by rfl) ?_ ?_ ?_
        rotate_left
        · intro w' hb
          clear hb
          go_simp
          with_reducible rfl
        rotate_left
        · simp only [Act.put, List.setIfInBounds_toArray, List.set_cons_zero, List.set_cons_succ, i64_w, i32_w]
          rfl
        refine Q.q_value (N := some 68) (v := ?_) (a' := ?_) rfl (by rfl) ?_ ?_ ?_
        rotate_left
        · intro w' hb
          clear hb
          go_simp
          with_reducible rfl
        rotate_left
        · simp only [Act.put, List.setIfInBounds_toArray, List.set_cons_zero, List.set_cons_succ, i64_w, i32_w]
          rfl
        refine Q.q_value (N := some 69) (v := ?_) (a' := ?_) rfl (by rfl) ?_ ?_ ?_
        rotate_left
        · intro w' hb
          clear hb
          go_simp
          with_reducible rfl
        rotate_left
        · simp only [Act.put, List.setIfInBounds_toArray, List.set_cons_zero, List.set_cons_succ, i64_w, i32_w]
          rfl
        refine Q.q_off (N := some 70) (a' := ?_) rfl (by rfl) ?_ ?_
        rotate_left
        · simp only [Act.put, List.setIfInBounds_toArray, List.set_cons_zero, List.set_cons_succ, i64_w, i32_w]
          rfl
        refine Q.q_off (N := some 71) (a' := ?_) rfl (by rfl) ?_ ?_
        rotate_left
        · simp only [Act.put, List.setIfInBounds_toArray, List.set_cons_zero, List.set_cons_succ, i64_w, i32_w]
          rfl
        refine Q.q_off (N := some 72) (a' := ?_) rfl (by rfl) ?_ ?_
        rotate_left
        · simp only [Act.put, List.setIfInBounds_toArray, List.set_cons_zero, List.set_cons_succ, i64_w, i32_w]
          rfl
        refine Q.q_off (N := some 73) (a' := ?_) rfl (by rfl) ?_ ?_
        rotate_left
        · simp only [Act.put, List.setIfInBounds_toArray, List.set_cons_zero, List.set_cons_succ, i64_w, i32_w]
          rfl
        refine Q.q_off (N := some 74) (a' := ?_) rfl (by rfl) ?_ ?_
        rotate_left
        · simp only [Act.put, List.setIfInBounds_toArray, List.set_cons_zero, List.set_cons_succ, i64_w, i32_w]
          rfl
        refine Q.q_value (N := some 75) (v := ?_) (a' := ?_) rfl (by rfl) ?_ ?_ ?_
        rotate_left
        · intro w' hb
          clear hb
          go_simp
          with_reducible rfl
        rotate_left
        · simp only [Act.put, List.setIfInBounds_toArray, List.set_cons_zero, List.set_cons_succ, i64_w, i32_w]
          rfl
        refine Q.q_value (N := some 76) (v := ?_) (a' := ?_) rfl (by rfl) ?_ ?_ ?_
        rotate_left
        · intro w' hb
          clear hb
          go_simp
          with_reducible rfl
        rotate_left
        · simp only [Act.put, List.setIfInBounds_toArray, List.set_cons_zero, List.set_cons_succ, i64_w, i32_w]
          rfl
        refine Q.q_value (N := some 77) (v := ?_) (a' := ?_) rfl (by rfl) ?_ ?_ ?_
        rotate_left
        · intro w' hb
          clear hb
          go_simp
          with_reducible rfl
        rotate_left
        · simp only [Act.put, List.setIfInBounds_toArray, List.set_cons_zero, List.set_cons_succ, i64_w, i32_w]
          rfl
        refine Q.q_value (N := some 78) (v := ?_) (a' := ?_) rfl (by rfl) ?_ ?_ ?_
        rotate_left
        · intro w' hb
          clear hb
          go_simp
          with_reducible rfl
        rotate_left
        · simp only [Act.put, List.setIfInBounds_toArray, List.set_cons_zero, List.set_cons_succ, i64_w, i32_w]
          rfl
        refine Q.q_value (N := some 79) (v := ?_) (a' := ?_) rfl (by rfl) ?_ ?_ ?_
        rotate_left
        · intro w' hb
          clear hb
          go_simp
          with_reducible rfl
        rotate_left
        · simp only [Act.put, List.setIfInBounds_toArray, List.set_cons_zero, List.set_cons_succ, i64_w, i32_w]
          rfl
        refine Q.q_value (N := some 80) (v := ?_) (a' := ?_) rfl (by rfl) ?_ ?_ ?_
        rotate_left
        · intro w' hb
          clear hb
          go_simp
          with_reducible rfl
        rotate_left
        · simp only [Act.put, List.setIfInBounds_toArray, List.set_cons_zero, List.set_cons_succ, i64_w, i32_w]
          rfl
        refine Q.q_value (N := some 81) (v := ?_) (a' := ?_) rfl (by rfl) ?_ ?_ ?_
        rotate_left
        · intro w' hb
          have s0 := pw_cell_below hb q0
          have s1 := pw_cell_below hb q1
          have s2 := pw_cell_below hb q2
          have s3 := pw_cell_below hb q3
          have s4 := pw_cell_below hb q4
          clear hb
          go_simp
          with_reducible rfl
        rotate_left
        · simp only [Act.put, List.setIfInBounds_toArray, List.set_cons_zero, List.set_cons_succ, i64_w, i32_w]
          rfl
        refine Q.q_value (N := some 82) (v := ?_) (a' := ?_) rfl (by rfl) ?_ ?_ ?_
        rotate_left
        · intro w' hb
          clear hb
          go_simp
          with_reducible rfl
        rotate_left
        · simp only [Act.put, List.setIfInBounds_toArray, List.set_cons_zero, List.set_cons_succ, i64_w, i32_w]
          rfl
        refine Q.q_call (N := some 83) (v := ck low 0 false 0 0) (a' := ?_) 11 #[ck (s + (k : Int) * 20000) 0 false 0 0, .int .i64 drift] rfl (by rfl) Try.func11 (by kernel_rfl) rfl (by rfl) (by first | rfl | (simp only [List.map_toArray, List.map_cons, List.map_nil]; rfl)) (HS.out) ?_ ?_
        rotate_left
        · simp only [Act.put, List.setIfInBounds_toArray, List.set_cons_zero, List.set_cons_succ, i64_w, i32_w]
          rfl
        refine Q.q_value (N := some 84) (v := ?_) (a' := ?_) rfl (by rfl) ?_ ?_ ?_
        rotate_left
        · intro w' hb
          have s0 := pw_cell_below hb z0
          have s1 := pw_cell_below hb z1
          have s2 := pw_cell_below hb z2
          have s3 := pw_cell_below hb z3
          have s4 := pw_cell_below hb z4
          clear hb
          go_simp
          with_reducible rfl
        rotate_left
        · simp only [Act.put, List.setIfInBounds_toArray, List.set_cons_zero, List.set_cons_succ, i64_w, i32_w]
          rfl
        refine Q.q_value (N := some 85) (v := ?_) (a' := ?_) rfl (by rfl) ?_ ?_ ?_
        rotate_left
        · intro w' hb
          clear hb
          go_simp
          with_reducible rfl
        rotate_left
        · simp only [Act.put, List.setIfInBounds_toArray, List.set_cons_zero, List.set_cons_succ, i64_w, i32_w]
          rfl
        refine Q.q_value (N := some 86) (v := ?_) (a' := ?_) rfl (by rfl) ?_ ?_ ?_
        rotate_left
        · intro w' hb
          clear hb
          go_simp
          with_reducible rfl
        rotate_left
        · simp only [Act.put, List.setIfInBounds_toArray, List.set_cons_zero, List.set_cons_succ, i64_w, i32_w]
          rfl
        refine Q.q_value (N := some 87) (v := ?_) (a' := ?_) rfl (by rfl) ?_ ?_ ?_
        rotate_left
        · intro w' hb
          clear hb
          go_simp
          with_reducible rfl
        rotate_left
        · simp only [Act.put, List.setIfInBounds_toArray, List.set_cons_zero, List.set_cons_succ, i64_w, i32_w]
          rfl
        refine Q.q_value (N := some 6) (v := ?_) (a' := ?_) rfl (by rfl) ?_ ?_ ?_
        rotate_left
        · intro w' hb
          clear hb
          go_simp
          with_reducible rfl
        rotate_left
        · simp only [Act.put, List.setIfInBounds_toArray, List.set_cons_zero, List.set_cons_succ, i64_w, i32_w]
          rfl
        refine wpQuiet_nil ?_
        intro w9 HB9
        have HB := Aside0.mk (below_step HB.out HB9)
        clear HB9
        go_wp2_with fail
        go_ret
        exact ⟨rfl, HB.out⟩
end Go.Proofs.Ytpnkeealojgpcaa.A
