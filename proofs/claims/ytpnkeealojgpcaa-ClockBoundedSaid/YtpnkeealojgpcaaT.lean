import Derived.Test.YtpnkeealojgpcaaC
import Derived.Test.YtpnkeealojgpcaaGF
import Derived.Deep.Slices
/- The walk of ClockBounded; no condition. -/
namespace Go.Proofs.Ytpnkeealojgpcaa.A
open Go.RowKit Go.Proofs.YtpnkeealojgpcaaW.PrintWords Go.Proofs.YtpnkeealojgpcaaW.PrintLast Go.Proofs.YtpnkeealojgpcaaW.PrintMore
open Go.Proofs.Ytpnkeealojgpcaa
attribute [local go_sem] max2_int min2_int max_two min_two max_three min_three max_four min_four
set_option linter.unusedVariables false
set_option linter.unusedSimpArgs false

theorem add_at (x : Addr) (i j : Nat) : x.add (i + (j + 1)) = ⟨(x.add i).block, (x.add i).off + (j + 1), none⟩ := by
  rw [← Go.Deep.add_add]
  generalize x.add i = y
  unfold Addr.add
  rw [if_neg (by omega)]
/-- What is known of a clock whose true time is N, behind k steps. -/
structure Fit (N : Int) (k : Nat) (T R : Int) (K : Bool) (E S : Int) : Prop where
  rest : 0 ≤ R ∧ R ≤ 999999
  err : 0 ≤ E ∧ E ≤ 100
  steps : 0 ≤ S ∧ S ≤ (k : Int)
  free : K = false → -77 - 2 * (k : Int) ≤ T - N ∧ T - N ≤ 77 + 2 * (k : Int)
  bound : K = true → -1000000 * E - 2000000 * S ≤ 1000000 * (T - N) + R ∧ 1000000 * (T - N) + R ≤ 1000000 * E + 2000000 * S
theorem Fit.near {N : Int} {k : Nat} {T R : Int} {K : Bool} {E S : Int} (h : Fit N k T R K E S) : -100 - 77 - 2 * (k : Int) ≤ T - N ∧ T - N ≤ 100 + 77 + 2 * (k : Int) := by
  have := h.rest
  have := h.err
  have := h.steps
  cases K with
  | false => have := h.free rfl; omega
  | true => have := h.bound rfl; omega
theorem Fit.step {N : Int} {k : Nat} {T R : Int} {K : Bool} {E S : Int} (h : Fit N k T R K E S) (d : Int) : Fit (N + 20000) (k + 1) (T + 20000 + gainQ R d) (gainR R d) K E (stepS K S) := by
  obtain ⟨g1, g2, g3, g4, g5⟩ := gain_bd R d h.rest
  have hc := cl_bd d
  have h1 := h.rest
  have h2 := h.err
  have h3 := h.steps
  refine ⟨⟨g3, g4⟩, h2, ?_, fun hK => ?_, fun hK => ?_⟩
  · unfold stepS; split <;> omega
  · have := h.free hK; omega
  · have := h.bound hK
    subst hK
    rw [show stepS true S = S + 1 from rfl]
    omega
theorem Fit.synced {N : Int} {k : Nat} {T A : Int} (h1 : 0 ≤ A ∧ A ≤ 100) (h2 : -A ≤ T - N ∧ T - N ≤ A) : Fit N k T 0 true A 0 :=
  ⟨by omega, by omega, by omega, (fun h => by cases h), fun _ => by omega⟩
theorem Fit.ok {N : Int} {k : Nat} {T R : Int} {K : Bool} {E S : Int} (h : Fit N k T R K E S) (hK : K = true) : T - N ≤ E + 2 * S + 1 ∧ N - T ≤ E + 2 * S + 1 := by
  have := h.rest
  have := h.bound hK
  omega

set_option maxRecDepth 100000 in
set_option maxHeartbeats 3000000 in
theorem ClockBounded_walk (start : Int) (a : Option Addr) (len cap : Nat) (w : World) (w1 : (a = none ∧ len = 0 ∧ cap = 0) ∨ ∃ x, a = some x ∧ len ≤ cap ∧ cap ≤ maxLen ∧ ∀ i, i < len → ∃ (u0 : Int) (u1 : Int) (u2 : Bool), w.cell? (x.add (i * 3 + 0)) = some (.int .i64 u0) ∧ w.cell? (x.add (i * 3 + 1)) = some (.int .i64 u1) ∧ w.cell? (x.add (i * 3 + 2)) = some (.bool u2) ∧ (Lit.int .i64 u0).wf = true ∧ (Lit.int .i64 u1).wf = true) :
    Calls Try.prog 5 #[.int .i64 start, .slice a len cap] w fun e' w' => e' = .returned (.bool true) ∧ Below w.heap.size w w' := by
  have hs0 := Int.lt_tmod_of_pos start (show (0 : Int) < 1099511627776 by omega)
  have hs1 := Int.tmod_lt_of_pos start (show (0 : Int) < 1099511627776 by omega)
  have hmax : len ≤ 9223372036854775807 := by
    rcases w1 with ⟨_, h, _⟩ | ⟨_, _, h, h2, _⟩
    · omega
    · unfold maxLen at h2; omega
  have W1 := Aside0.mk w1
  clear w1
  go_enter Try.func5, Try.ntmps5
  go_wp2_with fail
  refine (known_calls _).mono ?_
  rintro e' wa ⟨rfl, HB⟩
  have HB := Aside0.mk HB
  go_wp2_with fail
  generalize start.tmod 1099511627776 = s at *
  with_reducible refine (new_calls (s + 77) _).mono ?_
  rintro e wb ⟨rfl, HB'⟩
  have HB := Aside0.mk (below_step HB.out HB')
  clear HB'
  have BC := Aside0.mk (Cb.made wb (s + 77) 0 false 0 0)
  have hle : w.heap.size ≤ wb.heap.size := HB.out.size
  have HB := Aside0.mk (below_alloc HB.out (.cells (cells5 (s + 77) 0 false 0 0) 25))
  go_wp2_with fail
  generalize wb.alloc (.cells (cells5 (s + 77) 0 false 0 0) 25) = W at *
  generalize wb.heap.size = c at *
  go_loopw [5, 7] (fun nw i wr => ∃ k : Nat, k ≤ len ∧ k ≤ 300 ∧ i = .int .i64 k ∧ nw = .int .i64 (s + 20000 * (k : Int)) ∧ ∃ T R kn E S, Fit (s + 20000 * (k : Int)) k T R kn E S ∧ Aside0 (Cb wr c T R kn E S) ∧ Aside0 (Below w.heap.size w wr))
    (fun _ i _ => 301 - (intOf i).toNat)
  case atStart => exact ⟨0, by omega, by omega, rfl, by simp, s + 77, 0, false, 0, 0, ⟨by omega, by omega, by omega, fun _ => by omega, fun h => by cases h⟩, BC, HB⟩
  case round =>
    clear BC HB
    obtain ⟨k, hk, hk3, rfl, rfl, T, R, kn, E, S, hfit, BC, HB⟩ := hrel
    have hnear := hfit.near
    have hrest := hfit.rest
    have herr := hfit.err
    have hsteps := hfit.steps
    by_cases hlen : k < len
    · by_cases h3 : k < 300
      · have t0 : decide ((k : Int) < (len : Int)) = true := by simp; omega
        have t1 : decide ((k : Int) < 300) = true := by simp; omega
        obtain ⟨x, rfl, _, _, hrow⟩ := W1.out.resolve_left (by omega)
        obtain ⟨u0, u1, u2, c0, c1, c2, _, hu1⟩ := hrow k hlen
        have hu1 : -9223372036854775808 ≤ u1 ∧ u1 ≤ 9223372036854775807 := by simpa [Lit.wf, IntKind.min, IntKind.max, IntKind.signed, IntKind.bits] using hu1
        clear hrow
        rw [add_at x (k * 3) 0] at c1
        rw [add_at x (k * 3) 1] at c2
        have e0 : wr.cell? (x.add (k * 3)) = some (.int .i64 u0) := by have h := pw_cell_below HB.out c0; simpa using h
        have q0 := BC.out.c0
        have q1 := BC.out.c1
        have q2 := BC.out.c2
        have q3 := BC.out.c3
        have q4 := BC.out.c4
        go_wp2_with fail
        have HSTEP : Aside0 (∀ w', Calls Try.prog 11 #[ck T R kn E S, .int .i64 u0] w' fun e' w'' => e' = .returned (ck (T + 20000 + gainQ R u0) (gainR R u0) kn E (stepS kn S)) ∧ Below w'.heap.size w' w'') := ⟨fun w' => step_calls T R E S u0 kn w' (by omega) hrest (by omega)⟩
        refine G.plain (m := 7) (n := 8) (t := 1) [some 30, some 31, some 32, some 33, some 34, some 35, some 36, none] [G.Is ?fg107_0, G.Is ?fg107_1, G.Is ?fg107_2, G.Is ?fg107_3, G.Is ?fg107_4, G.Is ?fg107_5, G.Is (ck (T + 20000 + gainQ R u0) (gainR R u0) kn E (stepS kn S))] [] (by kernel_rfl) (by kernel_rfl) (by kernel_rfl) (by kernel_rfl) (by rfl) (G.allB_succ (G.allB_succ (G.allB_succ (G.allB_succ (G.allB_succ (G.allB_succ (G.allB_succ G.allB_zero ?cg107_0) ?cg107_1) ?cg107_2) ?cg107_3) ?cg107_4) ?cg107_5) ?cg107_6) ?hsg107_ ?hlg107_ ?hTg107_
        case cg107_0 =>
          refine G.core_obl (o := _) (N := some 30) rfl rfl ?_
          intro x a' ha w' hB hF K hK
          simp only [G.putAll, Act.put, List.setIfInBounds_toArray, List.set_cons_zero, List.set_cons_succ, Nat.reduceAdd] at ha
          subst ha
          have t0 := pw_cell_below hB q0
          have t1 := pw_cell_below hB q1
          have t2 := pw_cell_below hB q2
          have t3 := pw_cell_below hB q3
          have t4 := pw_cell_below hB q4
          refine value_ (w1 := ?_) (v := ?_) (by rfl) rfl ?_ ?_
          rotate_left 2
          · go_simp
            constructor
            · rfl
            · rfl
          refine hK.out _ _ (Below.refl _ _) ?_ (fun h => absurd h (by decide))
          change _ = _
          with_reducible rfl
        case cg107_1 =>
          refine G.core_obl (o := _) (N := some 31) rfl rfl ?_
          intro x a' ha w' hB hF K hK
          simp only [G.putAll, Act.put, List.setIfInBounds_toArray, List.set_cons_zero, List.set_cons_succ, Nat.reduceAdd] at ha
          subst ha
          refine value_ (w1 := ?_) (v := ?_) (by rfl) rfl ?_ ?_
          rotate_left 2
          · go_simp
            constructor
            · rfl
            · rfl
          refine hK.out _ _ (Below.refl _ _) ?_ (fun h => absurd h (by decide))
          change _ = _
          with_reducible rfl
        case cg107_2 =>
          refine G.core_obl (o := _) (N := some 32) rfl rfl ?_
          intro x a' ha w' hB hF K hK
          simp only [G.putAll, Act.put, List.setIfInBounds_toArray, List.set_cons_zero, List.set_cons_succ, Nat.reduceAdd] at ha
          subst ha
          refine value_ (w1 := ?_) (v := ?_) (by rfl) rfl ?_ ?_
          rotate_left 2
          · go_simp
            constructor
            · rfl
            · rfl
          refine hK.out _ _ (Below.refl _ _) ?_ (fun h => absurd h (by decide))
          change _ = _
          with_reducible rfl
        case cg107_3 =>
          refine G.core_obl (o := _) (N := some 33) rfl rfl ?_
          intro x a' ha w' hB hF K hK
          have s1 : x 1 = _ := hF 1 (by kernel_rfl)
          have s2 : x 2 = _ := hF 2 (by kernel_rfl)
          simp only [G.putAll, Act.put, List.setIfInBounds_toArray, List.set_cons_zero, List.set_cons_succ, Nat.reduceAdd, s1, s2] at ha
          subst ha
          refine value_ (w1 := ?_) (v := ?_) (by rfl) rfl ?_ ?_
          rotate_left 2
          · go_simp
            constructor
            · rfl
            · rfl
          refine hK.out _ _ (Below.refl _ _) ?_ (fun h => absurd h (by decide))
          change _ = _
          with_reducible rfl
        case cg107_4 =>
          refine G.core_obl (o := _) (N := some 34) rfl rfl ?_
          intro x a' ha w' hB hF K hK
          have s3 : x 3 = _ := hF 3 (by kernel_rfl)
          simp only [G.putAll, Act.put, List.setIfInBounds_toArray, List.set_cons_zero, List.set_cons_succ, Nat.reduceAdd, s3] at ha
          subst ha
          refine value_ (w1 := ?_) (v := ?_) (by rfl) rfl ?_ ?_
          rotate_left 2
          · go_simp
            constructor
            · rfl
            · rfl
          refine hK.out _ _ (Below.refl _ _) ?_ (fun h => absurd h (by decide))
          change _ = _
          with_reducible rfl
        case cg107_5 =>
          refine G.core_obl (o := _) (N := some 35) rfl rfl ?_
          intro x a' ha w' hB hF K hK
          have s4 : x 4 = _ := hF 4 (by kernel_rfl)
          simp only [G.putAll, Act.put, List.setIfInBounds_toArray, List.set_cons_zero, List.set_cons_succ, Nat.reduceAdd, s4] at ha
          subst ha
          have t0 := pw_cell_below hB e0
          refine value_ (w1 := ?_) (v := ?_) (by rfl) rfl ?_ ?_
          rotate_left 2
          · go_simp
            constructor
            · rfl
            · rfl
          refine hK.out _ _ (Below.refl _ _) ?_ (fun h => absurd h (by decide))
          change _ = _
          with_reducible rfl
        case cg107_6 =>
          refine G.core_obl (o := _) (N := some 36) rfl rfl ?_
          intro x a' ha w' hB hF K hK
          have s0 : x 0 = _ := hF 0 (by kernel_rfl)
          have s5 : x 5 = _ := hF 5 (by kernel_rfl)
          simp only [G.putAll, Act.put, List.setIfInBounds_toArray, List.set_cons_zero, List.set_cons_succ, Nat.reduceAdd, s0, s5] at ha
          subst ha
          refine goes_ Try.func11 (by kernel_rfl) rfl #[ck T R kn E S, .int .i64 u0] (by rfl) rfl rfl (by first | rfl | (simp only [List.map_toArray, List.map_cons, List.map_nil]; rfl)) ?_
          with_reducible refine (HSTEP.out _).mono ?_
          rintro e w3 ⟨rfl, HB'⟩
          refine ⟨_, rfl, ?_⟩
          exact hK.out _ _ HB' rfl (fun h => absurd h (by decide))
        case hsg107_ => exact ⟨G.stays_eq _, G.stays_eq _, G.stays_eq _, G.stays_eq _, G.stays_eq _, G.stays_eq _, G.stays_eq _, trivial⟩
        case hlg107_ => exact trivial
        intro x w' hB hF hD
        have s0 : x 0 = _ := hF 0 (by omega)
        have s1 : x 1 = _ := hF 1 (by omega)
        have s2 : x 2 = _ := hF 2 (by omega)
        have s3 : x 3 = _ := hF 3 (by omega)
        have s4 : x 4 = _ := hF 4 (by omega)
        have s5 : x 5 = _ := hF 5 (by omega)
        have s6 : x 6 = _ := hF 6 (by omega)
        clear hF hD
        have BC := Aside0.mk (BC.out.below hB)
        have HB := Aside0.mk (below_step HB.out hB)
        have e0 := pw_cell_below hB e0
        clear hB q0 q1 q2 q3 q4
        refine G.tail_succ (i := 7) (o := _) (N := none) (by rfl) rfl rfl ?_
        intro a' ha K hK
        simp (decide := true) only [G.putAll, Act.put, List.setIfInBounds_toArray, List.set_cons_zero, List.set_cons_succ, Nat.reduceAdd, G.upd, if_true, if_false, ↓reduceIte, s0, s1, s2, s3, s4, s5, s6] at ha
        subst ha
        have z0 := BC.out.c0
        have z1 := BC.out.c1
        have z2 := BC.out.c2
        have z3 := BC.out.c3
        have z4 := BC.out.c4
        have g0 := BC.out.fr 0
        have g1 := BC.out.fr 1
        have g2 := BC.out.fr 2
        have g3 := BC.out.fr 3
        have g4 := BC.out.fr 4
        refine skip_ (w1 := ?_) (by rfl) rfl ?_ ?_
        rotate_left
        · go_simp
          rfl
        refine hK.out undef _ ?_
        clear hK K
        clear z0 z1 z2 z3 z4 g0 g1 g2 g3 g4
        refine G.tail_zero ?_
        intro a' ha
        simp (decide := true) only [G.putAll, Act.put, List.setIfInBounds_toArray, List.set_cons_zero, List.set_cons_succ, Nat.reduceAdd, G.upd, if_true, if_false, ↓reduceIte, s0, s1, s2, s3, s4, s5, s6] at ha
        subst ha
        clear s0 s1 s2 s3 s4 s5 s6 x
        have hfit := hfit.step u0
        rw [show s + 20000 * (k : Int) + 20000 = s + 20000 * ((k + 1 : Nat) : Int) by omega] at hfit
        have BC := Aside0.mk (BC.out.put (T + 20000 + gainQ R u0) (gainR R u0) kn E (stepS kn S))
        have HB := Aside0.mk (put_below (b := c) HB.out hle (.int .i64 (T + 20000 + gainQ R u0)) (.int .i64 (gainR R u0)) (.bool kn) (.int .i64 E) (.int .i64 (stepS kn S)))
        clear HSTEP e0 hrest herr hsteps hnear
        generalize T + 20000 + gainQ R u0 = T2 at *
        generalize gainR R u0 = R2 at *
        generalize stepS kn S = S2 at *
        generalize ((((w'.setCell ⟨c, 0, none⟩ (.int .i64 T2)).setCell ⟨c, 1, none⟩ (.int .i64 R2)).setCell ⟨c, 2, none⟩ (.bool kn)).setCell ⟨c, 3, none⟩ (.int .i64 E)).setCell ⟨c, 4, none⟩ (.int .i64 S2) = WA at *
        have e1 := pw_cell_below HB.out c1
        have e2 := pw_cell_below HB.out c2
        have hnear := hfit.near
        have hrest := hfit.rest
        have herr := hfit.err
        have hsteps := hfit.steps
        have hcl := BC.out.lt
        have q0 := BC.out.c0
        have q1 := BC.out.c1
        have q2 := BC.out.c2
        have q3 := BC.out.c3
        have q4 := BC.out.c4
        cases u2 with
        | false =>
          go_wp2_with fail
          with_reducible refine (bound_calls T2 R2 E S2 kn (by omega) (by omega) _).mono ?_
          rintro e' wz ⟨rfl, HB'⟩
          have BC := Aside0.mk (BC.out.below HB')
          have HB := Aside0.mk (below_step HB.out HB')
          clear HB' q0 q1 q2 q3 q4
          cases kn with
          | false =>
            rw [show boundV false E S2 = 0 from rfl]
            have q0 := BC.out.c0
            have q1 := BC.out.c1
            have q2 := BC.out.c2
            have q3 := BC.out.c3
            have q4 := BC.out.c4
            go_wp2_with fail
            go_roundw
            case rel => exact ⟨k + 1, by omega, by omega, by go_num, by rw [show s + 20000 * ((k + 1 : Nat) : Int) = s + 20000 * (k : Int) + 20000 by omega], T2, R2, false, E, S2, hfit, BC, HB⟩
            case measure => simp [intOf]; omega
          | true =>
            rw [show boundV true E S2 = E + 2 * S2 + 1 by simp [boundV]]
            have hok := hfit.ok rfl
            have t2 : decide (E + 2 * S2 + 1 < T2 - (s + 20000 * (k : Int) + 20000)) = false := by simp; omega
            have t3 : decide (E + 2 * S2 + 1 < s + 20000 * (k : Int) + 20000 - T2) = false := by simp; omega
            clear hok
            have q0 := BC.out.c0
            have q1 := BC.out.c1
            have q2 := BC.out.c2
            have q3 := BC.out.c3
            have q4 := BC.out.c4
            go_wp2_with fail
            go_roundw
            case rel => exact ⟨k + 1, by omega, by omega, by go_num, by rw [show s + 20000 * ((k + 1 : Nat) : Int) = s + 20000 * (k : Int) + 20000 by omega], T2, R2, true, E, S2, hfit, BC, HB⟩
            case measure => simp [intOf]; omega
        | true =>
          go_wp2_with fail
          with_reducible refine (within_calls _ _ (by omega) (by omega) _).mono ?_
          rintro e w3 ⟨rfl, ⟨nd, rfl⟩⟩
          have A0 := Int.emod_nonneg u1 (show (101 : Int) ≠ 0 by omega)
          have A1 := Int.emod_lt_of_pos u1 (show (0 : Int) < 101 by omega)
          generalize u1 % 101 = A at *
          have BC := Aside0.mk (BC.out.drawn nd)
          have HB := Aside0.mk (pw_below_drewN HB.out nd)
          generalize WA.drewN nd = WA at *
          have hw0 : w.heap.size ≤ WA.heap.size := HB.out.size
          clear q0 q1 q2 q3 q4
          have e1 := pw_cell_below HB.out c1
          have hcl := BC.out.lt
          have q0 := BC.out.c0
          have q1 := BC.out.c1
          have q2 := BC.out.c2
          have q3 := BC.out.c3
          have q4 := BC.out.c4
          have D0 := Int.emod_nonneg (u1.tdiv 101) (show (2 * A + 1 : Int) ≠ 0 by omega)
          have D1 := Int.emod_lt_of_pos (u1.tdiv 101) (show (0 : Int) < 2 * A + 1 by omega)
          have HW : Aside0 (∀ w', Calls Try.prog 9 #[.int .i64 (u1.tdiv 101), .int .i64 (2 * A + 1)] w' fun e w'' => e = .returned (.int .i64 (u1.tdiv 101 % (2 * A + 1))) ∧ Drawn0 w' w'') := ⟨fun w' => within_calls _ _ (by omega) (by omega) w'⟩
          obtain ⟨D, hD⟩ : ∃ D, u1.tdiv 101 % (2 * A + 1) = D := ⟨_, rfl⟩
          rw [hD] at D0 D1 HW
          clear hD
          have HSY : Aside0 (∀ w', Calls Try.prog 13 #[ck T2 R2 kn E S2, .int .i64 (s + 20000 * (k : Int) + 20000 + D - A), .int .i64 A] w' fun e' w'' => e' = .returned (.tuple #[ck (s + 20000 * (k : Int) + 20000 + D - A) 0 true A 0, .int .i64 0]) ∧ Below w'.heap.size w' w'') := ⟨fun w' => by
            have h := sync_calls T2 R2 E S2 (s + 20000 * (k : Int) + 20000 + D - A) A kn w'
            have ok : syncOk (s + 20000 * (k : Int) + 20000 + D - A) A = true := by simp [syncOk]; omega
            rw [if_pos ok, if_pos ok] at h
            exact h⟩
          have hfit2 : Fit (s + 20000 * ((k + 1 : Nat) : Int)) (k + 1) (s + 20000 * (k : Int) + 20000 + D - A) 0 true A 0 := Fit.synced (by omega) (by omega)
          go_wp2_with fail
          have hq0 := Int.mul_tdiv_add_tmod u1 101
          have hq1 := Int.lt_tmod_of_pos u1 (show (0 : Int) < 101 by omega)
          have hq2 := Int.tmod_lt_of_pos u1 (show (0 : Int) < 101 by omega)
          have hv1 : IntKind.i64.wrap (2 * A) = 2 * A := by rw [i64_w, w64 (by omega) (by omega)]
          have hv2 : IntKind.i64.wrap (2 * A + 1) = 2 * A + 1 := by rw [i64_w, w64 (by omega) (by omega)]
          have hv3 : IntKind.i64.wrap (s + 20000 * (k : Int) + 20000 + D) = s + 20000 * (k : Int) + 20000 + D := by rw [i64_w, w64 (by omega) (by omega)]
          have hv4 : IntKind.i64.wrap (s + 20000 * (k : Int) + 20000 + D - A) = s + 20000 * (k : Int) + 20000 + D - A := by rw [i64_w, w64 (by omega) (by omega)]
          have hv5 : IntKind.i64.wrap (u1.tdiv 101) = u1.tdiv 101 := by rw [i64_w, w64 (by omega) (by omega)]
          clear hq0 hq1 hq2
          refine G.float (m := 21) (n := 23) (t := 2) [some 51, some 52, some 53, some 54, some 55, some 56, some 57, some 58, some 59, some 60, some 61, some 62, some 63, some 64, some 65, some 66, some 67, some 50, some 68, some 69, some 9, none, some 10] [G.Is ?fg205_0, G.Is ?fg205_1, G.Is ?fg205_2, G.Is ?fg205_3, G.Is ?fg205_4, G.Is ?fg205_5, G.Is ?fg205_6, G.Is ?fg205_7, G.Is ?fg205_8, G.Is ?fg205_9, G.Is ?fg205_10, G.Is (.int .i64 D), G.Is ?fg205_12, G.Is ?fg205_13, G.Is ?fg205_14, G.Is ?fg205_15, G.Is (.tuple #[ck (s + 20000 * (k : Int) + 20000 + D - A) 0 true A 0, .int .i64 0]), G.Is ?fg205_17, G.Is ?fg205_18, G.Is ?fg205_19, G.New WA #[.int .i64 0, .int .i64 0, .bool false, .int .i64 0, .int .i64 0] 25] [G.PIs ?fg205_0, G.PIs ?fg205_1, G.PIs ?fg205_2, G.PIs ?fg205_3, G.PIs ?fg205_4, G.PIs ?fg205_5, G.PIs ?fg205_6, G.PIs ?fg205_7, G.PIs ?fg205_8, G.PIs ?fg205_9, G.PIs ?fg205_10, G.PIs (.int .i64 D), G.PIs ?fg205_12, G.PIs ?fg205_13, G.PIs ?fg205_14, G.PIs ?fg205_15, G.PIs (.tuple #[ck (s + 20000 * (k : Int) + 20000 + D - A) 0 true A 0, .int .i64 0]), G.PIs ?fg205_17, G.PIs ?fg205_18, G.PIs ?fg205_19, G.PAny] [20] [19] (by kernel_rfl) (by kernel_rfl) (by kernel_rfl) (by kernel_rfl) (by rfl) (G.allB_succ (G.allB_succ (G.allB_succ (G.allB_succ (G.allB_succ (G.allB_succ (G.allB_succ (G.allB_succ (G.allB_succ (G.allB_succ (G.allB_succ (G.allB_succ (G.allB_succ (G.allB_succ (G.allB_succ (G.allB_succ (G.allB_succ (G.allB_succ (G.allB_succ (G.allB_succ (G.allB_succ G.allB_zero (fun _ => ?cg205_0)) (fun _ => ?cg205_1)) (fun _ => ?cg205_2)) (fun _ => ?cg205_3)) (fun _ => ?cg205_4)) (fun _ => ?cg205_5)) (fun _ => ?cg205_6)) (fun _ => ?cg205_7)) (fun _ => ?cg205_8)) (fun _ => ?cg205_9)) (fun _ => ?cg205_10)) (fun _ => ?cg205_11)) (fun _ => ?cg205_12)) (fun _ => ?cg205_13)) (fun _ => ?cg205_14)) (fun _ => ?cg205_15)) (fun _ => ?cg205_16)) (fun _ => ?cg205_17)) (fun _ => ?cg205_18)) (fun h => by cases h)) (fun _ => ?cg205_20)) ⟨?cg205_19, trivial⟩ ?hsg205_ ?hlg205_ ?hpg205_ ?hTg205_ (by kernel_rfl)
          case cg205_0 =>
            refine G.core_obl (o := _) (N := some 51) rfl rfl ?_
            intro x a' ha w' hB hF K hK
            simp only [G.putAll, Act.put, List.setIfInBounds_toArray, List.set_cons_zero, List.set_cons_succ, Nat.reduceAdd] at ha
            subst ha
            have t0 := pw_cell_below hB q0
            have t1 := pw_cell_below hB q1
            have t2 := pw_cell_below hB q2
            have t3 := pw_cell_below hB q3
            have t4 := pw_cell_below hB q4
            refine value_ (w1 := ?_) (v := ?_) (by rfl) rfl ?_ ?_
            rotate_left 2
            · go_simp
              constructor
              · rfl
              · rfl
            refine hK.out _ _ (Below.refl _ _) ?_ (fun h => absurd h (by decide))
            change _ = _
            with_reducible rfl
          case cg205_1 =>
            refine G.core_obl (o := _) (N := some 52) rfl rfl ?_
            intro x a' ha w' hB hF K hK
            simp only [G.putAll, Act.put, List.setIfInBounds_toArray, List.set_cons_zero, List.set_cons_succ, Nat.reduceAdd] at ha
            subst ha
            refine value_ (w1 := ?_) (v := ?_) (by rfl) rfl ?_ ?_
            rotate_left 2
            · go_simp
              constructor
              · rfl
              · rfl
            refine hK.out _ _ (Below.refl _ _) ?_ (fun h => absurd h (by decide))
            change _ = _
            with_reducible rfl
          case cg205_2 =>
            refine G.core_obl (o := _) (N := some 53) rfl rfl ?_
            intro x a' ha w' hB hF K hK
            simp only [G.putAll, Act.put, List.setIfInBounds_toArray, List.set_cons_zero, List.set_cons_succ, Nat.reduceAdd] at ha
            subst ha
            refine value_ (w1 := ?_) (v := ?_) (by rfl) rfl ?_ ?_
            rotate_left 2
            · go_simp
              constructor
              · rfl
              · rfl
            refine hK.out _ _ (Below.refl _ _) ?_ (fun h => absurd h (by decide))
            change _ = _
            with_reducible rfl
          case cg205_3 =>
            refine G.core_obl (o := _) (N := some 54) rfl rfl ?_
            intro x a' ha w' hB hF K hK
            simp only [G.putAll, Act.put, List.setIfInBounds_toArray, List.set_cons_zero, List.set_cons_succ, Nat.reduceAdd] at ha
            subst ha
            refine value_ (w1 := ?_) (v := ?_) (by rfl) rfl ?_ ?_
            rotate_left 2
            · go_simp
              constructor
              · rfl
              · rfl
            refine hK.out _ _ (Below.refl _ _) ?_ (fun h => absurd h (by decide))
            change _ = _
            with_reducible rfl
          case cg205_4 =>
            refine G.core_obl (o := _) (N := some 55) rfl rfl ?_
            intro x a' ha w' hB hF K hK
            have s2 : x 2 = _ := hF 2 (by kernel_rfl)
            have s3 : x 3 = _ := hF 3 (by kernel_rfl)
            simp only [G.putAll, Act.put, List.setIfInBounds_toArray, List.set_cons_zero, List.set_cons_succ, Nat.reduceAdd, s2, s3] at ha
            subst ha
            refine value_ (w1 := ?_) (v := ?_) (by rfl) rfl ?_ ?_
            rotate_left 2
            · go_simp
              constructor
              · rfl
              · rfl
            refine hK.out _ _ (Below.refl _ _) ?_ (fun h => absurd h (by decide))
            change _ = _
            with_reducible rfl
          case cg205_5 =>
            refine G.core_obl (o := _) (N := some 56) rfl rfl ?_
            intro x a' ha w' hB hF K hK
            have s4 : x 4 = _ := hF 4 (by kernel_rfl)
            simp only [G.putAll, Act.put, List.setIfInBounds_toArray, List.set_cons_zero, List.set_cons_succ, Nat.reduceAdd, s4] at ha
            subst ha
            refine value_ (w1 := ?_) (v := ?_) (by rfl) rfl ?_ ?_
            rotate_left 2
            · go_simp
              constructor
              · rfl
              · rfl
            refine hK.out _ _ (Below.refl _ _) ?_ (fun h => absurd h (by decide))
            change _ = _
            with_reducible rfl
          case cg205_6 =>
            refine G.core_obl (o := _) (N := some 57) rfl rfl ?_
            intro x a' ha w' hB hF K hK
            have s5 : x 5 = _ := hF 5 (by kernel_rfl)
            simp only [G.putAll, Act.put, List.setIfInBounds_toArray, List.set_cons_zero, List.set_cons_succ, Nat.reduceAdd, s5] at ha
            subst ha
            have t0 := pw_cell_below hB e1
            refine value_ (w1 := ?_) (v := ?_) (by rfl) rfl ?_ ?_
            rotate_left 2
            · go_simp
              constructor
              · rfl
              · rfl
            refine hK.out _ _ (Below.refl _ _) ?_ (fun h => absurd h (by decide))
            change _ = _
            with_reducible rfl
          case cg205_7 =>
            refine G.core_obl (o := _) (N := some 58) rfl rfl ?_
            intro x a' ha w' hB hF K hK
            have s6 : x 6 = _ := hF 6 (by kernel_rfl)
            simp only [G.putAll, Act.put, List.setIfInBounds_toArray, List.set_cons_zero, List.set_cons_succ, Nat.reduceAdd, s6] at ha
            subst ha
            refine value_ (w1 := ?_) (v := ?_) (by rfl) rfl ?_ ?_
            rotate_left 2
            · go_simp
              constructor
              · rfl
              · rfl
            refine hK.out _ _ (Below.refl _ _) ?_ (fun h => absurd h (by decide))
            change _ = _
            with_reducible rfl
          case cg205_8 =>
            refine G.core_obl (o := _) (N := some 59) rfl rfl ?_
            intro x a' ha w' hB hF K hK
            simp only [G.putAll, Act.put, List.setIfInBounds_toArray, List.set_cons_zero, List.set_cons_succ, Nat.reduceAdd] at ha
            subst ha
            refine value_ (w1 := ?_) (v := ?_) (by rfl) rfl ?_ ?_
            rotate_left 2
            · go_simp
              constructor
              · rfl
              · rfl
            refine hK.out _ _ (Below.refl _ _) ?_ (fun h => absurd h (by decide))
            change _ = _
            with_reducible rfl
          case cg205_9 =>
            refine G.core_obl (o := _) (N := some 60) rfl rfl ?_
            intro x a' ha w' hB hF K hK
            have s8 : x 8 = _ := hF 8 (by kernel_rfl)
            simp only [G.putAll, Act.put, List.setIfInBounds_toArray, List.set_cons_zero, List.set_cons_succ, Nat.reduceAdd, s8] at ha
            subst ha
            refine value_ (w1 := ?_) (v := ?_) (by rfl) rfl ?_ ?_
            rotate_left 2
            · go_simp
              constructor
              · rfl
              · rfl
            refine hK.out _ _ (Below.refl _ _) ?_ (fun h => absurd h (by decide))
            change _ = _
            with_reducible rfl
          case cg205_10 =>
            refine G.core_obl (o := _) (N := some 61) rfl rfl ?_
            intro x a' ha w' hB hF K hK
            have s9 : x 9 = _ := hF 9 (by kernel_rfl)
            simp only [G.putAll, Act.put, List.setIfInBounds_toArray, List.set_cons_zero, List.set_cons_succ, Nat.reduceAdd, s9] at ha
            subst ha
            refine value_ (w1 := ?_) (v := ?_) (by rfl) rfl ?_ ?_
            rotate_left 2
            · go_simp
              constructor
              · rfl
              · rfl
            refine hK.out _ _ (Below.refl _ _) ?_ (fun h => absurd h (by decide))
            change _ = _
            with_reducible rfl
          case cg205_11 =>
            refine G.core_obl (o := _) (N := some 62) rfl rfl ?_
            intro x a' ha w' hB hF K hK
            have s7 : x 7 = _ := hF 7 (by kernel_rfl)
            have s10 : x 10 = _ := hF 10 (by kernel_rfl)
            simp only [G.putAll, Act.put, List.setIfInBounds_toArray, List.set_cons_zero, List.set_cons_succ, Nat.reduceAdd, s7, s10] at ha
            subst ha
            refine goes_ Try.func9 (by kernel_rfl) rfl #[.int .i64 (u1.tdiv 101), .int .i64 (2 * A + 1)] (by rfl) rfl rfl (by first | rfl | (simp only [List.map_toArray, List.map_cons, List.map_nil]; rfl)) ?_
            with_reducible refine (HW.out _).mono ?_
            rintro e w3 ⟨rfl, ⟨nd3, rfl⟩⟩
            refine ⟨_, rfl, ?_⟩
            exact hK.out _ _ (pw_below_drewN (Below.refl _ _) nd3) rfl (fun h => absurd h (by decide))
          case cg205_12 =>
            refine G.core_obl (o := _) (N := some 63) rfl rfl ?_
            intro x a' ha w' hB hF K hK
            have s1 : x 1 = _ := hF 1 (by kernel_rfl)
            have s11 : x 11 = _ := hF 11 (by kernel_rfl)
            simp only [G.putAll, Act.put, List.setIfInBounds_toArray, List.set_cons_zero, List.set_cons_succ, Nat.reduceAdd, s1, s11] at ha
            subst ha
            refine value_ (w1 := ?_) (v := ?_) (by rfl) rfl ?_ ?_
            rotate_left 2
            · go_simp
              constructor
              · rfl
              · rfl
            refine hK.out _ _ (Below.refl _ _) ?_ (fun h => absurd h (by decide))
            change _ = _
            with_reducible rfl
          case cg205_13 =>
            refine G.core_obl (o := _) (N := some 64) rfl rfl ?_
            intro x a' ha w' hB hF K hK
            simp only [G.putAll, Act.put, List.setIfInBounds_toArray, List.set_cons_zero, List.set_cons_succ, Nat.reduceAdd] at ha
            subst ha
            refine value_ (w1 := ?_) (v := ?_) (by rfl) rfl ?_ ?_
            rotate_left 2
            · go_simp
              constructor
              · rfl
              · rfl
            refine hK.out _ _ (Below.refl _ _) ?_ (fun h => absurd h (by decide))
            change _ = _
            with_reducible rfl
          case cg205_14 =>
            refine G.core_obl (o := _) (N := some 65) rfl rfl ?_
            intro x a' ha w' hB hF K hK
            have s12 : x 12 = _ := hF 12 (by kernel_rfl)
            have s13 : x 13 = _ := hF 13 (by kernel_rfl)
            simp only [G.putAll, Act.put, List.setIfInBounds_toArray, List.set_cons_zero, List.set_cons_succ, Nat.reduceAdd, s12, s13] at ha
            subst ha
            refine value_ (w1 := ?_) (v := ?_) (by rfl) rfl ?_ ?_
            rotate_left 2
            · go_simp
              constructor
              · rfl
              · rfl
            refine hK.out _ _ (Below.refl _ _) ?_ (fun h => absurd h (by decide))
            change _ = _
            with_reducible rfl
          case cg205_15 =>
            refine G.core_obl (o := _) (N := some 66) rfl rfl ?_
            intro x a' ha w' hB hF K hK
            simp only [G.putAll, Act.put, List.setIfInBounds_toArray, List.set_cons_zero, List.set_cons_succ, Nat.reduceAdd] at ha
            subst ha
            refine value_ (w1 := ?_) (v := ?_) (by rfl) rfl ?_ ?_
            rotate_left 2
            · go_simp
              constructor
              · rfl
              · rfl
            refine hK.out _ _ (Below.refl _ _) ?_ (fun h => absurd h (by decide))
            change _ = _
            with_reducible rfl
          case cg205_16 =>
            refine G.core_obl (o := _) (N := some 67) rfl rfl ?_
            intro x a' ha w' hB hF K hK
            have s0 : x 0 = _ := hF 0 (by kernel_rfl)
            have s14 : x 14 = _ := hF 14 (by kernel_rfl)
            have s15 : x 15 = _ := hF 15 (by kernel_rfl)
            have s11 : x 11 = _ := hF 11 (by kernel_rfl)
            simp only [G.putAll, Act.put, List.setIfInBounds_toArray, List.set_cons_zero, List.set_cons_succ, Nat.reduceAdd, s0, s14, s15, s11] at ha
            subst ha
            refine goes_ Try.func13 (by kernel_rfl) rfl #[ck T2 R2 kn E S2, .int .i64 (s + 20000 * (k : Int) + 20000 + D - A), .int .i64 A] (by rfl) rfl rfl (by first | rfl | (simp only [List.map_toArray, List.map_cons, List.map_nil]; rfl)) ?_
            with_reducible refine (HSY.out _).mono ?_
            rintro e w3 ⟨rfl, HB'⟩
            refine ⟨_, rfl, ?_⟩
            exact hK.out _ _ HB' rfl (fun h => absurd h (by decide))
          case cg205_17 =>
            refine G.core_obl (o := _) (N := some 50) rfl rfl ?_
            intro x a' ha w' hB hF K hK
            have s16 : x 16 = _ := hF 16 (by kernel_rfl)
            simp only [G.putAll, Act.put, List.setIfInBounds_toArray, List.set_cons_zero, List.set_cons_succ, Nat.reduceAdd, s16] at ha
            subst ha
            refine value_ (w1 := ?_) (v := ?_) (by rfl) rfl ?_ ?_
            rotate_left 2
            · go_simp
              constructor
              · rfl
              · rfl
            refine hK.out _ _ (Below.refl _ _) ?_ (fun h => absurd h (by decide))
            change _ = _
            with_reducible rfl
          case cg205_18 =>
            refine G.core_obl (o := _) (N := some 68) rfl rfl ?_
            intro x a' ha w' hB hF K hK
            have s17 : x 17 = _ := hF 17 (by kernel_rfl)
            simp only [G.putAll, Act.put, List.setIfInBounds_toArray, List.set_cons_zero, List.set_cons_succ, Nat.reduceAdd, s17] at ha
            subst ha
            refine value_ (w1 := ?_) (v := ?_) (by rfl) rfl ?_ ?_
            rotate_left 2
            · go_simp
              constructor
              · rfl
              · rfl
            refine hK.out _ _ (Below.refl _ _) ?_ (fun h => absurd h (by decide))
            change _ = _
            with_reducible rfl
          case cg205_19 =>
            refine G.float_obl (o := _) (N := some 69) rfl rfl ?_
            intro x a' ha w' hF K hK
            have s17 : x 17 = _ := hF 17 (by kernel_rfl)
            simp only [G.putAll, Act.put, List.setIfInBounds_toArray, List.set_cons_zero, List.set_cons_succ, Nat.reduceAdd, s17] at ha
            subst ha
            refine value_ (w1 := ?_) (v := ?_) (by rfl) rfl ?_ ?_
            rotate_left 2
            · go_simp
              constructor
              · rfl
              · rfl
            refine hK.out _ ?_
            change _ = _
            with_reducible rfl
          case cg205_20 =>
            refine G.core_obl (o := _) (N := some 9) rfl rfl ?_
            intro x a' ha w' hB hF K hK
            simp only [G.putAll, Act.put, List.setIfInBounds_toArray, List.set_cons_zero, List.set_cons_succ, Nat.reduceAdd] at ha
            subst ha
            refine value_ (w1 := ?_) (v := ?_) (by rfl) rfl ?_ ?_
            rotate_left 2
            · go_simp
              constructor
              · rfl
              · rfl
            exact hK.out _ _ (below_alloc (Below.refl _ _) _) ⟨_, rfl, heap_alloc_new _ _, hB.size⟩ (fun _ => Nat.le_refl _)
          case hsg205_ => exact ⟨G.stays_eq _, G.stays_eq _, G.stays_eq _, G.stays_eq _, G.stays_eq _, G.stays_eq _, G.stays_eq _, G.stays_eq _, G.stays_eq _, G.stays_eq _, G.stays_eq _, G.stays_eq _, G.stays_eq _, G.stays_eq _, G.stays_eq _, G.stays_eq _, G.stays_eq _, G.stays_eq _, G.stays_eq _, G.stays_eq _, G.stays_new _ _ _, trivial⟩
          case hlg205_ => exact ⟨fun v w' h => G.new_low h, trivial⟩
          case hpg205_ => exact ⟨fun v w h => h, fun v w h => h, fun v w h => h, fun v w h => h, fun v w h => h, fun v w h => h, fun v w h => h, fun v w h => h, fun v w h => h, fun v w h => h, fun v w h => h, fun v w h => h, fun v w h => h, fun v w h => h, fun v w h => h, fun v w h => h, fun v w h => h, fun v w h => h, fun v w h => h, fun v w h => h, fun v w h => trivial, trivial⟩
          intro x w' hB hF hD
          have s0 : x 0 = _ := hF 0 (by omega) (by kernel_rfl)
          have s1 : x 1 = _ := hF 1 (by omega) (by kernel_rfl)
          have s2 : x 2 = _ := hF 2 (by omega) (by kernel_rfl)
          have s3 : x 3 = _ := hF 3 (by omega) (by kernel_rfl)
          have s4 : x 4 = _ := hF 4 (by omega) (by kernel_rfl)
          have s5 : x 5 = _ := hF 5 (by omega) (by kernel_rfl)
          have s6 : x 6 = _ := hF 6 (by omega) (by kernel_rfl)
          have s7 : x 7 = _ := hF 7 (by omega) (by kernel_rfl)
          have s8 : x 8 = _ := hF 8 (by omega) (by kernel_rfl)
          have s9 : x 9 = _ := hF 9 (by omega) (by kernel_rfl)
          have s10 : x 10 = _ := hF 10 (by omega) (by kernel_rfl)
          have s11 : x 11 = _ := hF 11 (by omega) (by kernel_rfl)
          have s12 : x 12 = _ := hF 12 (by omega) (by kernel_rfl)
          have s13 : x 13 = _ := hF 13 (by omega) (by kernel_rfl)
          have s14 : x 14 = _ := hF 14 (by omega) (by kernel_rfl)
          have s15 : x 15 = _ := hF 15 (by omega) (by kernel_rfl)
          have s16 : x 16 = _ := hF 16 (by omega) (by kernel_rfl)
          have s17 : x 17 = _ := hF 17 (by omega) (by kernel_rfl)
          have s18 : x 18 = _ := hF 18 (by omega) (by kernel_rfl)
          obtain ⟨b20, s20, hb20, hl20⟩ := (hF 20 (by omega) (by kernel_rfl) : G.New _ _ _ (x 20) w')
          clear hF hD
          have BC := Aside0.mk (BC.out.below hB)
          have HB := Aside0.mk (below_step HB.out hB)
          have BD : Aside0 (Cb w' b20 0 0 false 0 0) := ⟨⟨hb20⟩⟩
          clear hB hb20 q0 q1 q2 q3 q4 e1 hv1 hv2 hv3 hv4 hv5 HW HSY
          refine G.tail_succF (i := 21) (o := _) (N := none) (by rfl) rfl rfl ?_
          intro z a' ha hz K hK
          simp (decide := true) only [G.putAll, Act.put, List.setIfInBounds_toArray, List.set_cons_zero, List.set_cons_succ, Nat.reduceAdd, G.upd, if_true, if_false, ↓reduceIte, G.mrg, Bool.and_true, Bool.and_false, decide_true, decide_false, Bool.false_eq_true, s0, s1, s2, s3, s4, s5, s6, s7, s8, s9, s10, s11, s12, s13, s14, s15, s16, s17, s18, s20] at ha
          subst ha
          have z0 := BD.out.c0
          have z1 := BD.out.c1
          have z2 := BD.out.c2
          have z3 := BD.out.c3
          have z4 := BD.out.c4
          have g0 := BD.out.fr 0
          have g1 := BD.out.fr 1
          have g2 := BD.out.fr 2
          have g3 := BD.out.fr 3
          have g4 := BD.out.fr 4
          refine skip_ (w1 := ?_) (by rfl) rfl ?_ ?_
          rotate_left
          · go_simp
            rfl
          refine hK.out undef _ ?_
          clear hK K
          clear hz
          clear z0 z1 z2 z3 z4 g0 g1 g2 g3 g4
          have BC := Aside0.mk (((((BC.out.far (show c ≠ b20 by omega) 0 (.int .i64 (s + 20000 * (k : Int) + 20000 + D - A))).far (show c ≠ b20 by omega) 1 (.int .i64 0)).far (show c ≠ b20 by omega) 2 (.bool true)).far (show c ≠ b20 by omega) 3 (.int .i64 A)).far (show c ≠ b20 by omega) 4 (.int .i64 0))
          have BD := Aside0.mk (BD.out.put (s + 20000 * (k : Int) + 20000 + D - A) 0 true A 0)
          have HB := Aside0.mk (put_below (b := b20) HB.out (by omega) (.int .i64 (s + 20000 * (k : Int) + 20000 + D - A)) (.int .i64 0) (.bool true) (.int .i64 A) (.int .i64 0))
          refine G.tail_succF (i := 22) (o := _) (N := some 10) (by rfl) rfl rfl ?_
          intro z a' ha hz K hK
          have sz19 : z 19 = _ := hz 19 (by kernel_rfl) (by omega)
          simp (decide := true) only [G.putAll, Act.put, List.setIfInBounds_toArray, List.set_cons_zero, List.set_cons_succ, Nat.reduceAdd, G.upd, if_true, if_false, ↓reduceIte, G.mrg, Bool.and_true, Bool.and_false, decide_true, decide_false, Bool.false_eq_true, s0, s1, s2, s3, s4, s5, s6, s7, s8, s9, s10, s11, s12, s13, s14, s15, s16, s17, s18, s20, sz19] at ha
          subst ha
          refine value_ (w1 := ?_) (v := ?_) (by rfl) rfl ?_ ?_
          rotate_left 2
          · go_simp
            constructor
            · rfl
            · rfl
          refine hK.out _ _ ?_
          clear hK K
          clear hz
          clear sz19
          refine G.tail_zeroF ?_
          intro z a' ha hz
          have sz19 : z 19 = _ := hz 19 (by omega)
          simp (decide := true) only [G.putAll, Act.put, List.setIfInBounds_toArray, List.set_cons_zero, List.set_cons_succ, Nat.reduceAdd, G.upd, if_true, if_false, ↓reduceIte, G.mrg, Bool.and_true, Bool.and_false, decide_true, decide_false, Bool.false_eq_true, s0, s1, s2, s3, s4, s5, s6, s7, s8, s9, s10, s11, s12, s13, s14, s15, s16, s17, s18, s20, sz19] at ha
          subst ha
          clear s0 s1 s2 s3 s4 s5 s6 s7 s8 s9 s10 s11 s12 s13 s14 s15 s16 s17 s18 s20 hz sz19 x z
          have hfit := hfit2
          clear hfit2
          have T9 : s + 20000 * (k : Int) + 20000 + D - A - (s + 20000 * (k : Int) + 20000) ≤ 100 ∧ -100 ≤ s + 20000 * (k : Int) + 20000 + D - A - (s + 20000 * (k : Int) + 20000) := by omega
          generalize s + 20000 * (k : Int) + 20000 + D - A = T3 at *
          generalize ((((w'.setCell ⟨b20, 0, none⟩ (.int .i64 T3)).setCell ⟨b20, 1, none⟩ (.int .i64 0)).setCell ⟨b20, 2, none⟩ (.bool true)).setCell ⟨b20, 3, none⟩ (.int .i64 A)).setCell ⟨b20, 4, none⟩ (.int .i64 0) = WB at *
          have q0 := BC.out.c0
          have q1 := BC.out.c1
          have q2 := BC.out.c2
          have q3 := BC.out.c3
          have q4 := BC.out.c4
          have x0 := BD.out.c0
          have x1 := BD.out.c1
          have x2 := BD.out.c2
          have x3 := BD.out.c3
          have x4 := BD.out.c4
          have f0 := BC.out.fr 0
          have f1 := BC.out.fr 1
          have f2 := BC.out.fr 2
          have f3 := BC.out.fr 3
          have f4 := BC.out.fr 4
          have BC := Aside0.mk (BC.out.put T3 0 true A 0)
          have HB := Aside0.mk (put_below (b := c) HB.out hle (.int .i64 T3) (.int .i64 0) (.bool true) (.int .i64 A) (.int .i64 0))
          have r0 := BC.out.c0
          have r1 := BC.out.c1
          have r2 := BC.out.c2
          have r3 := BC.out.c3
          have r4 := BC.out.c4
          go_wp2_with fail
          clear x0 x1 x2 x3 x4 f0 f1 f2 f3 f4 r0 r1 r2 r3 r4
          with_reducible refine (bound_calls T3 0 A 0 true (by omega) (by omega) _).mono ?_
          rintro e' wz ⟨rfl, HB'⟩
          have BC := Aside0.mk (BC.out.below HB')
          have HB := Aside0.mk (below_step HB.out HB')
          clear HB' q0 q1 q2 q3 q4
          rw [show boundV true A 0 = A + 1 by simp [boundV]]
          have hok := hfit.ok rfl
          have t2 : decide (A + 1 < T3 - (s + 20000 * (k : Int) + 20000)) = false := by simp; omega
          have t3 : decide (A + 1 < s + 20000 * (k : Int) + 20000 - T3) = false := by simp; omega
          clear hok
          have q0 := BC.out.c0
          have q1 := BC.out.c1
          have q2 := BC.out.c2
          have q3 := BC.out.c3
          have q4 := BC.out.c4
          go_wp2_with fail
          go_roundw
          case rel => exact ⟨k + 1, by omega, by omega, by go_num, by rw [show s + 20000 * ((k + 1 : Nat) : Int) = s + 20000 * (k : Int) + 20000 by omega], T3, 0, true, A, 0, hfit, BC, HB⟩
          case measure => simp [intOf]; omega
      · obtain rfl : k = 300 := by omega
        have t0 : decide (((300 : Nat) : Int) < (len : Int)) = true := by simp; omega
        go_wp2_with fail
        go_ret
        exact ⟨rfl, HB.out⟩
    · obtain rfl : k = len := by omega
      go_wp2_with fail
      go_ret
      exact ⟨rfl, HB.out⟩
end Go.Proofs.Ytpnkeealojgpcaa.A
