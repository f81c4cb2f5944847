import Derived.Test.YtpnkeealojgpcaaC
/- The walk of ClockHoldover; no condition. -/
namespace Go.Proofs.Ytpnkeealojgpcaa.A
open Go.RowKit Go.Proofs.YtpnkeealojgpcaaW.PrintWords Go.Proofs.YtpnkeealojgpcaaW.PrintLast Go.Proofs.YtpnkeealojgpcaaW.PrintMore
open Go.Proofs.Ytpnkeealojgpcaa
attribute [local go_sem] max2_int min2_int max_two min_two max_three min_three max_four min_four
set_option linter.unusedVariables false
set_option linter.unusedSimpArgs false

theorem class_at (a s : Int) : classV true a s = if a + 2 * s + 1 > 1000 then 2 else if s > 4 then 1 else 0 := by
  unfold classV boundV; rw [if_pos rfl, if_pos rfl]

set_option maxHeartbeats 2000000 in
theorem ClockHoldover_walk (acc drift : Int) (w : World) (w0 : (Lit.int .i64 acc).wf = true) (w1 : (Lit.int .i64 drift).wf = true) :
    Calls Try.prog 6 #[.int .i64 acc, .int .i64 drift] w fun e w' => e = .returned (.bool true) ∧ Below w.heap.size w w' := by
  clear w0 w1
  go_enter Try.func6, Try.ntmps6
  go_wp2_with fail
  refine (known_calls _).mono ?_
  rintro e w1 ⟨rfl, HB⟩
  have HB := Aside0.mk HB
  go_wp2_with fail
  refine (within_calls _ _ (by omega) (by omega) _).mono ?_
  rintro e w' ⟨rfl, ⟨nd, rfl⟩⟩
  have a0 := Int.emod_nonneg acc (show (901 : Int) ≠ 0 by omega)
  have a1 := Int.emod_lt_of_pos acc (show (0 : Int) < 901 by omega)
  generalize acc % 901 = a at *
  have HB := Aside0.mk (pw_below_drewN HB.out nd)
  go_wp2_with fail
  refine (new_calls 0 _).mono ?_
  rintro e w2 ⟨rfl, HB'⟩
  have HB := Aside0.mk (below_step HB.out HB')
  clear HB'
  have so : syncOk 0 a = true := by simp [syncOk]; omega
  go_wp2_with fail
  refine (sync_calls 0 0 0 0 0 a false _).mono ?_
  rw [if_pos so, if_pos so]
  rintro e w3 ⟨rfl, HB'⟩
  have HB := Aside0.mk (below_step HB.out HB')
  clear HB' so
  have BX := Aside0.mk (Cb.made w3 0 0 true a 0)
  have hle : w.heap.size ≤ w3.heap.size := HB.out.size
  have HB := Aside0.mk (below_alloc HB.out (.cells (cells5 0 0 true a 0) 25))
  go_wp2_with fail
  refine (class_calls 0 0 a 0 true (by omega) (by omega) _).mono ?_
  rw [show classV true a 0 = 0 by rw [class_at, if_neg (by omega), if_neg (by omega)]]
  rintro e w4 ⟨rfl, HB'⟩
  have BX := Aside0.mk (BX.out.below HB')
  have HB := Aside0.mk (below_step HB.out HB')
  clear HB'
  generalize w3.heap.size = b at *
  go_wp2_with fail
  go_loopw [7, 8] (fun l i wr => ∃ k : Nat, 1 ≤ k ∧ k ≤ 501 ∧ i = .int .i64 k ∧ l = .int .i64 (classV true a ((k : Int) - 1)) ∧ ∃ T R, -20002 * (k : Int) ≤ T ∧ T ≤ 20002 * (k : Int) ∧ 0 ≤ R ∧ R ≤ 999999 ∧ Aside0 (Cb wr b T R true a ((k : Int) - 1)) ∧ Aside0 (Below w.heap.size w wr))
    (fun _ i _ => 501 - (intOf i).toNat)
  case atStart => exact ⟨1, by omega, by omega, rfl, by rw [class_at, if_neg (by omega), if_neg (by omega)], 0, 0, by omega, by omega, by omega, by omega, ⟨by simpa using BX.out⟩, HB⟩
  case round =>
    clear BX HB
    obtain ⟨k, h1, hk, rfl, rfl, T, R, hT0, hT1, hR0, hR1, BX, HB⟩ := hrel
    by_cases hlt : k < 501
    · obtain ⟨c, hc⟩ : ∃ c, classV true a ((k : Int) - 1) = c := ⟨_, rfl⟩
      obtain ⟨c', hc'⟩ : ∃ c, classV true a (k : Int) = c := ⟨_, rfl⟩
      have hcc : c ≤ c' ∧ (k ≤ 4 → c' = 0) ∧ (4 < k → c' ≠ 0) := by
        rw [class_at] at hc hc'
        split at hc <;> split at hc' <;> (try split at hc) <;> (try split at hc') <;> omega
      have HC' := Aside0.mk hc'
      have q0 := BX.out.c0
      have q1 := BX.out.c1
      have q2 := BX.out.c2
      have q3 := BX.out.c3
      have q4 := BX.out.c4
      rw [hc]
      clear hc hc'
      have hg := gain_bd R drift ⟨hR0, hR1⟩
      obtain ⟨g1, g2, g3, g4, _⟩ := hg
      go_wp2_with fail
      refine (step_calls T R a ((k : Int) - 1) drift true _ (by omega) ⟨hR0, hR1⟩ (by omega)).mono ?_
      rw [show stepS true ((k : Int) - 1) = (k : Int) by unfold stepS; rw [if_pos rfl]; omega]
      rintro e w5 ⟨rfl, HB'⟩
      have BX := Aside0.mk (BX.out.below HB')
      have HB := Aside0.mk (below_step HB.out HB')
      clear HB' q0 q1 q2 q3 q4
      have hT' : -20002 * ((k : Int) + 1) ≤ T + 20000 + gainQ R drift ∧ T + 20000 + gainQ R drift ≤ 20002 * ((k : Int) + 1) := by omega
      generalize T + 20000 + gainQ R drift = T' at *
      generalize gainR R drift = R' at *
      have q0 := BX.out.c0
      have q1 := BX.out.c1
      have q2 := BX.out.c2
      have q3 := BX.out.c3
      have q4 := BX.out.c4
      have f0 := BX.out.fr 0
      have f1 := BX.out.fr 1
      have f2 := BX.out.fr 2
      have f3 := BX.out.fr 3
      have f4 := BX.out.fr 4
      have HP := Aside0.mk (BX.out.put T' R' true a (k : Int))
      have HQ := Aside0.mk (put_below (b := b) HB.out hle (.int .i64 T') (.int .i64 R') (.bool true) (.int .i64 a) (.int .i64 (k : Int)))
      go_wp2_with fail
      refine (class_calls T' R' a (k : Int) true (by omega) (by omega) _).mono ?_
      rw [HC'.out]
      rintro e w6 ⟨rfl, HB'⟩
      have BX := Aside0.mk (HP.out.below HB')
      have HB := Aside0.mk (below_step HQ.out HB')
      clear HB' HP HQ q0 q1 q2 q3 q4 f0 f1 f2 f3 f4
      obtain ⟨k1, k2, k3⟩ := hcc
      have t1 : decide (c' < c) = false := by simp; omega
      by_cases h4 : k ≤ 4
      · have t2 : decide ((k : Int) ≤ 4) = true := by simp; omega
        have t3 : decide (4 < (k : Int)) = false := by simp; omega
        have t2' : k ≤ 4 := h4
        obtain rfl := k2 h4
        go_wp2_with fail
        go_roundw
        case rel => exact ⟨k + 1, by omega, by omega, by go_num, by rw [show ((k + 1 : Nat) : Int) - 1 = (k : Int) by omega, HC'.out], T', R', by omega, by omega, by omega, by omega, ⟨by rw [show ((k + 1 : Nat) : Int) - 1 = (k : Int) by omega]; exact BX.out⟩, HB⟩
        case measure => simp [intOf]; omega
      · have t2 : decide ((k : Int) ≤ 4) = false := by simp; omega
        have t3 : decide (4 < (k : Int)) = true := by simp; omega
        have t3' : 4 < k := by omega
        have t4 : (c' == 0) = false := beq_eq_false_iff_ne.2 (k3 t3')
        go_wp2_with fail
        go_roundw
        case rel => exact ⟨k + 1, by omega, by omega, by go_num, by rw [show ((k + 1 : Nat) : Int) - 1 = (k : Int) by omega, HC'.out], T', R', by omega, by omega, by omega, by omega, ⟨by rw [show ((k + 1 : Nat) : Int) - 1 = (k : Int) by omega]; exact BX.out⟩, HB⟩
        case measure => simp [intOf]; omega
    · obtain rfl : k = 501 := by omega
      rw [show classV true a (((501 : Nat) : Int) - 1) = 2 by rw [class_at, if_pos (by omega)]]
      go_wp2_with fail
      go_ret
      exact ⟨rfl, HB.out⟩
end Go.Proofs.Ytpnkeealojgpcaa.A
