import Derived.Test.YtpnkeealojgpcaaA
/- The contracts of the package clock and of its reference. No condition beside the ranges that each theorem names. -/
namespace Go.Proofs.Ytpnkeealojgpcaa.A
open Go.RowKit Go.Proofs.YtpnkeealojgpcaaW.PrintWords Go.Proofs.YtpnkeealojgpcaaW.PrintLast Go.Proofs.YtpnkeealojgpcaaW.PrintMore
open Go.Proofs.Ytpnkeealojgpcaa.XK
attribute [local go_sem] max2_int min2_int max_two min_two max_three min_three max_four min_four
set_option linter.unusedVariables false
set_option linter.unusedSimpArgs false

/-- A clock, as a value. -/
abbrev ck (t r : Int) (k : Bool) (e s : Int) : Value := .agg #[.int .i64 t, .int .i64 r, .bool k, .int .i64 e, .int .i64 s]
abbrev cells5 (t r : Int) (k : Bool) (e s : Int) : Array Value := #[.int .i64 t, .int .i64 r, .bool k, .int .i64 e, .int .i64 s]

theorem new_calls (t : Int) (w : World) : Calls Try.prog 10 #[.int .i64 t] w fun e w' => e = .returned (ck t 0 false 0 0) ∧ Below w.heap.size w w' :=
  clock_New.calls t _ _ _ _ _ w rfl
def boundV (k : Bool) (e s : Int) : Int := if k = true then e + 2 * s + 1 else 0
theorem bound_f (t r e s : Int) (k : Bool) (he : 0 ≤ e ∧ e ≤ 1000) (hs : 0 ≤ s ∧ s ≤ 1073741824) : clock_Bound.f t r k e s = some (boundV k e s, k) := by
  unfold clock_Bound.f boundV
  cases k
  · rfl
  · rw [if_pos rfl, if_pos rfl, w64 (n := 2 * s) (by omega) (by omega), w64 (n := e + 2 * s) (by omega) (by omega), w64 (by omega) (by omega)]
theorem bound_calls (t r e s : Int) (k : Bool) (he : 0 ≤ e ∧ e ≤ 1000) (hs : 0 ≤ s ∧ s ≤ 1073741824) (w : World) :
    Calls Try.prog 14 #[ck t r k e s] w fun e' w' => e' = .returned (.tuple #[.int .i64 (boundV k e s), .bool k]) ∧ Below w.heap.size w w' :=
  clock_Bound.calls t r k e s _ _ w (bound_f t r e s k he hs)
def classV (k : Bool) (e s : Int) : Int := if k = true then (if boundV k e s > 1000 then 2 else if s > 4 then 1 else 0) else 2
theorem class_calls (t r e s : Int) (k : Bool) (he : 0 ≤ e ∧ e ≤ 1000) (hs : 0 ≤ s ∧ s ≤ 1073741824) (w : World) :
    Calls Try.prog 15 #[ck t r k e s] w fun e' w' => e' = .returned (.int .i64 (classV k e s)) ∧ Below w.heap.size w w' :=
  clock_Class.calls t r k e s _ w (by
    unfold clock_Class.f
    rw [bound_f t r e s k he hs]
    simp only [Option.bind_some]
    unfold classV
    cases k
    · rfl
    · rw [if_pos rfl, if_pos rfl]
      split
      · rfl
      · split <;> rfl)

/-- Sync: what it answers. -/
def syncOk (ref acc : Int) : Bool := decide (0 ≤ acc) && decide (acc ≤ 1000) && decide (-1125899906842624 ≤ ref) && decide (ref ≤ 1125899906842624)
theorem sync_calls (t r e s ref acc : Int) (k : Bool) (w : World) :
    Calls Try.prog 13 #[ck t r k e s, .int .i64 ref, .int .i64 acc] w fun e' w' =>
      e' = .returned (.tuple #[if syncOk ref acc = true then ck ref 0 true acc 0 else ck t r k e s, .int .i64 (if syncOk ref acc = true then 0 else 2)]) ∧ Below w.heap.size w w' := by
  by_cases h : syncOk ref acc = true
  · rw [if_pos h, if_pos h]
    refine clock_Sync.calls t r k e s ref acc ref 0 true acc 0 0 w ?_
    unfold syncOk at h
    simp only [Bool.and_eq_true, decide_eq_true_eq] at h
    unfold clock_Sync.f
    rw [if_neg (by omega), if_neg (by omega), if_neg (by omega), if_neg (by omega)]
  · rw [if_neg h, if_neg h]
    refine clock_Sync.calls t r k e s ref acc t r k e s 2 w ?_
    unfold syncOk at h
    simp only [Bool.and_eq_true, decide_eq_true_eq] at h
    unfold clock_Sync.f
    split
    · rfl
    · split
      · rfl
      · split
        · rfl
        · split
          · rfl
          · omega
theorem rsync_calls (t r e s ref acc : Int) (k : Bool) (w : World) :
    Calls Try.prog 17 #[ck t r k e s, .int .i64 ref, .int .i64 acc] w fun e' w' =>
      e' = .returned (.tuple #[if syncOk ref acc = true then ck ref 0 true acc 0 else ck t r k e s, .int .i64 (if syncOk ref acc = true then 0 else 2)]) ∧ Below w.heap.size w w' := by
  by_cases h : syncOk ref acc = true
  · rw [if_pos h, if_pos h]
    refine substationref18_Sync.calls t r k e s ref acc ref 0 true acc 0 0 w ?_
    unfold syncOk at h
    simp only [Bool.and_eq_true, decide_eq_true_eq] at h
    unfold substationref18_Sync.f
    rw [if_neg (by omega), if_neg (by omega), if_neg (by omega), if_neg (by omega)]
  · rw [if_neg h, if_neg h]
    refine substationref18_Sync.calls t r k e s ref acc t r k e s 2 w ?_
    unfold syncOk at h
    simp only [Bool.and_eq_true, decide_eq_true_eq] at h
    unfold substationref18_Sync.f
    split
    · rfl
    · split
      · rfl
      · split
        · rfl
        · split
          · rfl
          · omega
theorem to_calls (t r e s : Int) (k : Bool) (w : World) : Calls Try.prog 18 #[ck t r k e s] w fun e' w' => e' = .returned (ck t r k e s) ∧ Below w.heap.size w w' :=
  substationlaw18_to.calls t r k e s _ _ _ _ _ w rfl
theorem rnew_calls (t : Int) (w : World) : Calls Try.prog 22 #[.int .i64 t] w fun e w' => e = .returned (ck t 0 false 0 0) ∧ Below w.heap.size w w' :=
  substationref18_New.calls t _ _ _ _ _ w rfl
theorem rjump_calls (t r e s b : Int) (k : Bool) (w : World) : Calls Try.prog 21 #[ck t r k e s, .int .i64 b] w fun e' w' => e' = .returned (ck (wrap64 (t + b)) r k e s) ∧ Below w.heap.size w w' :=
  substationref18_Jump.calls t r k e s b _ _ _ _ _ w rfl
def fineB (t r : Int) (k : Bool) (e s : Int) : Bool := decide (-36028797018963968 ≤ t) && decide (t ≤ 36028797018963968) && decide (0 ≤ r) && decide (r ≤ 999999) && decide (0 ≤ s) && decide (s ≤ 1073741824) && decide (0 ≤ e) && decide (e ≤ 1000)
theorem fine_calls (t r e s : Int) (k : Bool) (w : World) : Calls Try.prog 16 #[ck t r k e s] w fun e' w' => e' = .returned (.bool (fineB t r k e s)) ∧ Below w.heap.size w w' :=
  substationlaw18_fine.calls t r k e s (fineB t r k e s) w (by
    unfold substationlaw18_fine.f fineB
    repeat' split
    all_goals (simp only [Option.some.injEq]; rw [Bool.eq_iff_iff]; simp; try omega))

theorem within_f (n m : Int) (hm : 0 < m) (hm2 : m ≤ 4611686018427387904) : substationlaw18_within.f n m = some (n % m) := by
  unfold substationlaw18_within.f
  rw [if_neg (by omega)]
  have hr : -m < n.tmod m ∧ n.tmod m < m := ⟨Int.lt_tmod_of_pos n hm, Int.tmod_lt_of_pos n hm⟩
  have e := Int.mul_tdiv_add_tmod n m
  have e2 := Int.emod_add_mul_ediv n m
  have r0 := Int.emod_nonneg n (show m ≠ 0 by omega)
  have r1 := Int.emod_lt_of_pos n hm
  have key : ∀ (x q q' y : Int), m * q + x = m * q' + y → 0 ≤ x → x < m → 0 ≤ y → y < m → x = y := by
    intro x q q' y h hx hx' hy hy'
    have h1 : (m * q + x) % m = x := by rw [Int.mul_add_emod_self_left]; exact Int.emod_eq_of_lt hx hx'
    have h2 : (m * q' + y) % m = y := by rw [Int.mul_add_emod_self_left]; exact Int.emod_eq_of_lt hy hy'
    rw [← h1, ← h2, h]
  by_cases h : n.tmod m < 0
  · rw [if_pos h, w64 (by omega) (by omega)]
    congr 1
    exact key _ (n.tdiv m - 1) (n / m) _ (by rw [Int.mul_sub]; omega) (by omega) (by omega) r0 r1
  · rw [if_neg h]
    congr 1
    exact key _ (n.tdiv m) (n / m) _ (by omega) (by omega) (by omega) r0 r1
theorem within_calls (n m : Int) (hm : 0 < m) (hm2 : m ≤ 4611686018427387904) (w : World) : Calls Try.prog 9 #[.int .i64 n, .int .i64 m] w fun e w' => e = .returned (.int .i64 (n % m)) ∧ Drawn0 w w' :=
  substationlaw18_within.calls n m _ w (within_f n m hm hm2)
theorem floor_f (a b : Int) (h0 : -9223372036854775807 ≤ a) (h1 : a ≤ 9223372036854775807) (hb : 0 < b) : substationref18_Floor.f a b = some (a / b) := by
  unfold substationref18_Floor.f
  rw [if_neg (by omega)]
  have e := Int.mul_tdiv_add_tmod a b
  have hr : -b < a.tmod b ∧ a.tmod b < b := ⟨Int.lt_tmod_of_pos a hb, Int.tmod_lt_of_pos a hb⟩
  have hq : (a.tdiv b).natAbs ≤ a.natAbs := Int.natAbs_tdiv_le_natAbs a b
  by_cases h : a.tmod b < 0
  · rw [if_pos h, w64 (n := a.tdiv b) (by omega) (by omega), w64 (by omega) (by omega)]
    congr 1
    have : a = (a.tmod b + b) + b * (a.tdiv b - 1) := by rw [Int.mul_sub]; omega
    rw [this, Int.add_mul_ediv_left _ _ (by omega), Int.ediv_eq_zero_of_lt (by omega) (by omega), ← this]; omega
  · rw [if_neg h, w64 (by omega) (by omega)]
    congr 1
    have : a = a.tmod b + b * (a.tdiv b) := by omega
    rw [this, Int.add_mul_ediv_left _ _ (by omega), Int.ediv_eq_zero_of_lt (by omega) (by omega), ← this]; omega
theorem floor_calls (a b : Int) (h0 : -9223372036854775807 ≤ a) (h1 : a ≤ 9223372036854775807) (hb : 0 < b) (w : World) : Calls Try.prog 25 #[.int .i64 a, .int .i64 b] w fun e w' => e = .returned (.int .i64 (a / b)) ∧ Drawn0 w w' :=
  substationref18_Floor.calls a b _ w (floor_f a b h0 h1 hb)

set_option maxHeartbeats 2000000 in
theorem rstep_calls (t r e s d : Int) (k : Bool) (w : World) (ht : -4611686018427387904 ≤ t ∧ t ≤ 4611686018427387904) (hr : 0 ≤ r ∧ r ≤ 999999) (hs : -4611686018427387904 ≤ s ∧ s ≤ 4611686018427387904) :
    Calls Try.prog 19 #[ck t r k e s, .int .i64 d] w fun e' w' =>
      e' = .returned (ck (t + 20000 + gainQ r d) (gainR r d) k e (stepS k s)) ∧ Below w.heap.size w w' := by
  obtain ⟨x1, h1⟩ : ∃ x, (if d < -100 then -100 else d) = x := ⟨_, rfl⟩
  obtain ⟨x2, h2⟩ : ∃ x, (if 100 < x1 then 100 else x1) = x := ⟨_, rfl⟩
  have hx : x2 = cl d := by rw [← h2, ← h1]; rfl
  have hg := gain_bd r d hr
  have hc := cl_bd d
  rw [← hx] at hc hg
  have HG : Aside0 (gainQ r d = (r + 20000 * x2) / 1000000) := ⟨by rw [hx]; rfl⟩
  clear hx
  have ⟨q1, q2, r1, r2, r3⟩ := hg
  clear hg
  obtain ⟨q, hq⟩ : ∃ q, gainQ r d = q := ⟨_, rfl⟩
  obtain ⟨rr, hrr⟩ : ∃ q, gainR r d = q := ⟨_, rfl⟩
  rw [hq] at q1 q2 r3 HG ⊢
  rw [hrr] at r1 r2 r3 ⊢
  have R3 : Aside0 (r + 20000 * x2 - 1000000 * q = rr) := ⟨by omega⟩
  clear hq hrr r3
  go_enter Try.func19, Try.ntmps19
  go_wp2_with fail
  with_reducible refine (floor_calls _ _ (by omega) (by omega) (by omega) _).mono ?_
  rw [← HG.out]
  rintro e' w' ⟨rfl, ⟨nd, rfl⟩⟩
  have R4 : r + 20000 * x2 - 1000000 * q = rr := R3.out
  cases k with
  | false =>
    go_wp2_with fail
    refine bodyPost_ret (v := ck (t + 20000 + q) rr false e s) (by simp [results, Try.results19, go_sem]) rfl ⟨rfl, ?_⟩
    repeat (first | with_reducible exact Below.refl _ _ | with_reducible apply pw_below_drewN | with_reducible apply below_alloc | (with_reducible refine below_set ?_ _ (by omega) _ _))
  | true =>
    go_wp2_with fail
    refine bodyPost_ret (v := ck (t + 20000 + q) rr true e (s + 1)) (by simp [results, Try.results19, go_sem]) rfl ⟨rfl, ?_⟩
    repeat (first | with_reducible exact Below.refl _ _ | with_reducible apply pw_below_drewN | with_reducible apply below_alloc | (with_reducible refine below_set ?_ _ (by omega) _ _))
end Go.Proofs.Ytpnkeealojgpcaa.A
