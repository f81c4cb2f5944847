import Derived.Test.YtpnkeealojgpcaaXK
import Derived.WalkSpells
/- What clocks do, as plain functions; the contracts of the package clock. No condition beside the ranges that each theorem names. -/
namespace Go.Proofs.Ytpnkeealojgpcaa.A
open Go.RowKit Go.Proofs.YtpnkeealojgpcaaW.PrintWords Go.Proofs.YtpnkeealojgpcaaW.PrintLast Go.Proofs.YtpnkeealojgpcaaW.PrintMore
open Go.Proofs.Ytpnkeealojgpcaa.XK
attribute [local go_sem] max2_int min2_int max_two min_two max_three min_three max_four min_four
set_option linter.unusedVariables false
set_option linter.unusedSimpArgs false

theorem w64 {n : Int} (h0 : -9223372036854775808 ≤ n) (h1 : n ≤ 9223372036854775807) : wrap64 n = n := by unfold wrap64; omega

/-- A drift, clamped. -/
def cl (d : Int) : Int := if 100 < (if d < -100 then -100 else d) then 100 else (if d < -100 then -100 else d)
theorem cl_bd (d : Int) : -100 ≤ cl d ∧ cl d ≤ 100 := by unfold cl; split <;> split <;> omega
/-- What Step makes of the time, the rest and the steps. -/
def gainQ (r d : Int) : Int := (r + 20000 * cl d) / 1000000
def gainR (r d : Int) : Int := (r + 20000 * cl d) % 1000000
theorem gain_bd (r d : Int) (hr : 0 ≤ r ∧ r ≤ 999999) : -2 ≤ gainQ r d ∧ gainQ r d ≤ 2 ∧ 0 ≤ gainR r d ∧ gainR r d ≤ 999999 ∧ 1000000 * gainQ r d + gainR r d = r + 20000 * cl d := by
  have h := cl_bd d
  unfold gainQ gainR
  omega

theorem split_f (n : Int) (h : -9223372036854775807 ≤ n ∧ n ≤ 9223372036854775807) : clock_split.f n = some (n / 1000000, n % 1000000) := by
  unfold clock_split.f
  have e := Int.mul_tdiv_add_tmod n 1000000
  have r1 := Int.lt_tmod_of_pos n (show (0 : Int) < 1000000 by omega)
  have r2 := Int.tmod_lt_of_pos n (show (0 : Int) < 1000000 by omega)
  generalize n.tdiv 1000000 = q at *
  generalize n.tmod 1000000 = m at *
  by_cases hm : m < 0
  · rw [if_pos hm, w64 (n := q) (by omega) (by omega), w64 (n := q - 1) (by omega) (by omega), w64 (by omega) (by omega)]
    congr 2 <;> omega
  · rw [if_neg hm, w64 (n := q) (by omega) (by omega)]
    congr 2 <;> omega
theorem split_calls (n : Int) (h : -9223372036854775807 ≤ n ∧ n ≤ 9223372036854775807) (w : World) :
    Calls Try.prog 24 #[.int .i64 n] w fun e w' => e = .returned (.tuple #[.int .i64 (n / 1000000), .int .i64 (n % 1000000)]) ∧ Drawn0 w w' :=
  clock_split.calls n _ _ w (split_f n h)

set_option maxHeartbeats 1000000 in
theorem gain_calls (t r e s by_ : Int) (k : Bool) (b : Nat) (w : World) (hb : w.heap[b]? = some (.cells #[.int .i64 t, .int .i64 r, .bool k, .int .i64 e, .int .i64 s] 25 (0, 0))) :
    Calls Try.prog 23 #[.pointer (some ⟨b, 0, none⟩), .int .i64 by_] w fun e' w' => e' = .returned (.tuple #[]) ∧ w' = w.setCell ⟨b, 0, none⟩ (.int .i64 (wrap64 (t + by_))) := by
  have h0 : w.cell? ⟨b, 0, none⟩ = some (.int .i64 t) := blk_cell hb 0
  have h1 : w.frozen? ⟨b, 0, none⟩ = false := blk_frozen hb 0
  clear hb
  go_enter Try.func23, Try.ntmps23
  go_wp2
  go_end0
  exact ⟨rfl, rfl⟩

theorem below_set {B : Nat} {a w : World} (h : Below B a w) (b : Nat) (hb : B ≤ b) (j : Nat) (u : Value) : Below B a (w.setCell ⟨b, j, none⟩ u) := h.setCell hb u
def stepS (k : Bool) (s : Int) : Int := if k = true then s + 1 else s
theorem put0 {w : World} {b : Nat} {v0 v1 v2 v3 v4 : Value} (hb : w.heap[b]? = some (.cells #[v0, v1, v2, v3, v4] 25 (0, 0))) (u : Value) : (w.setCell ⟨b, 0, none⟩ u).heap[b]? = some (.cells #[u, v1, v2, v3, v4] 25 (0, 0)) := blk_set hb 0 u
theorem put1 {w : World} {b : Nat} {v0 v1 v2 v3 v4 : Value} (hb : w.heap[b]? = some (.cells #[v0, v1, v2, v3, v4] 25 (0, 0))) (u : Value) : (w.setCell ⟨b, 1, none⟩ u).heap[b]? = some (.cells #[v0, u, v2, v3, v4] 25 (0, 0)) := blk_set hb 1 u
theorem put4 {w : World} {b : Nat} {v0 v1 v2 v3 v4 : Value} (hb : w.heap[b]? = some (.cells #[v0, v1, v2, v3, v4] 25 (0, 0))) (u : Value) : (w.setCell ⟨b, 4, none⟩ u).heap[b]? = some (.cells #[v0, v1, v2, v3, u] 25 (0, 0)) := blk_set hb 4 u

set_option maxHeartbeats 2000000 in
theorem step_calls (t r e s d : Int) (k : Bool) (w : World) (ht : -4611686018427387904 ≤ t ∧ t ≤ 4611686018427387904) (hr : 0 ≤ r ∧ r ≤ 999999) (hs : -4611686018427387904 ≤ s ∧ s ≤ 4611686018427387904) :
    Calls Try.prog 11 #[.agg #[.int .i64 t, .int .i64 r, .bool k, .int .i64 e, .int .i64 s], .int .i64 d] w fun e' w' =>
      e' = .returned (.agg #[.int .i64 (t + 20000 + gainQ r d), .int .i64 (gainR r d), .bool k, .int .i64 e, .int .i64 (stepS k s)]) ∧ Below w.heap.size w w' := by
  obtain ⟨x1, h1⟩ : ∃ x, (if d < -100 then -100 else d) = x := ⟨_, rfl⟩
  obtain ⟨x2, h2⟩ : ∃ x, (if 100 < x1 then 100 else x1) = x := ⟨_, rfl⟩
  have hx : x2 = cl d := by rw [← h2, ← h1]; rfl
  have hg := gain_bd r d hr
  have hc := cl_bd d
  rw [← hx] at hc
  have HG : Aside0 (gainQ r d = (r + 20000 * x2) / 1000000 ∧ gainR r d = (r + 20000 * x2) % 1000000) := ⟨by rw [hx]; exact ⟨rfl, rfl⟩⟩
  clear hx
  go_enter Try.func11, Try.ntmps11
  go_wp2_with fail
  with_reducible refine (gain_calls t r e s 20000 k _ _ (blk_alloc (heap_alloc_new w _) _)).mono ?_
  rintro e' w' ⟨rfl, rfl⟩
  have e1 : wrap64 (t + 20000) = t + 20000 := w64 (by omega) (by omega)
  rw [e1]
  clear e1
  go_wp2_with fail
  with_reducible refine (split_calls _ (by omega) _).mono ?_
  rw [← HG.out.1, ← HG.out.2]
  rintro e' w' ⟨rfl, ⟨nd, rfl⟩⟩
  have ⟨q1, q2, r1, r2, _⟩ := hg
  clear hg
  obtain ⟨q, hq⟩ : ∃ q, gainQ r d = q := ⟨_, rfl⟩
  obtain ⟨rr, hrr⟩ : ∃ q, gainR r d = q := ⟨_, rfl⟩
  have HQ := Aside0.mk hq
  have HRR := Aside0.mk hrr
  rw [hq] at q1 q2 ⊢
  rw [hrr] at r1 r2 ⊢
  clear hq hrr
  go_wp2_with fail
  with_reducible refine (gain_calls (t + 20000) r e s q k _ _ (blk_drewN (blk_alloc (heap_alloc_new w _) _) nd)).mono ?_
  rintro e' w' ⟨rfl, rfl⟩
  have e1 : wrap64 (t + 20000 + q) = t + 20000 + q := w64 (by omega) (by omega)
  rw [e1]
  clear e1
  cases k with
  | false =>
    go_wp2_with fail
    refine bodyPost_ret (v := .agg #[.int .i64 (t + 20000 + q), .int .i64 rr, .bool false, .int .i64 e, .int .i64 s]) (by simp [results, Try.results11, go_sem]) rfl ⟨?_, ?_⟩
    · rw [HQ.out, HRR.out]; rfl
    · repeat (first | with_reducible exact Below.refl _ _ | with_reducible apply pw_below_drewN | with_reducible apply below_alloc | (with_reducible refine below_set ?_ _ (by omega) _ _))
  | true =>
    go_wp2_with fail
    refine bodyPost_ret (v := .agg #[.int .i64 (t + 20000 + q), .int .i64 rr, .bool true, .int .i64 e, .int .i64 (s + 1)]) (by simp [results, Try.results11, go_sem]) rfl ⟨?_, ?_⟩
    · rw [HQ.out, HRR.out]; rfl
    · repeat (first | with_reducible exact Below.refl _ _ | with_reducible apply pw_below_drewN | with_reducible apply below_alloc | (with_reducible refine below_set ?_ _ (by omega) _ _))
end Go.Proofs.Ytpnkeealojgpcaa.A
