import Derived.Test.YtcehcblhmgeonaaB
/- The contracts of the reference's Cubic, of known, within and fraction; no condition. -/
namespace Go.Proofs.Ytcehcblhmgeonaa.A
open Go.RowKit Go.Proofs.YtcehcblhmgeonaaW.PrintWords Go.Proofs.YtcehcblhmgeonaaW.PrintLast Go.Proofs.YtcehcblhmgeonaaW.PrintMore
attribute [local go_sem] max2_int min2_int max_two min_two max_three min_three max_four min_four

theorem cubOk_all (s0 s1 s2 s3 num den : Int) : cubOk s0 s1 s2 s3 num den = ([s0, s1, s2, s3].all inS && frac num den) := by
  simp [cubOk, Bool.and_assoc]
theorem all_four {s0 s1 s2 s3 : Int} (h : ∀ j, j < 4 → inS ([s0, s1, s2, s3].getD j 0) = true) : [s0, s1, s2, s3].all inS = true := by
  have h0 := h 0 (by omega)
  have h1 := h 1 (by omega)
  have h2 := h 2 (by omega)
  have h3 := h 3 (by omega)
  simp at h0 h1 h2 h3
  simp [h0, h1, h2, h3]
theorem all_not {s0 s1 s2 s3 : Int} (j : Nat) (hj : j < 4) (h : inS ([s0, s1, s2, s3].getD j 0) = false) : [s0, s1, s2, s3].all inS = false := by
  match j, hj with
  | 0, _ => simp at h; simp [h]
  | 1, _ => simp at h; simp [h]
  | 2, _ => simp at h; simp [h]
  | 3, _ => simp at h; simp [h]

set_option maxHeartbeats 1000000 in
theorem rcubic_calls (s0 s1 s2 s3 num den : Int) (w : World) :
    Calls Try.prog 18 #[.agg #[.int .i64 s0, .int .i64 s1, .int .i64 s2, .int .i64 s3], .int .i64 num, .int .i64 den] w fun e w' =>
      e = .returned (.tuple #[.int .i64 (cubA s0 s1 s2 s3 num den), .int .i64 (cubB s0 s1 s2 s3 num den), .int .i64 (errE (cubOk s0 s1 s2 s3 num den))]) ∧ Below w.heap.size w w' := by
  go_enter Try.func18, Try.ntmps18
  go_wp2_with fail
  go_loopw [9] (fun i wr => ∃ k : Nat, k ≤ 4 ∧ i = .int .i64 k ∧ Aside0 (∀ j, j < k → inS ([s0, s1, s2, s3].getD j 0) = true) ∧ ∃ n, wr = (w.alloc (.cells #[.int .i64 s0, .int .i64 s1, .int .i64 s2, .int .i64 s3] 22)).drewN n)
     (fun i _ => 4 - (intOf i).toNat)
  case atStart => exact ⟨0, by omega, rfl, ⟨fun j hj => by omega⟩, 0, rfl⟩
  case round =>
    obtain ⟨k, hk, rfl, HA, n, rfl⟩ := hrel
    by_cases hlt : k < 4
    · have hc : ((w.alloc (.cells #[.int .i64 s0, .int .i64 s1, .int .i64 s2, .int .i64 s3] 22)).drewN n).cell? ⟨w.heap.size, k, none⟩ = some (.int .i64 ([s0, s1, s2, s3].getD k 0)) := by
        match k, hlt with
        | 0, _ => simp
        | 1, _ => simp
        | 2, _ => simp
        | 3, _ => simp
      obtain ⟨x, hx⟩ : ∃ x, [s0, s1, s2, s3].getD k 0 = x := ⟨_, rfl⟩
      rw [hx] at hc
      have HX := Aside0.mk hx
      clear hx
      obtain ⟨b, hb⟩ : ∃ b, inS x = b := ⟨_, rfl⟩
      have HBb := Aside0.mk hb
      clear hb
      go_wp2_with fail
      refine (rsample_calls _ _).mono ?_
      rw [HBb.out]
      rintro e w' ⟨rfl, ⟨nd, rfl⟩⟩
      cases b with
      | false =>
        go_wp2_with fail
        go_ret3
        have h1 := HX.out
        have h2 := HBb.out
        have ok : cubOk s0 s1 s2 s3 num den = false := by rw [cubOk_all, all_not k hlt (by rw [h1]; exact h2)]; rfl
        exact ⟨by simp [cubA, cubB, errE, ok], by repeat (first | exact Below.refl _ _ | apply below_alloc | apply pw_below_drewN)⟩
      | true =>
        go_wp2_with fail
        go_roundw
        case rel =>
          refine ⟨k + 1, by omega, by go_num, ⟨fun j hj => ?_⟩, n + nd, by simp⟩
          rcases Nat.lt_succ_iff_lt_or_eq.1 hj with h | h
          · exact HA.out j h
          · subst h
            rw [HX.out]; exact HBb.out
        case measure => simp [intOf]; omega
    · obtain rfl : k = 4 := by omega
      have HS := Aside0.mk (all_four HA.out)
      clear HA hlt hk
      obtain ⟨f, hf⟩ : ∃ f, frac num den = f := ⟨_, rfl⟩
      have HO : Aside0 (cubOk s0 s1 s2 s3 num den = f) := ⟨by rw [cubOk_all, HS.out, hf]; rfl⟩
      have HF := Aside0.mk hf
      cases f with
      | false =>
        clear hf
        go_wp2_with fail
        refine (rfrac_calls _ _ _).mono ?_
        rw [HF.out]
        rintro e w' ⟨rfl, ⟨nd2, rfl⟩⟩
        go_wp2_with fail
        go_ret3
        have ok := HO.out
        exact ⟨by simp [cubA, cubB, errE, ok], by repeat (first | exact Below.refl _ _ | apply below_alloc | apply pw_below_drewN)⟩
      | true =>
        have HN := Aside0.mk (cubN_bd HO.out)
        have HD := Aside0.mk (cubD_wrap hf)
        clear hf
        go_wp2_with fail
        refine (rfrac_calls _ _ _).mono ?_
        rw [HF.out]
        rintro e w' ⟨rfl, ⟨nd2, rfl⟩⟩
        go_wp2_with fail
        rw [HN.out.2.1, HD.out.1]
        refine (lowest_calls _ _ _ (by have := HN.out.2.2.1; omega) (by have := HN.out.2.2.2; omega) HD.out.2.1 (by have := HD.out.2.2; omega)).mono ?_
        rintro e w' ⟨rfl, HB⟩
        have HB2 := Aside0.mk HB
        clear HB
        go_wp2_with fail
        go_ret3
        have ok := HO.out
        exact ⟨by simp [cubA, cubB, errE, ok], below_then (by repeat (first | exact Below.refl _ _ | apply below_alloc | apply pw_below_drewN)) (by simp) HB2.out⟩

theorem known_vals : cubA 0 1 8 27 1 2 = 27 ∧ cubB 0 1 8 27 1 2 = 8 ∧ errE (cubOk 0 1 8 27 1 2) = 0 := by decide +kernel

set_option maxHeartbeats 1000000 in
theorem known_calls (w : World) : Calls Try.prog 10 #[] w fun e w' => e = .returned (.bool true) ∧ Below w.heap.size w w' := by
  go_enter Try.func10, Try.ntmps10
  go_wp2_with fail
  refine (cubic_calls 0 1 8 27 1 2 _).mono ?_
  rw [known_vals.1, known_vals.2.1, known_vals.2.2]
  rintro e w' ⟨rfl, HB⟩
  have HB2 := Aside0.mk HB
  clear HB
  go_wp2_with fail
  go_ret
  exact ⟨rfl, HB2.out⟩

theorem within_f (n m : Int) (hm : 0 < m) (hm2 : m ≤ 4611686018427387904) : PResampleLowest.substationlaw19_within.f n m = some (n % m) := by
  unfold PResampleLowest.substationlaw19_within.f
  rw [if_neg (by omega)]
  have hr : -m < n.tmod m ∧ n.tmod m < m := ⟨Int.lt_tmod_of_pos n hm, Int.tmod_lt_of_pos n hm⟩
  have e := Int.mul_tdiv_add_tmod n m
  have e2 := Int.emod_add_mul_ediv n m
  have r0 := Int.emod_nonneg n (show m ≠ 0 by omega)
  have r1 := Int.emod_lt_of_pos n hm
  have key : ∀ (x q q' y : Int), m * q + x = m * q' + y → 0 ≤ x → x < m → 0 ≤ y → y < m → x = y := by
    intro x q q' y h hx hx' hy hy'
    have h1 : (m * q + x) % m = x := by rw [Int.mul_add_emod_self_left]; exact Int.emod_eq_of_lt hx hx'
    have h2 : (m * q' + y) % m = y := by rw [Int.mul_add_emod_self_left]; exact Int.emod_eq_of_lt hy hy'
    rw [← h1, ← h2, h]
  by_cases h : n.tmod m < 0
  · rw [if_pos h, w64 (by omega) (by omega)]
    congr 1
    exact key _ (n.tdiv m - 1) (n / m) _ (by rw [Int.mul_sub]; omega) (by omega) (by omega) r0 r1
  · rw [if_neg h]
    congr 1
    exact key _ (n.tdiv m) (n / m) _ (by omega) (by omega) (by omega) r0 r1

theorem within_calls (n m : Int) (hm : 0 < m) (hm2 : m ≤ 4611686018427387904) (w : World) : Calls Try.prog 11 #[.int .i64 n, .int .i64 m] w fun e w' => e = .returned (.int .i64 (n % m)) ∧ Drawn0 w w' :=
  PResampleLowest.substationlaw19_within.calls n m _ w (within_f n m hm hm2)

def fracD (den : Int) : Int := 1 + den % 1000
def fracN (num den : Int) : Int := num % (fracD den + 1)
theorem fracD_range (den : Int) : 1 ≤ fracD den ∧ fracD den ≤ 1000 := by unfold fracD; omega
theorem fracN_range (num den : Int) : 0 ≤ fracN num den ∧ fracN num den ≤ fracD den := by
  have h := fracD_range den
  have r0 := Int.emod_nonneg num (show fracD den + 1 ≠ 0 by omega)
  have r1 := Int.emod_lt_of_pos num (show 0 < fracD den + 1 by omega)
  unfold fracN; omega
theorem frac_ok (num den : Int) : frac (fracN num den) (fracD den) = true := by
  have h := fracD_range den
  have h2 := fracN_range num den
  rw [frac_iff]; omega
theorem fraction_calls (num den : Int) (w : World) : Calls Try.prog 13 #[.int .i64 num, .int .i64 den] w fun e w' => e = .returned (.tuple #[.int .i64 (fracN num den), .int .i64 (fracD den)]) ∧ Drawn0 w w' :=
  PResampleLowest.substationlaw19_fraction.calls num den _ _ w (by
    have h := fracD_range den
    unfold PResampleLowest.substationlaw19_fraction.f
    rw [within_f den 1000 (by omega) (by omega)]
    simp only [Option.bind_some]
    have e : wrap64 (1 + den % 1000) = fracD den := by unfold fracD; rw [w64 (by omega) (by omega)]
    rw [e, w64 (n := fracD den + 1) (by omega) (by omega), within_f _ _ (by omega) (by omega)]
    rfl)
end Go.Proofs.Ytcehcblhmgeonaa.A
