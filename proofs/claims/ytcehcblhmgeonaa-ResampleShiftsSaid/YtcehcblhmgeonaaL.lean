import Derived.Test.YtcehcblhmgeonaaK
/- The contract of the reference's Shift; no condition. -/
namespace Go.Proofs.Ytcehcblhmgeonaa.A
open Go.RowKit Go.Proofs.YtcehcblhmgeonaaW.PrintWords Go.Proofs.YtcehcblhmgeonaaW.PrintLast Go.Proofs.YtcehcblhmgeonaaW.PrintMore
attribute [local go_sem] max2_int min2_int max_two min_two max_three min_three max_four min_four
set_option linter.unusedVariables false
set_option linter.unusedSimpArgs false

theorem all_of {l : List Int} (h : ∀ j, j < l.length → inS (l.getD j 0) = true) : l.all inS = true := by
  rw [List.all_eq_true]
  intro x hx
  obtain ⟨j, hj, rfl⟩ := List.getElem_of_mem hx
  have := h j hj
  rwa [List.getD_eq_getElem?_getD, List.getElem?_eq_getElem hj] at this
theorem not_all {l : List Int} (j : Nat) (hj : j < l.length) (h : inS (l.getD j 0) = false) : l.all inS = false := by
  rw [List.all_eq_false]
  exact ⟨l[j], List.getElem_mem hj, by rw [List.getD_eq_getElem?_getD, List.getElem?_eq_getElem hj] at h; simpa using h⟩

set_option maxRecDepth 100000 in
set_option maxHeartbeats 2000000 in
theorem rshift_early (A0 : Option Addr) (c0 : Nat) (l : List Int) (num den : Int) (w : World) (h : l.length < 2 ∨ 240 < l.length ∨ frac num den = false) :
    Calls Try.prog 21 #[.slice A0 l.length c0, .int .i64 num, .int .i64 den] w fun e w' =>
      e = .returned (.tuple #[.slice none 0 0, .int .i64 1]) ∧ Below w.heap.size w w' := by
  have HH := Aside0.mk h
  clear h
  by_cases l2 : l.length < 2
  · have f1 : decide ((l.length : Int) < 2) = true := by simp; omega
    have f1' : decide (l.length < 2) = true := by simp; omega
    go_enter Try.func21, Try.ntmps21
    go_wp2_with fail
    go_ret2
    exact ⟨rfl, Below.refl _ _⟩
  · have f1 : decide ((l.length : Int) < 2) = false := by simp; omega
    have f1' : decide (l.length < 2) = false := by simp; omega
    by_cases l240 : 240 < l.length
    · have f2 : decide (240 < (l.length : Int)) = true := by simp; omega
      have f2' : decide (240 < l.length) = true := by simp; omega
      go_enter Try.func21, Try.ntmps21
      go_wp2_with fail
      go_ret2
      exact ⟨rfl, Below.refl _ _⟩
    · have f2 : decide (240 < (l.length : Int)) = false := by simp; omega
      have f2' : decide (240 < l.length) = false := by simp; omega
      have HF : Aside0 (frac num den = false) := ⟨by
        rcases HH.out with h | h | h
        · omega
        · omega
        · exact h⟩
      go_enter Try.func21, Try.ntmps21
      go_wp2_with fail
      refine (rfrac_calls _ _ _).mono ?_
      rw [HF.out]
      rintro e w' ⟨rfl, ⟨nd2, rfl⟩⟩
      go_wp2_with fail
      go_ret2
      exact ⟨rfl, pw_below_drewN (Below.refl _ _) _⟩

set_option maxRecDepth 100000 in
set_option maxHeartbeats 4000000 in
theorem rshift_late (A0 : Option Addr) (c0 : Nat) (l : List Int) (num den : Int) (w : World) (hr : Kd.C (Kd.int .i64) w A0 l.length l) (hc : l.length ≤ c0) (l2 : 2 ≤ l.length) (l240 : l.length ≤ 240) (hf : frac num den = true) :
    Calls Try.prog 21 #[.slice A0 l.length c0, .int .i64 num, .int .i64 den] w fun e w' =>
      ∃ v, e = .returned (.tuple #[v, .int .i64 (errE (shOk l num den))]) ∧ Kd.R (Kd.int .i64) 3 w' w.heap.size (fun _ => True) v (shOut l num den) ∧ Below w.heap.size w w' := by
  have HR := Aside0.mk hr
  have HC := Aside0.mk hc
  have HF := Aside0.mk hf
  have f1 : decide ((l.length : Int) < 2) = false := by simp; omega
  have f2 : decide (240 < (l.length : Int)) = false := by simp; omega
  have f1' : decide (l.length < 2) = false := by simp; omega
  have f2' : decide (240 < l.length) = false := by simp; omega
  obtain ⟨ad, hA, hcell⟩ := (Kd.reads_of_C (enc := Value.int .i64) (d := (0 : Int)) (h1 := fun _ => rfl) hr).2.2 (by omega)
  subst hA
  have HX := Aside0.mk hcell
  clear hr hc hf hcell
  go_enter Try.func21, Try.ntmps21
  go_wp2_with fail
  refine (rfrac_calls _ _ _).mono ?_
  rw [HF.out]
  rintro e w' ⟨rfl, ⟨nd2, rfl⟩⟩
  go_wp2_with fail
  go_loopw [9] (fun i wr => ∃ k : Nat, k ≤ l.length ∧ i = .int .i64 k ∧ Aside0 (∀ j, j < k → inS (l.getD j 0) = true) ∧ ∃ n, wr = w.drewN n)
     (fun i _ => l.length - (intOf i).toNat)
  case atStart => exact ⟨0, by omega, rfl, ⟨fun j hj => by omega⟩, _, rfl⟩
  case round =>
    obtain ⟨k, hk, rfl, HA, n, rfl⟩ := hrel
    by_cases hlt : k < l.length
    · have t1 : decide ((k : Int) < (l.length : Int)) = true := by simp; omega
      have q := HX.out k hlt
      obtain ⟨x, hx⟩ : ∃ x, l.getD k 0 = x := ⟨_, rfl⟩
      rw [hx] at q
      have HXk := Aside0.mk hx
      clear hx
      obtain ⟨b, hb⟩ : ∃ b, inS x = b := ⟨_, rfl⟩
      have HBb := Aside0.mk hb
      clear hb
      go_wp2_with fail
      refine (rsample_calls _ _).mono ?_
      rw [HBb.out]
      rintro e w' ⟨rfl, ⟨nd, rfl⟩⟩
      cases b with
      | false =>
        go_wp2_with fail
        go_ret2
        have h1 := HXk.out
        have h2 := HBb.out
        have ok : shOk l num den = false := by rw [shOk, not_all k hlt (by rw [h1]; exact h2), Bool.and_false, Bool.false_and]
        rw [ok]
        exact ⟨_, rfl, by rw [shOut, ok]; exact Kd.R_nil _ _ _ _ _, pw_below_drewN (Below.refl _ _) _⟩
      | true =>
        go_wp2_with fail
        go_roundw
        case rel =>
          refine ⟨k + 1, by omega, by go_num, ⟨fun j hj => ?_⟩, n + nd, by simp⟩
          rcases Nat.lt_succ_iff_lt_or_eq.1 hj with h | h
          · exact HA.out j h
          · subst h
            rw [HXk.out]; exact HBb.out
        case measure => simp [intOf]; omega
    · obtain rfl : k = l.length := by omega
      have HS := Aside0.mk (all_of HA.out)
      have HO : Aside0 (shOk l num den = true) := ⟨by rw [shOk, HS.out, HF.out]; simp; omega⟩
      have hl1 : (shL l num den).length = l.length - 1 := by simp [shL]
      have HL1 := Aside0.mk hl1
      clear hl1 HA hlt hk
      go_wp2_with fail
      go_loopw [10, 11] (fun v i wr => ∃ k : Nat, k ≤ l.length - 1 ∧ i = .int .i64 k ∧ Aside0 (Kd.R (Kd.int .i64) 3 wr w.heap.size (fun _ => True) v ((shL l num den).take k)) ∧ Aside0 (Below w.heap.size w wr))
        (fun _ i _ => l.length - 1 - (intOf i).toNat)
      case atStart => exact ⟨0, by omega, rfl, ⟨by rw [List.take_zero]; exact Kd.R_nil _ _ _ _ _⟩, ⟨pw_below_drewN (Below.refl _ _) _⟩⟩
      case round =>
        obtain ⟨k, hk, rfl, HV, HB⟩ := hrel
        obtain ⟨ys, hys⟩ : ∃ ys, (shL l num den).take k = ys := ⟨_, rfl⟩
        rw [hys] at HV
        have HY := Aside0.mk hys
        clear hys
        obtain ⟨A1, c1, rfl⟩ := Kd.R_slice HV.out
        have e0 : wrap64 ((l.length : Int) - 1) = (l.length : Int) - 1 := w64 (by omega) (by omega)
        by_cases hlt : k < l.length - 1
        · have t1 : decide ((k : Int) < (l.length : Int) - 1) = true := by simp; omega
          have q0 := pw_cell_below HB.out (HX.out k (by omega))
          have q1 := pw_cell_below HB.out (HX.out (k + 1) (by omega))
          rw [Addr.add_succ'] at q1
          have b1 : k < l.length := by omega
          have b2 : wrap64 ((k : Int) + 1) = (k : Int) + 1 := w64 (by omega) (by omega)
          have b3 : (0 : Int) ≤ (k : Int) + 1 := by omega
          have b4 : (k : Int) + 1 < (l.length : Int) := by omega
          have b5 : ((k : Int) + 1).toNat = k + 1 := by omega
          have hl : (if 1 ≤ k ∧ k + 2 < l.length then True else True) := by split <;> trivial
          obtain ⟨x0, hx0⟩ : ∃ x, l.getD k 0 = x := ⟨_, rfl⟩
          obtain ⟨x1, hx1⟩ : ∃ x, l.getD (k + 1) 0 = x := ⟨_, rfl⟩
          rw [hx0] at q0
          rw [hx1] at q1
          have HX0 := Aside0.mk hx0
          have HX1 := Aside0.mk hx1
          clear hx0 hx1 hl
          go_wp2_with fail
          refine start_ (n := 19) (S := fun w' => w'.cell? (ad.add k) = some (.int .i64 x0) ∧ w'.cell? ⟨ad.block, ad.off + (k + 1), none⟩ = some (.int .i64 x1)) (ds := [11]) #[false, false, false, false, false, false, false, false, false, false, false, false, false, false, false, false, false, false, false] (by kernel_rfl) rfl rfl ⟨(by simpa using q0), (by simpa using q1)⟩ (fun hHeld => ?_)
          refine pure_ (i := 0) (N := some 49) (v := ?_) (a' := ?_) #[true, false, false, false, false, false, false, false, false, false, false, false, false, false, false, false, false, false, false] rfl rfl (by kernel_rfl) (fun _ _ _ h => h) (Or.inl ⟨by rfl, ?_⟩) ?_ ?_
          rotate_left
          · intro w'
            go_simp
            with_reducible rfl
          rotate_left
          · simp only [Act.put, List.setIfInBounds_toArray, List.set_cons_zero, List.set_cons_succ, i64_w, i32_w]
            rfl
          refine pure_ (i := 1) (N := some 50) (v := ?_) (a' := ?_) #[true, true, false, false, false, false, false, false, false, false, false, false, false, false, false, false, false, false, false] rfl rfl (by kernel_rfl) (fun _ _ _ h => h) (Or.inl ⟨by rfl, ?_⟩) ?_ ?_
          rotate_left
          · intro w'
            go_simp
            with_reducible rfl
          rotate_left
          · simp only [Act.put, List.setIfInBounds_toArray, List.set_cons_zero, List.set_cons_succ, i64_w, i32_w]
            rfl
          refine pure_ (i := 2) (N := some 51) (v := ?_) (a' := ?_) #[true, true, true, false, false, false, false, false, false, false, false, false, false, false, false, false, false, false, false] rfl rfl (by kernel_rfl) (fun _ _ _ h => h) (Or.inl ⟨by rfl, ?_⟩) ?_ ?_
          rotate_left
          · intro w'
            go_simp
            with_reducible rfl
          rotate_left
          · simp only [Act.put, List.setIfInBounds_toArray, List.set_cons_zero, List.set_cons_succ, i64_w, i32_w]
            rfl
          refine pure_ (i := 4) (N := some 53) (v := ?_) (a' := ?_) #[true, true, true, false, true, false, false, false, false, false, false, false, false, false, false, false, false, false, false] rfl rfl (by kernel_rfl) (fun _ _ _ h => h) (Or.inl ⟨by rfl, ?_⟩) ?_ ?_
          rotate_left
          · intro w'
            go_simp
            with_reducible rfl
          rotate_left
          · simp only [Act.put, List.setIfInBounds_toArray, List.set_cons_zero, List.set_cons_succ, i64_w, i32_w]
            rfl
          refine pure_ (i := 5) (N := some 54) (v := ?_) (a' := ?_) #[true, true, true, false, true, true, false, false, false, false, false, false, false, false, false, false, false, false, false] rfl rfl (by kernel_rfl) (fun _ _ _ h => h) (Or.inl ⟨by rfl, ?_⟩) ?_ ?_
          rotate_left
          · intro w'
            go_simp
            with_reducible rfl
          rotate_left
          · simp only [Act.put, List.setIfInBounds_toArray, List.set_cons_zero, List.set_cons_succ, i64_w, i32_w]
            rfl
          refine pure_ (i := 6) (N := some 55) (v := ?_) (a' := ?_) #[true, true, true, false, true, true, true, false, false, false, false, false, false, false, false, false, false, false, false] rfl rfl (by kernel_rfl) (fun _ _ _ h => h) (Or.inl ⟨by rfl, ?_⟩) ?_ ?_
          rotate_left
          · intro w'
            go_simp
            with_reducible rfl
          rotate_left
          · simp only [Act.put, List.setIfInBounds_toArray, List.set_cons_zero, List.set_cons_succ, i64_w, i32_w]
            rfl
          refine pure_ (i := 7) (N := some 56) (v := ?_) (a' := ?_) #[true, true, true, false, true, true, true, true, false, false, false, false, false, false, false, false, false, false, false] rfl rfl (by kernel_rfl) (fun _ _ _ h => h) (Or.inl ⟨by rfl, ?_⟩) ?_ ?_
          rotate_left
          · intro w'
            go_simp
            with_reducible rfl
          rotate_left
          · simp only [Act.put, List.setIfInBounds_toArray, List.set_cons_zero, List.set_cons_succ, i64_w, i32_w]
            rfl
          refine pure_ (i := 9) (N := some 58) (v := ?_) (a' := ?_) #[true, true, true, false, true, true, true, true, false, true, false, false, false, false, false, false, false, false, false] rfl rfl (by kernel_rfl) (fun _ _ _ h => h) (Or.inl ⟨by rfl, ?_⟩) ?_ ?_
          rotate_left
          · intro w'
            go_simp
            with_reducible rfl
          rotate_left
          · simp only [Act.put, List.setIfInBounds_toArray, List.set_cons_zero, List.set_cons_succ, i64_w, i32_w]
            rfl
          refine pure_ (i := 10) (N := some 59) (v := ?_) (a' := ?_) #[true, true, true, false, true, true, true, true, false, true, true, false, false, false, false, false, false, false, false] rfl rfl (by kernel_rfl) (fun _ _ _ h => h) (Or.inl ⟨by rfl, ?_⟩) ?_ ?_
          rotate_left
          · intro w'
            go_simp
            with_reducible rfl
          rotate_left
          · simp only [Act.put, List.setIfInBounds_toArray, List.set_cons_zero, List.set_cons_succ, i64_w, i32_w]
            rfl
          refine take_ (i := 3) (N := some 52) (v := ?_) (a' := ?_) #[true, true, true, true, true, true, true, true, false, true, true, false, false, false, false, false, false, false, false] rfl rfl (by kernel_rfl) (fun _ _ _ h => h) (Or.inl ⟨by rfl, ?_⟩) hHeld ?_ ?_
          rotate_left
          · rintro w' ⟨s0, s1⟩
            go_simp
            with_reducible rfl
          rotate_left
          · simp only [Act.put, List.setIfInBounds_toArray, List.set_cons_zero, List.set_cons_succ, i64_w, i32_w]
            rfl
          refine take_ (i := 8) (N := some 57) (v := ?_) (a' := ?_) #[true, true, true, true, true, true, true, true, true, true, true, false, false, false, false, false, false, false, false] rfl rfl (by kernel_rfl) (fun _ _ _ h => h) (Or.inl ⟨by rfl, ?_⟩) hHeld ?_ ?_
          rotate_left
          · rintro w' ⟨s0, s1⟩
            go_simp
            with_reducible rfl
          rotate_left
          · simp only [Act.put, List.setIfInBounds_toArray, List.set_cons_zero, List.set_cons_succ, i64_w, i32_w]
            rfl
          refine last_ (i := 11) (N := some 60) #[true, true, true, true, true, true, true, true, true, true, true, true, false, false, false, false, false, false, false] rfl rfl (by kernel_rfl) (by decide) (fun K hK => ?_)
          refine goes_ Try.func17 (by kernel_rfl) rfl #[.int .i64 x0, .int .i64 x1, .int .i64 num, .int .i64 den] (by rfl) rfl rfl (by simp only [List.map_toArray, List.map_cons, List.map_nil]; rfl) ?_
          with_reducible refine (rlinear_calls _ _ _ _ _).mono ?_
          rintro e w4 ⟨rfl, HB'⟩
          refine ⟨_, rfl, ?_⟩
          refine hK.out _ _ ?_
          clear hK K
          refine norm_ (a' := ?_) ?_ ?_
          rotate_left
          · show Act.put _ (some 60) _ = _
            simp only [Act.put, List.setIfInBounds_toArray, List.set_cons_zero, List.set_cons_succ, i64_w, i32_w]
            rfl
          refine pure_ (i := 12) (N := some 48) (v := ?_) (a' := ?_) #[true, true, true, true, true, true, true, true, true, true, true, true, true, false, false, false, false, false, false] rfl rfl (by kernel_rfl) (fun _ _ _ h => h) (Or.inl ⟨by rfl, ?_⟩) ?_ ?_
          rotate_left
          · intro w'
            go_simp
            with_reducible rfl
          rotate_left
          · simp only [Act.put, List.setIfInBounds_toArray, List.set_cons_zero, List.set_cons_succ, i64_w, i32_w]
            rfl
          refine pure_ (i := 13) (N := some 61) (v := ?_) (a' := ?_) #[true, true, true, true, true, true, true, true, true, true, true, true, true, true, false, false, false, false, false] rfl rfl (by kernel_rfl) (fun _ _ _ h => h) (Or.inl ⟨by rfl, ?_⟩) ?_ ?_
          rotate_left
          · intro w'
            go_simp
            with_reducible rfl
          rotate_left
          · simp only [Act.put, List.setIfInBounds_toArray, List.set_cons_zero, List.set_cons_succ, i64_w, i32_w]
            rfl
          refine pure_ (i := 14) (N := some 62) (v := ?_) (a' := ?_) #[true, true, true, true, true, true, true, true, true, true, true, true, true, true, true, false, false, false, false] rfl rfl (by kernel_rfl) (fun _ _ _ h => h) (Or.inl ⟨by rfl, ?_⟩) ?_ ?_
          rotate_left
          · intro w'
            go_simp
            with_reducible rfl
          rotate_left
          · simp only [Act.put, List.setIfInBounds_toArray, List.set_cons_zero, List.set_cons_succ, i64_w, i32_w]
            rfl
          refine pure_ (i := 15) (N := some 63) (v := ?_) (a' := ?_) #[true, true, true, true, true, true, true, true, true, true, true, true, true, true, true, true, false, false, false] rfl rfl (by kernel_rfl) (fun _ _ _ h => h) (Or.inl ⟨by rfl, ?_⟩) ?_ ?_
          rotate_left
          · intro w'
            go_simp
            with_reducible rfl
          rotate_left
          · simp only [Act.put, List.setIfInBounds_toArray, List.set_cons_zero, List.set_cons_succ, i64_w, i32_w]
            rfl
          refine pure_ (i := 16) (N := some 12) (v := ?_) (a' := ?_) #[true, true, true, true, true, true, true, true, true, true, true, true, true, true, true, true, true, false, false] rfl rfl (by kernel_rfl) (fun _ _ _ h => h) (Or.inl ⟨by rfl, ?_⟩) ?_ ?_
          rotate_left
          · intro w'
            go_simp
            with_reducible rfl
          rotate_left
          · simp only [Act.put, List.setIfInBounds_toArray, List.set_cons_zero, List.set_cons_succ, i64_w, i32_w]
            rfl
          refine pure_ (i := 17) (N := some 13) (v := ?_) (a' := ?_) #[true, true, true, true, true, true, true, true, true, true, true, true, true, true, true, true, true, true, false] rfl rfl (by kernel_rfl) (fun _ _ _ h => h) (Or.inl ⟨by rfl, ?_⟩) ?_ ?_
          rotate_left
          · intro w'
            go_simp
            with_reducible rfl
          rotate_left
          · simp only [Act.put, List.setIfInBounds_toArray, List.set_cons_zero, List.set_cons_succ, i64_w, i32_w]
            rfl
          refine pure_ (i := 18) (N := some 14) (v := ?_) (a' := ?_) #[true, true, true, true, true, true, true, true, true, true, true, true, true, true, true, true, true, true, true] rfl rfl (by kernel_rfl) (fun _ _ _ h => h) (Or.inl ⟨by rfl, ?_⟩) ?_ ?_
          rotate_left
          · intro w'
            go_simp
            with_reducible rfl
          rotate_left
          · simp only [Act.put, List.setIfInBounds_toArray, List.set_cons_zero, List.set_cons_succ, i64_w, i32_w]
            rfl
          refine done_ (by kernel_rfl) ?_
          have HB := Aside0.mk (below_step (pw_below_drewN HB.out 1) HB')
          have HV := Aside0.mk (Kd.R_below (Kd.R_drew HV.out) HB')
          clear HB' b1 b2 b3 b4 b5 q0 q1
          by_cases hm : 1 ≤ k ∧ k + 2 < l.length
          · obtain ⟨m1, m2⟩ := hm
            have t2 : decide ((1 : Int) ≤ (k : Int)) = true := by simp; omega
            have t3 : decide ((k : Int) + 2 < (l.length : Int)) = true := by simp; omega
            obtain ⟨x2, hx2⟩ : ∃ x, l.getD (k + 2) 0 = x := ⟨_, rfl⟩
            obtain ⟨y0, hy0⟩ : ∃ x, l.getD (k - 1) 0 = x := ⟨_, rfl⟩
            have q0 := pw_cell_below HB.out (HX.out k (by omega))
            have q1 := pw_cell_below HB.out (HX.out (k + 1) (by omega))
            have q2 := pw_cell_below HB.out (HX.out (k + 2) (by omega))
            have q3 := pw_cell_below HB.out (HX.out (k - 1) (by omega))
            rw [Addr.add_succ'] at q1 q2
            rw [HX0.out] at q0
            rw [HX1.out] at q1
            rw [hx2] at q2
            rw [hy0] at q3
            have hval : Aside0 (shV l num den k = nearV (cubA y0 x0 x1 x2 num den) (cubB y0 x0 x1 x2 num den)) := ⟨by rw [shV, if_pos ⟨m1, m2⟩, HX0.out, HX1.out, hx2, hy0]⟩
            clear hx2 hy0
            have b1 : k < l.length := by omega
            have b2 : wrap64 ((k : Int) + 1) = (k : Int) + 1 := w64 (by omega) (by omega)
            have b3 : (0 : Int) ≤ (k : Int) + 1 := by omega
            have b4 : (k : Int) + 1 < (l.length : Int) := by omega
            have b5 : ((k : Int) + 1).toNat = k + 1 := by omega
            have c2 : wrap64 ((k : Int) + 2) = (k : Int) + 2 := w64 (by omega) (by omega)
            have c3 : (0 : Int) ≤ (k : Int) + 2 := by omega
            have c4 : (k : Int) + 2 < (l.length : Int) := by omega
            have c5 : ((k : Int) + 2).toNat = k + 2 := by omega
            have d2 : wrap64 ((k : Int) - 1) = (k : Int) - 1 := w64 (by omega) (by omega)
            have d3 : (1 : Int) ≤ (k : Int) := by omega
            have d4 : (k : Int) - 1 < (l.length : Int) := by omega
            have d5 : ((k : Int) - 1).toNat = k - 1 := by omega
            go_wp2_with fail
            refine start_ (n := 29) (S := fun w' => w'.cell? (ad.add k) = some (.int .i64 x0) ∧ w'.cell? ⟨ad.block, ad.off + (k + 1), none⟩ = some (.int .i64 x1) ∧ w'.cell? ⟨ad.block, ad.off + (k + 2), none⟩ = some (.int .i64 x2) ∧ w'.cell? (ad.add (k - 1)) = some (.int .i64 y0)) (ds := [22]) #[false, false, false, false, false, false, false, false, false, false, false, false, false, false, false, false, false, false, false, false, false, false, false, false, false, false, false, false, false] (by kernel_rfl) rfl rfl ⟨(by simpa using q0), (by simpa using q1), (by simpa using q2), (by simpa using q3)⟩ (fun hHeld => ?_)
            refine pure_ (i := 0) (N := some 73) (v := ?_) (a' := ?_) #[true, false, false, false, false, false, false, false, false, false, false, false, false, false, false, false, false, false, false, false, false, false, false, false, false, false, false, false, false] rfl rfl (by kernel_rfl) (fun _ _ _ h => h) (Or.inl ⟨by rfl, ?_⟩) ?_ ?_
            rotate_left
            · intro w'
              go_simp
              with_reducible rfl
            rotate_left
            · simp only [Act.put, List.setIfInBounds_toArray, List.set_cons_zero, List.set_cons_succ, i64_w, i32_w]
              rfl
            refine pure_ (i := 1) (N := some 74) (v := ?_) (a' := ?_) #[true, true, false, false, false, false, false, false, false, false, false, false, false, false, false, false, false, false, false, false, false, false, false, false, false, false, false, false, false] rfl rfl (by kernel_rfl) (fun _ _ _ h => h) (Or.inl ⟨by rfl, ?_⟩) ?_ ?_
            rotate_left
            · intro w'
              go_simp
              with_reducible rfl
            rotate_left
            · simp only [Act.put, List.setIfInBounds_toArray, List.set_cons_zero, List.set_cons_succ, i64_w, i32_w]
              rfl
            refine pure_ (i := 2) (N := some 75) (v := ?_) (a' := ?_) #[true, true, true, false, false, false, false, false, false, false, false, false, false, false, false, false, false, false, false, false, false, false, false, false, false, false, false, false, false] rfl rfl (by kernel_rfl) (fun _ _ _ h => h) (Or.inl ⟨by rfl, ?_⟩) ?_ ?_
            rotate_left
            · intro w'
              go_simp
              with_reducible rfl
            rotate_left
            · simp only [Act.put, List.setIfInBounds_toArray, List.set_cons_zero, List.set_cons_succ, i64_w, i32_w]
              rfl
            refine pure_ (i := 3) (N := some 76) (v := ?_) (a' := ?_) #[true, true, true, true, false, false, false, false, false, false, false, false, false, false, false, false, false, false, false, false, false, false, false, false, false, false, false, false, false] rfl rfl (by kernel_rfl) (fun _ _ _ h => h) (Or.inl ⟨by rfl, ?_⟩) ?_ ?_
            rotate_left
            · intro w'
              go_simp
              with_reducible rfl
            rotate_left
            · simp only [Act.put, List.setIfInBounds_toArray, List.set_cons_zero, List.set_cons_succ, i64_w, i32_w]
              rfl
            refine pure_ (i := 5) (N := some 78) (v := ?_) (a' := ?_) #[true, true, true, true, false, true, false, false, false, false, false, false, false, false, false, false, false, false, false, false, false, false, false, false, false, false, false, false, false] rfl rfl (by kernel_rfl) (fun _ _ _ h => h) (Or.inl ⟨by rfl, ?_⟩) ?_ ?_
            rotate_left
            · intro w'
              go_simp
              with_reducible rfl
            rotate_left
            · simp only [Act.put, List.setIfInBounds_toArray, List.set_cons_zero, List.set_cons_succ, i64_w, i32_w]
              rfl
            refine pure_ (i := 6) (N := some 79) (v := ?_) (a' := ?_) #[true, true, true, true, false, true, true, false, false, false, false, false, false, false, false, false, false, false, false, false, false, false, false, false, false, false, false, false, false] rfl rfl (by kernel_rfl) (fun _ _ _ h => h) (Or.inl ⟨by rfl, ?_⟩) ?_ ?_
            rotate_left
            · intro w'
              go_simp
              with_reducible rfl
            rotate_left
            · simp only [Act.put, List.setIfInBounds_toArray, List.set_cons_zero, List.set_cons_succ, i64_w, i32_w]
              rfl
            refine pure_ (i := 7) (N := some 80) (v := ?_) (a' := ?_) #[true, true, true, true, false, true, true, true, false, false, false, false, false, false, false, false, false, false, false, false, false, false, false, false, false, false, false, false, false] rfl rfl (by kernel_rfl) (fun _ _ _ h => h) (Or.inl ⟨by rfl, ?_⟩) ?_ ?_
            rotate_left
            · intro w'
              go_simp
              with_reducible rfl
            rotate_left
            · simp only [Act.put, List.setIfInBounds_toArray, List.set_cons_zero, List.set_cons_succ, i64_w, i32_w]
              rfl
            refine pure_ (i := 9) (N := some 82) (v := ?_) (a' := ?_) #[true, true, true, true, false, true, true, true, false, true, false, false, false, false, false, false, false, false, false, false, false, false, false, false, false, false, false, false, false] rfl rfl (by kernel_rfl) (fun _ _ _ h => h) (Or.inl ⟨by rfl, ?_⟩) ?_ ?_
            rotate_left
            · intro w'
              go_simp
              with_reducible rfl
            rotate_left
            · simp only [Act.put, List.setIfInBounds_toArray, List.set_cons_zero, List.set_cons_succ, i64_w, i32_w]
              rfl
            refine pure_ (i := 10) (N := some 83) (v := ?_) (a' := ?_) #[true, true, true, true, false, true, true, true, false, true, true, false, false, false, false, false, false, false, false, false, false, false, false, false, false, false, false, false, false] rfl rfl (by kernel_rfl) (fun _ _ _ h => h) (Or.inl ⟨by rfl, ?_⟩) ?_ ?_
            rotate_left
            · intro w'
              go_simp
              with_reducible rfl
            rotate_left
            · simp only [Act.put, List.setIfInBounds_toArray, List.set_cons_zero, List.set_cons_succ, i64_w, i32_w]
              rfl
            refine pure_ (i := 11) (N := some 84) (v := ?_) (a' := ?_) #[true, true, true, true, false, true, true, true, false, true, true, true, false, false, false, false, false, false, false, false, false, false, false, false, false, false, false, false, false] rfl rfl (by kernel_rfl) (fun _ _ _ h => h) (Or.inl ⟨by rfl, ?_⟩) ?_ ?_
            rotate_left
            · intro w'
              go_simp
              with_reducible rfl
            rotate_left
            · simp only [Act.put, List.setIfInBounds_toArray, List.set_cons_zero, List.set_cons_succ, i64_w, i32_w]
              rfl
            refine pure_ (i := 12) (N := some 85) (v := ?_) (a' := ?_) #[true, true, true, true, false, true, true, true, false, true, true, true, true, false, false, false, false, false, false, false, false, false, false, false, false, false, false, false, false] rfl rfl (by kernel_rfl) (fun _ _ _ h => h) (Or.inl ⟨by rfl, ?_⟩) ?_ ?_
            rotate_left
            · intro w'
              go_simp
              with_reducible rfl
            rotate_left
            · simp only [Act.put, List.setIfInBounds_toArray, List.set_cons_zero, List.set_cons_succ, i64_w, i32_w]
              rfl
            refine pure_ (i := 14) (N := some 87) (v := ?_) (a' := ?_) #[true, true, true, true, false, true, true, true, false, true, true, true, true, false, true, false, false, false, false, false, false, false, false, false, false, false, false, false, false] rfl rfl (by kernel_rfl) (fun _ _ _ h => h) (Or.inl ⟨by rfl, ?_⟩) ?_ ?_
            rotate_left
            · intro w'
              go_simp
              with_reducible rfl
            rotate_left
            · simp only [Act.put, List.setIfInBounds_toArray, List.set_cons_zero, List.set_cons_succ, i64_w, i32_w]
              rfl
            refine pure_ (i := 15) (N := some 88) (v := ?_) (a' := ?_) #[true, true, true, true, false, true, true, true, false, true, true, true, true, false, true, true, false, false, false, false, false, false, false, false, false, false, false, false, false] rfl rfl (by kernel_rfl) (fun _ _ _ h => h) (Or.inl ⟨by rfl, ?_⟩) ?_ ?_
            rotate_left
            · intro w'
              go_simp
              with_reducible rfl
            rotate_left
            · simp only [Act.put, List.setIfInBounds_toArray, List.set_cons_zero, List.set_cons_succ, i64_w, i32_w]
              rfl
            refine pure_ (i := 16) (N := some 89) (v := ?_) (a' := ?_) #[true, true, true, true, false, true, true, true, false, true, true, true, true, false, true, true, true, false, false, false, false, false, false, false, false, false, false, false, false] rfl rfl (by kernel_rfl) (fun _ _ _ h => h) (Or.inl ⟨by rfl, ?_⟩) ?_ ?_
            rotate_left
            · intro w'
              go_simp
              with_reducible rfl
            rotate_left
            · simp only [Act.put, List.setIfInBounds_toArray, List.set_cons_zero, List.set_cons_succ, i64_w, i32_w]
              rfl
            refine pure_ (i := 17) (N := some 90) (v := ?_) (a' := ?_) #[true, true, true, true, false, true, true, true, false, true, true, true, true, false, true, true, true, true, false, false, false, false, false, false, false, false, false, false, false] rfl rfl (by kernel_rfl) (fun _ _ _ h => h) (Or.inl ⟨by rfl, ?_⟩) ?_ ?_
            rotate_left
            · intro w'
              go_simp
              with_reducible rfl
            rotate_left
            · simp only [Act.put, List.setIfInBounds_toArray, List.set_cons_zero, List.set_cons_succ, i64_w, i32_w]
              rfl
            refine pure_ (i := 20) (N := some 93) (v := ?_) (a' := ?_) #[true, true, true, true, false, true, true, true, false, true, true, true, true, false, true, true, true, true, false, false, true, false, false, false, false, false, false, false, false] rfl rfl (by kernel_rfl) (fun _ _ _ h => h) (Or.inl ⟨by rfl, ?_⟩) ?_ ?_
            rotate_left
            · intro w'
              go_simp
              with_reducible rfl
            rotate_left
            · simp only [Act.put, List.setIfInBounds_toArray, List.set_cons_zero, List.set_cons_succ, i64_w, i32_w]
              rfl
            refine pure_ (i := 21) (N := some 94) (v := ?_) (a' := ?_) #[true, true, true, true, false, true, true, true, false, true, true, true, true, false, true, true, true, true, false, false, true, true, false, false, false, false, false, false, false] rfl rfl (by kernel_rfl) (fun _ _ _ h => h) (Or.inl ⟨by rfl, ?_⟩) ?_ ?_
            rotate_left
            · intro w'
              go_simp
              with_reducible rfl
            rotate_left
            · simp only [Act.put, List.setIfInBounds_toArray, List.set_cons_zero, List.set_cons_succ, i64_w, i32_w]
              rfl
            refine take_ (i := 4) (N := some 77) (v := ?_) (a' := ?_) #[true, true, true, true, true, true, true, true, false, true, true, true, true, false, true, true, true, true, false, false, true, true, false, false, false, false, false, false, false] rfl rfl (by kernel_rfl) (fun _ _ _ h => h) (Or.inl ⟨by rfl, ?_⟩) hHeld ?_ ?_
            rotate_left
            · rintro w' ⟨s0, s1, s2, s3⟩
              go_simp
              with_reducible rfl
            rotate_left
            · simp only [Act.put, List.setIfInBounds_toArray, List.set_cons_zero, List.set_cons_succ, i64_w, i32_w]
              rfl
            refine take_ (i := 8) (N := some 81) (v := ?_) (a' := ?_) #[true, true, true, true, true, true, true, true, true, true, true, true, true, false, true, true, true, true, false, false, true, true, false, false, false, false, false, false, false] rfl rfl (by kernel_rfl) (fun _ _ _ h => h) (Or.inl ⟨by rfl, ?_⟩) hHeld ?_ ?_
            rotate_left
            · rintro w' ⟨s0, s1, s2, s3⟩
              go_simp
              with_reducible rfl
            rotate_left
            · simp only [Act.put, List.setIfInBounds_toArray, List.set_cons_zero, List.set_cons_succ, i64_w, i32_w]
              rfl
            refine take_ (i := 13) (N := some 86) (v := ?_) (a' := ?_) #[true, true, true, true, true, true, true, true, true, true, true, true, true, true, true, true, true, true, false, false, true, true, false, false, false, false, false, false, false] rfl rfl (by kernel_rfl) (fun _ _ _ h => h) (Or.inl ⟨by rfl, ?_⟩) hHeld ?_ ?_
            rotate_left
            · rintro w' ⟨s0, s1, s2, s3⟩
              go_simp
              with_reducible rfl
            rotate_left
            · simp only [Act.put, List.setIfInBounds_toArray, List.set_cons_zero, List.set_cons_succ, i64_w, i32_w]
              rfl
            refine take_ (i := 18) (N := some 91) (v := ?_) (a' := ?_) #[true, true, true, true, true, true, true, true, true, true, true, true, true, true, true, true, true, true, true, false, true, true, false, false, false, false, false, false, false] rfl rfl (by kernel_rfl) (fun _ _ _ h => h) (Or.inl ⟨by rfl, ?_⟩) hHeld ?_ ?_
            rotate_left
            · rintro w' ⟨s0, s1, s2, s3⟩
              go_simp
              with_reducible rfl
            rotate_left
            · simp only [Act.put, List.setIfInBounds_toArray, List.set_cons_zero, List.set_cons_succ, i64_w, i32_w]
              rfl
            refine pure_ (i := 19) (N := some 92) (v := ?_) (a' := ?_) #[true, true, true, true, true, true, true, true, true, true, true, true, true, true, true, true, true, true, true, true, true, true, false, false, false, false, false, false, false] rfl rfl (by kernel_rfl) (fun _ _ _ h => h) (Or.inl ⟨by rfl, ?_⟩) ?_ ?_
            rotate_left
            · intro w'
              go_simp
              with_reducible rfl
            rotate_left
            · simp only [Act.put, List.setIfInBounds_toArray, List.set_cons_zero, List.set_cons_succ, i64_w, i32_w]
              rfl
            refine last_ (i := 22) (N := some 95) #[true, true, true, true, true, true, true, true, true, true, true, true, true, true, true, true, true, true, true, true, true, true, true, false, false, false, false, false, false] rfl rfl (by kernel_rfl) (by decide) (fun K hK => ?_)
            refine goes_ Try.func18 (by kernel_rfl) rfl #[.agg #[.int .i64 y0, .int .i64 x0, .int .i64 x1, .int .i64 x2], .int .i64 num, .int .i64 den] (by rfl) rfl rfl (by simp only [List.map_toArray, List.map_cons, List.map_nil]; rfl) ?_
            with_reducible refine (rcubic_calls _ _ _ _ _ _ _).mono ?_
            rintro e w5 ⟨rfl, HB'⟩
            refine ⟨_, rfl, ?_⟩
            refine hK.out _ _ ?_
            clear hK K
            refine norm_ (a' := ?_) ?_ ?_
            rotate_left
            · show Act.put _ (some 95) _ = _
              simp only [Act.put, List.setIfInBounds_toArray, List.set_cons_zero, List.set_cons_succ, i64_w, i32_w]
              rfl
            refine pure_ (i := 23) (N := some 72) (v := ?_) (a' := ?_) #[true, true, true, true, true, true, true, true, true, true, true, true, true, true, true, true, true, true, true, true, true, true, true, true, false, false, false, false, false] rfl rfl (by kernel_rfl) (fun _ _ _ h => h) (Or.inl ⟨by rfl, ?_⟩) ?_ ?_
            rotate_left
            · intro w'
              go_simp
              with_reducible rfl
            rotate_left
            · simp only [Act.put, List.setIfInBounds_toArray, List.set_cons_zero, List.set_cons_succ, i64_w, i32_w]
              rfl
            refine pure_ (i := 24) (N := some 96) (v := ?_) (a' := ?_) #[true, true, true, true, true, true, true, true, true, true, true, true, true, true, true, true, true, true, true, true, true, true, true, true, true, false, false, false, false] rfl rfl (by kernel_rfl) (fun _ _ _ h => h) (Or.inl ⟨by rfl, ?_⟩) ?_ ?_
            rotate_left
            · intro w'
              go_simp
              with_reducible rfl
            rotate_left
            · simp only [Act.put, List.setIfInBounds_toArray, List.set_cons_zero, List.set_cons_succ, i64_w, i32_w]
              rfl
            refine pure_ (i := 25) (N := some 97) (v := ?_) (a' := ?_) #[true, true, true, true, true, true, true, true, true, true, true, true, true, true, true, true, true, true, true, true, true, true, true, true, true, true, false, false, false] rfl rfl (by kernel_rfl) (fun _ _ _ h => h) (Or.inl ⟨by rfl, ?_⟩) ?_ ?_
            rotate_left
            · intro w'
              go_simp
              with_reducible rfl
            rotate_left
            · simp only [Act.put, List.setIfInBounds_toArray, List.set_cons_zero, List.set_cons_succ, i64_w, i32_w]
              rfl
            refine pure_ (i := 26) (N := some 98) (v := ?_) (a' := ?_) #[true, true, true, true, true, true, true, true, true, true, true, true, true, true, true, true, true, true, true, true, true, true, true, true, true, true, true, false, false] rfl rfl (by kernel_rfl) (fun _ _ _ h => h) (Or.inl ⟨by rfl, ?_⟩) ?_ ?_
            rotate_left
            · intro w'
              go_simp
              with_reducible rfl
            rotate_left
            · simp only [Act.put, List.setIfInBounds_toArray, List.set_cons_zero, List.set_cons_succ, i64_w, i32_w]
              rfl
            refine pure_ (i := 27) (N := some 12) (v := ?_) (a' := ?_) #[true, true, true, true, true, true, true, true, true, true, true, true, true, true, true, true, true, true, true, true, true, true, true, true, true, true, true, true, false] rfl rfl (by kernel_rfl) (fun _ _ _ h => h) (Or.inl ⟨by rfl, ?_⟩) ?_ ?_
            rotate_left
            · intro w'
              go_simp
              with_reducible rfl
            rotate_left
            · simp only [Act.put, List.setIfInBounds_toArray, List.set_cons_zero, List.set_cons_succ, i64_w, i32_w]
              rfl
            refine pure_ (i := 28) (N := some 13) (v := ?_) (a' := ?_) #[true, true, true, true, true, true, true, true, true, true, true, true, true, true, true, true, true, true, true, true, true, true, true, true, true, true, true, true, true] rfl rfl (by kernel_rfl) (fun _ _ _ h => h) (Or.inl ⟨by rfl, ?_⟩) ?_ ?_
            rotate_left
            · intro w'
              go_simp
              with_reducible rfl
            rotate_left
            · simp only [Act.put, List.setIfInBounds_toArray, List.set_cons_zero, List.set_cons_succ, i64_w, i32_w]
              rfl
            refine done_ (by kernel_rfl) ?_
            have HB := Aside0.mk (below_step (pw_below_drewN HB.out 1) HB')
            have HV := Aside0.mk (Kd.R_below (Kd.R_drew HV.out) HB')
            clear HB' b1 b2 b3 b4 b5 c2 c3 c4 c5 d2 d3 d4 d5 q0 q1 q2 q3
            go_wp2_with fail
            refine (rnearest_calls _ _ _).mono ?_
            rintro e w' ⟨rfl, ⟨nd5, rfl⟩⟩
            rw [← hval.out]
            have HB := Aside0.mk (pw_below_drewN HB.out nd5)
            have HV := Aside0.mk (Kd.R_drewN HV.out nd5)
            have HP : Aside0 (ys ++ [shV l num den k] = (shL l num den).take (k + 1) ∧ ys.length = k) := ⟨by
              have e := shL_at l num den k hlt
              rw [List.getD_eq_getElem?_getD, List.getElem?_eq_getElem (by rw [HL1.out]; exact hlt)] at e
              rw [List.take_succ_eq_append_getElem (by rw [HL1.out]; exact hlt), HY.out]
              exact ⟨by rw [← e]; rfl, by rw [← HY.out, List.length_take, HL1.out]; omega⟩⟩
            generalize shV l num den k = V at *
            go_wp2_with ((with_reducible refine gate_builtin (b := .append) (xs := #[.tmp 105, .tmp 107]) rfl ?_); at_builtin; refine Kd.R_append (Kd.int .i64) (w0 := w) w.heap.size rfl (.tmp 105) (.tmp 107) 35 3 (.int .i64 0) 8 rfl Try.underlying35 zero_int rfl (by decide) (by omega) _ _ V [.int .i64 V] (fun _ => True) (fun _ => False) rfl rfl rfl (fun _ hk => hk.elim) (fun _ _ => trivial) HV.out HB.out (below_size HB.out) (by rw [HP.out.2]; omega) ?_; intro v1 w6 hv1 hb1 hg1 hn1; clear hg1 hn1; have HV2 := Aside0.mk hv1; have HB2 := Aside0.mk hb1; clear hv1 hb1)
            go_roundw
            case rel =>
              have h := HV2.out
              rw [HP.out.1] at h
              exact ⟨k + 1, by omega, by go_num, ⟨h⟩, HB2⟩
            case measure => simp [intOf]; omega
          · have hval : Aside0 (shV l num den k = nearV (linA x0 x1 num den) (linB x0 x1 num den)) := ⟨by rw [shV, if_neg hm, HX0.out, HX1.out]⟩
            by_cases hk0 : k = 0
            · have t2 : decide ((1 : Int) ≤ (k : Int)) = false := by simp; omega
              have t2' : ¬ 1 ≤ k := by omega
              clear hm hk0
              go_wp2_with fail
              refine (rnearest_calls _ _ _).mono ?_
              rintro e w' ⟨rfl, ⟨nd5, rfl⟩⟩
              rw [← hval.out]
              have HB := Aside0.mk (pw_below_drewN HB.out nd5)
              have HV := Aside0.mk (Kd.R_drewN HV.out nd5)
              have HP : Aside0 (ys ++ [shV l num den k] = (shL l num den).take (k + 1) ∧ ys.length = k) := ⟨by
                have e := shL_at l num den k hlt
                rw [List.getD_eq_getElem?_getD, List.getElem?_eq_getElem (by rw [HL1.out]; exact hlt)] at e
                rw [List.take_succ_eq_append_getElem (by rw [HL1.out]; exact hlt), HY.out]
                exact ⟨by rw [← e]; rfl, by rw [← HY.out, List.length_take, HL1.out]; omega⟩⟩
              generalize shV l num den k = V at *
              go_wp2_with ((with_reducible refine gate_builtin (b := .append) (xs := #[.tmp 105, .tmp 107]) rfl ?_); at_builtin; refine Kd.R_append (Kd.int .i64) (w0 := w) w.heap.size rfl (.tmp 105) (.tmp 107) 35 3 (.int .i64 0) 8 rfl Try.underlying35 zero_int rfl (by decide) (by omega) _ _ V [.int .i64 V] (fun _ => True) (fun _ => False) rfl rfl rfl (fun _ hk => hk.elim) (fun _ _ => trivial) HV.out HB.out (below_size HB.out) (by rw [HP.out.2]; omega) ?_; intro v1 w6 hv1 hb1 hg1 hn1; clear hg1 hn1; have HV2 := Aside0.mk hv1; have HB2 := Aside0.mk hb1; clear hv1 hb1)
              go_roundw
              case rel =>
                have h := HV2.out
                rw [HP.out.1] at h
                exact ⟨k + 1, by omega, by go_num, ⟨h⟩, HB2⟩
              case measure => simp [intOf]; omega
            · have t2 : decide ((1 : Int) ≤ (k : Int)) = true := by simp; omega
              have t2' : 1 ≤ k := by omega
              have t3 : decide ((k : Int) + 2 < (l.length : Int)) = false := by simp; omega
              clear hm hk0
              go_wp2_with fail
              refine (rnearest_calls _ _ _).mono ?_
              rintro e w' ⟨rfl, ⟨nd5, rfl⟩⟩
              rw [← hval.out]
              have HB := Aside0.mk (pw_below_drewN HB.out nd5)
              have HV := Aside0.mk (Kd.R_drewN HV.out nd5)
              have HP : Aside0 (ys ++ [shV l num den k] = (shL l num den).take (k + 1) ∧ ys.length = k) := ⟨by
                have e := shL_at l num den k hlt
                rw [List.getD_eq_getElem?_getD, List.getElem?_eq_getElem (by rw [HL1.out]; exact hlt)] at e
                rw [List.take_succ_eq_append_getElem (by rw [HL1.out]; exact hlt), HY.out]
                exact ⟨by rw [← e]; rfl, by rw [← HY.out, List.length_take, HL1.out]; omega⟩⟩
              generalize shV l num den k = V at *
              go_wp2_with ((with_reducible refine gate_builtin (b := .append) (xs := #[.tmp 105, .tmp 107]) rfl ?_); at_builtin; refine Kd.R_append (Kd.int .i64) (w0 := w) w.heap.size rfl (.tmp 105) (.tmp 107) 35 3 (.int .i64 0) 8 rfl Try.underlying35 zero_int rfl (by decide) (by omega) _ _ V [.int .i64 V] (fun _ => True) (fun _ => False) rfl rfl rfl (fun _ hk => hk.elim) (fun _ _ => trivial) HV.out HB.out (below_size HB.out) (by rw [HP.out.2]; omega) ?_; intro v1 w6 hv1 hb1 hg1 hn1; clear hg1 hn1; have HV2 := Aside0.mk hv1; have HB2 := Aside0.mk hb1; clear hv1 hb1)
              go_roundw
              case rel =>
                have h := HV2.out
                rw [HP.out.1] at h
                exact ⟨k + 1, by omega, by go_num, ⟨h⟩, HB2⟩
              case measure => simp [intOf]; omega
        · obtain rfl : k = l.length - 1 := by omega
          have t1 : decide (((l.length - 1 : Nat) : Int) < (l.length : Int) - 1) = false := by simp; omega
          go_wp2_with fail
          go_ret2
          have h := HV.out
          have hy := HY.out
          rw [List.take_of_length_le (by rw [HL1.out]; exact Nat.le_refl _)] at hy
          subst hy
          exact ⟨_, by rw [HO.out]; rfl, by rw [shOut, HO.out]; exact h, HB.out⟩
end Go.Proofs.Ytcehcblhmgeonaa.A
