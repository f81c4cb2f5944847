import Derived.Test.YthnbokmnplipkaaDoorI
/- The walk of TeleprotectionInternal. The condition Sch is its own. -/
namespace Go.Proofs.YthnbokmnplipkaaDoor.A
open Go.RowKit Go.Proofs.YthnbokmnplipkaaDoorW.PrintWords Go.Proofs.YthnbokmnplipkaaDoorW.PrintLast Go.Proofs.YthnbokmnplipkaaDoorW.PrintMore
open Go.Proofs.YthnbokmnplipkaaDoor.PTeleprotectionSteps
open Go.Proofs.YthnbokmnplipkaaDoor
attribute [local go_sem] max2_int min2_int max_two min_two max_three min_three max_four min_four eq38
set_option linter.unusedVariables false
set_option linter.unusedSimpArgs false

set_option maxRecDepth 100000 in
set_option maxHeartbeats 3000000 in
theorem TeleprotectionInternal_walk (s wait guard d steps : Int) (w : World) (hs : Sch w) :
    Calls Tryd.prog 5 #[sett s wait guard, .int .i64 d, .int .i64 steps] w fun e w' => e = .returned (.bool true) ∧ Below w.heap.size w w' := by
  have HS := Aside0.mk hs
  have HSW := Aside0.mk hs
  clear hs
  have HB := Aside0.mk (below_alloc (Below.refl w.heap.size w) (.cells #[.int .i64 s, .int .i64 wait, .int .i64 guard] 33))
  have BS := Aside0.mk (Bk.new w #[.int .i64 s, .int .i64 wait, .int .i64 guard] 33)
  replace HS := Aside0.mk (HS.out.below HB.out)
  go_enter Tryd.func5, Tryd.ntmps5
  go_wp2_with fail
  generalize w.alloc (.cells #[.int .i64 s, .int .i64 wait, .int .i64 guard] 33) = W0 at *
  obtain ⟨sb, hsb⟩ : ∃ sb, w.heap.size = sb := ⟨_, rfl⟩
  rw [hsb] at BS ⊢
  clear hsb
  have q1 := BS.out.c 1 (v := .int .i64 wait) rfl
  have q2 := BS.out.c 2 (v := .int .i64 guard) rfl
  refine Q.q_start (by kernel_rfl) (by kernel_rfl) ?_
  refine Q.q_value (N := some 15) (v := ?_) (a' := ?_) rfl (by rfl) ?_ ?_ ?_
  rotate_left
  · intro w' hb
    clear hb
    go_simp
    with_reducible rfl
  rotate_left
  · simp only [Act.put, List.setIfInBounds_toArray, List.set_cons_zero, List.set_cons_succ, i64_w, i32_w]
    rfl
  refine Q.q_value (N := some 16) (v := ?_) (a' := ?_) rfl (by rfl) ?_ ?_ ?_
  rotate_left
  · intro w' hb
    have s0 := pw_cell_below hb q1
    clear hb
    go_simp
    with_reducible rfl
  rotate_left
  · simp only [Act.put, List.setIfInBounds_toArray, List.set_cons_zero, List.set_cons_succ, i64_w, i32_w]
    rfl
  refine Q.q_value (N := some 17) (v := ?_) (a' := ?_) rfl (by rfl) ?_ ?_ ?_
  rotate_left
  · intro w' hb
    clear hb
    go_simp
    with_reducible rfl
  rotate_left
  · simp only [Act.put, List.setIfInBounds_toArray, List.set_cons_zero, List.set_cons_succ, i64_w, i32_w]
    rfl
  refine Q.q_value (N := some 18) (v := ?_) (a' := ?_) rfl (by rfl) ?_ ?_ ?_
  rotate_left
  · intro w' hb
    have s0 := pw_cell_below hb q2
    clear hb
    go_simp
    with_reducible rfl
  rotate_left
  · simp only [Act.put, List.setIfInBounds_toArray, List.set_cons_zero, List.set_cons_succ, i64_w, i32_w]
    rfl
  refine Q.q_value (N := some 7) (v := ?_) (a' := ?_) rfl (by rfl) ?_ ?_ ?_
  rotate_left
  · intro w' hb
    clear hb
    go_simp
    with_reducible rfl
  rotate_left
  · simp only [Act.put, List.setIfInBounds_toArray, List.set_cons_zero, List.set_cons_succ, i64_w, i32_w]
    rfl
  refine Q.q_value (N := some 8) (v := ?_) (a' := ?_) rfl (by rfl) ?_ ?_ ?_
  rotate_left
  · intro w' hb
    clear hb
    go_simp
    with_reducible rfl
  rotate_left
  · simp only [Act.put, List.setIfInBounds_toArray, List.set_cons_zero, List.set_cons_succ, i64_w, i32_w]
    rfl
  refine wpQuiet_nil ?_
  intro w1 HB1
  replace HS := Aside0.mk (HS.out.below HB1)
  replace HB := Aside0.mk (below_step HB.out HB1)
  clear HB1 q1 q2 BS
  by_cases g0 : wait < 1
  · have t0 : decide (wait < 1) = true := by simpa using g0
    go_wp2_with fail
    with_reducible refine (known_calls _ HS.out).mono ?_
    rintro e w2 ⟨rfl, HB1⟩
    replace HB := Aside0.mk (below_step HB.out HB1)
    clear HB1
    go_wp2_with fail
    go_ret
    exact ⟨rfl, HB.out⟩
  have t0 : decide (wait < 1) = false := by simpa using g0
  by_cases g1 : 50 < wait
  · have t1 : decide (50 < wait) = true := by simpa using g1
    go_wp2_with fail
    with_reducible refine (known_calls _ HS.out).mono ?_
    rintro e w2 ⟨rfl, HB1⟩
    replace HB := Aside0.mk (below_step HB.out HB1)
    clear HB1
    go_wp2_with fail
    go_ret
    exact ⟨rfl, HB.out⟩
  have t1 : decide (50 < wait) = false := by simpa using g1
  by_cases g2 : guard < 0
  · have t2 : decide (guard < 0) = true := by simpa using g2
    go_wp2_with fail
    with_reducible refine (known_calls _ HS.out).mono ?_
    rintro e w2 ⟨rfl, HB1⟩
    replace HB := Aside0.mk (below_step HB.out HB1)
    clear HB1
    go_wp2_with fail
    go_ret
    exact ⟨rfl, HB.out⟩
  have t2 : decide (guard < 0) = false := by simpa using g2
  by_cases g3 : 50 < guard
  · have t3 : decide (50 < guard) = true := by simpa using g3
    go_wp2_with fail
    with_reducible refine (known_calls _ HS.out).mono ?_
    rintro e w2 ⟨rfl, HB1⟩
    replace HB := Aside0.mk (below_step HB.out HB1)
    clear HB1
    go_wp2_with fail
    go_ret
    exact ⟨rfl, HB.out⟩
  have t3 : decide (50 < guard) = false := by simpa using g3
  by_cases g4 : d < 0
  · have t4 : decide (d < 0) = true := by simpa using g4
    go_wp2_with fail
    with_reducible refine (known_calls _ HS.out).mono ?_
    rintro e w2 ⟨rfl, HB1⟩
    replace HB := Aside0.mk (below_step HB.out HB1)
    clear HB1
    go_wp2_with fail
    go_ret
    exact ⟨rfl, HB.out⟩
  have t4 : decide (d < 0) = false := by simpa using g4
  by_cases g5 : 10 < d
  · have t5 : decide (10 < d) = true := by simpa using g5
    go_wp2_with fail
    with_reducible refine (known_calls _ HS.out).mono ?_
    rintro e w2 ⟨rfl, HB1⟩
    replace HB := Aside0.mk (below_step HB.out HB1)
    clear HB1
    go_wp2_with fail
    go_ret
    exact ⟨rfl, HB.out⟩
  have t5 : decide (10 < d) = false := by simpa using g5
  by_cases g6 : steps < 0
  · have t6 : decide (steps < 0) = true := by simpa using g6
    go_wp2_with fail
    with_reducible refine (known_calls _ HS.out).mono ?_
    rintro e w2 ⟨rfl, HB1⟩
    replace HB := Aside0.mk (below_step HB.out HB1)
    clear HB1
    go_wp2_with fail
    go_ret
    exact ⟨rfl, HB.out⟩
  have t6 : decide (steps < 0) = false := by simpa using g6
  by_cases g7 : 100 < steps
  · have t7 : decide (100 < steps) = true := by simpa using g7
    go_wp2_with fail
    with_reducible refine (known_calls _ HS.out).mono ?_
    rintro e w2 ⟨rfl, HB1⟩
    replace HB := Aside0.mk (below_step HB.out HB1)
    clear HB1
    go_wp2_with fail
    go_ret
    exact ⟨rfl, HB.out⟩
  have t7 : decide (100 < steps) = false := by simpa using g7
  obtain ⟨n, hn⟩ : ∃ n : Nat, (n : Int) = d + steps := ⟨(d + steps).toNat, by omega⟩
  have HN := Aside0.mk hn
  have hn1 : (n : Int) ≤ d + steps := by omega
  have hn2 : d + steps ≤ (n : Int) := by omega
  clear hn
  have HR := Aside0.mk (ARow.nil w1 w.heap.size (sIn d))
  go_wp2_with fail
  go_loopw [9, 10] (fun l i wr => ∃ k : Nat, k ≤ n ∧ i = .int .i64 k ∧ Aside0 (ARow wr w.heap.size l k (sIn d)) ∧ Aside0 (Below w.heap.size w wr))
    (fun _ i _ => n + 1 - (intOf i).toNat)
  case atStart => exact ⟨0, by omega, rfl, HR, HB⟩
  case round =>
    clear HR HB HS
    obtain ⟨k, hk, rfl, HR, HB⟩ := hrel
    by_cases hlen : k < n
    · have t9 : decide ((k : Int) < d + steps) = true := by simp; omega
      obtain ⟨z, hz⟩ : ∃ z, decide (d ≤ (k : Int)) = z := ⟨_, rfl⟩
      go_wp2_with ((with_reducible refine gate_builtin (b := .append) (xs := #[.tmp 57, .tmp 62]) rfl ?_); at_builtin; refine print_append_cells (w0 := w) w.heap.size rfl (.tmp 57) (.tmp 62) 37 29 (.agg #[.bool false, .bool false, .bool false, .bool false]) 4 4 rfl Tryd.underlying37 info29 rfl (by decide) (by decide) _ k _ [.bool false, .bool z, .bool false, .bool false] rfl rfl rfl (four_bools _ _ _ _) HR.out.own HB.out HB.out.size (by omega) ?_; intro v1 w1 hown hbel hgrow hat)
      have HR1 : Aside0 (ARow w1 w.heap.size v1 (k + 1) (sIn d)) := ⟨⟨by rw [rowCells, show sIn d k = (false, z, false) by unfold sIn; rw [hz]]; exact hown⟩⟩
      replace HB := Aside0.mk hbel
      clear hown hbel hgrow hat HR hz
      go_wp2_with fail
      go_roundw
      case rel => exact ⟨k + 1, by omega, by go_num, HR1, HB⟩
      case measure => simp [intOf]; omega
    · obtain rfl : k = n := by omega
      have t9 : decide ((k : Int) < d + steps) = false := by simp; omega
      obtain ⟨la, c, rfl, hrow⟩ := HR.out.reads
      have HROW := Aside0.mk hrow
      have HS := Aside0.mk (HSW.out.below HB.out)
      clear hrow HR
      obtain ⟨X, HX⟩ : ∃ X, Aside0 (X = if d + 1 < (k : Int) then d + 1 else -1) := ⟨_, ⟨rfl⟩⟩
      obtain ⟨Y, HY⟩ : ∃ X, Aside0 (X = if d + wait < (k : Int) then d + wait else -1) := ⟨_, ⟨rfl⟩⟩
      have HP1 : Aside0 (∀ w', Below wr.heap.size wr w' → Calls Tryd.prog 14 #[.int .i64 2, .int .i64 0, .int .i64 guard, .slice la k c, .slice la k c] w' fun e w'' => e = .returned (.agg #[.int .i64 X, .int .i64 X]) ∧ Below w'.heap.size w' w'') :=
        ⟨fun w' hb => pair_is (in_over guard d (by omega) (by omega) k) HX.out.symm HX.out.symm w' (HS.out.below hb) (by omega) (HROW.out.below hb) (HROW.out.below hb)⟩
      have HP2 : Aside0 (∀ w', Below wr.heap.size wr w' → Calls Tryd.prog 14 #[.int .i64 3, .int .i64 wait, .int .i64 guard, .slice la k c, .slice la k c] w' fun e w'' => e = .returned (.agg #[.int .i64 Y, .int .i64 Y]) ∧ Below w'.heap.size w' w'') :=
        ⟨fun w' hb => pair_is (in_block wait guard d (by omega) (by omega) (by omega) k) HY.out.symm HY.out.symm w' (HS.out.below hb) (by omega) (HROW.out.below hb) (HROW.out.below hb)⟩
      clear HROW
      go_wp2_with fail
      with_reducible refine (HP1.out _ (Below.refl _ _)).mono ?_
      rintro e w2 ⟨rfl, HB1⟩
      go_wp2_with fail
      with_reducible refine (HP2.out _ HB1).mono ?_
      rintro e w3 ⟨rfl, HB2⟩
      replace HB := Aside0.mk (below_alloc (below_alloc (below_step (below_step HB.out HB1) HB2) (.cells #[.int .i64 X, .int .i64 X] 38)) (.cells #[.int .i64 Y, .int .i64 Y] 38))
      have BX := Aside0.mk ((Bk.new w3 #[.int .i64 X, .int .i64 X] 38).alloc (.cells #[.int .i64 Y, .int .i64 Y] 38))
      have BY := Aside0.mk (Bk.new (w3.alloc (.cells #[.int .i64 X, .int .i64 X] 38)) #[.int .i64 Y, .int .i64 Y] 38)
      rw [World.size_alloc] at BY
      clear HB1 HB2 HS HP1 HP2
      have HS := Aside0.mk (HSW.out.below HB.out)
      have HX' : Aside0 (X = if steps < 2 then -1 else d + 1) := ⟨by rw [HX.out]; split <;> split <;> omega⟩
      have HY' : Aside0 (Y = if steps < wait + 1 then -1 else d + wait) := ⟨by rw [HY.out]; split <;> split <;> omega⟩
      clear HX HY
      go_wp2_with fail
      all_goals
        have HX := HX'.out
        have HY := HY'.out
        clear HX' HY'
        first
        | rw [if_pos (by omega)] at HX
        | rw [if_neg (by omega)] at HX
        first
        | rw [if_pos (by omega)] at HY
        | rw [if_neg (by omega)] at HY
        subst HX
        subst HY
        with_reducible refine (known_calls _ HS.out).mono ?_
        rintro e w3 ⟨rfl, HB1⟩
        replace BX := Aside0.mk (BX.out.below HB1)
        replace BY := Aside0.mk (BY.out.below HB1)
        replace HB := Aside0.mk (below_step HB.out HB1)
        clear HB1
        have q0 := BX.out.c 0 rfl
        have q1 := BX.out.c 1 rfl
        have q2 := BY.out.c 0 rfl
        have q3 := BY.out.c 1 rfl
        go_wp2_with fail
        go_ret
        exact ⟨rfl, HB.out⟩
end Go.Proofs.YthnbokmnplipkaaDoor.A
