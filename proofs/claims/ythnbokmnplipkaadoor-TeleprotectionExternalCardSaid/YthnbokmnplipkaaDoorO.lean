import Derived.Test.YthnbokmnplipkaaDoorU
/- The walk of TeleprotectionExternal. The condition Sch is its own. -/
namespace Go.Proofs.YthnbokmnplipkaaDoor.A
open Go.RowKit Go.Proofs.YthnbokmnplipkaaDoorW.PrintWords Go.Proofs.YthnbokmnplipkaaDoorW.PrintLast Go.Proofs.YthnbokmnplipkaaDoorW.PrintMore
open Go.Proofs.YthnbokmnplipkaaDoor.PTeleprotectionSteps
open Go.Proofs.YthnbokmnplipkaaDoor
attribute [local go_sem] max2_int min2_int max_two min_two max_three min_three max_four min_four eq38
set_option linter.unusedVariables false
set_option linter.unusedSimpArgs false

set_option maxRecDepth 100000 in
set_option maxHeartbeats 3000000 in
theorem TeleprotectionExternal_walk (s wait guard d steps : Int) (w : World) (hs : Sch w) :
    Calls Tryd.prog 6 #[sett s wait guard, .int .i64 d, .int .i64 steps] w fun e w' => e = .returned (.bool true) ∧ Below w.heap.size w w' := by
  have HS := Aside0.mk hs
  have HSW := Aside0.mk hs
  clear hs
  have HB := Aside0.mk (below_alloc (Below.refl w.heap.size w) (.cells #[.int .i64 s, .int .i64 wait, .int .i64 guard] 33))
  have BS := Aside0.mk (Bk.new w #[.int .i64 s, .int .i64 wait, .int .i64 guard] 33)
  replace HS := Aside0.mk (HS.out.below HB.out)
  go_enter Tryd.func6, Tryd.ntmps6
  go_wp2_with fail
  generalize w.alloc (.cells #[.int .i64 s, .int .i64 wait, .int .i64 guard] 33) = W0 at *
  obtain ⟨sb, hsb⟩ : ∃ sb, w.heap.size = sb := ⟨_, rfl⟩
  rw [hsb] at BS ⊢
  clear hsb
  have q1 := BS.out.c 1 (v := .int .i64 wait) rfl
  have q2 := BS.out.c 2 (v := .int .i64 guard) rfl
  refine Q.q_start (by kernel_rfl) (by kernel_rfl) ?_
  refine Q.q_value (N := some 13) (v := ?_) (a' := ?_) rfl (by rfl) ?_ ?_ ?_
  rotate_left
  · intro w' hb
    clear hb
    go_simp
    with_reducible rfl
  rotate_left
  · simp only [Act.put, List.setIfInBounds_toArray, List.set_cons_zero, List.set_cons_succ, i64_w, i32_w]
    rfl
  refine Q.q_value (N := some 14) (v := ?_) (a' := ?_) rfl (by rfl) ?_ ?_ ?_
  rotate_left
  · intro w' hb
    have s0 := pw_cell_below hb q1
    clear hb
    go_simp
    with_reducible rfl
  rotate_left
  · simp only [Act.put, List.setIfInBounds_toArray, List.set_cons_zero, List.set_cons_succ, i64_w, i32_w]
    rfl
  refine Q.q_value (N := some 15) (v := ?_) (a' := ?_) rfl (by rfl) ?_ ?_ ?_
  rotate_left
  · intro w' hb
    clear hb
    go_simp
    with_reducible rfl
  rotate_left
  · simp only [Act.put, List.setIfInBounds_toArray, List.set_cons_zero, List.set_cons_succ, i64_w, i32_w]
    rfl
  refine Q.q_value (N := some 16) (v := ?_) (a' := ?_) rfl (by rfl) ?_ ?_ ?_
  rotate_left
  · intro w' hb
    have s0 := pw_cell_below hb q2
    clear hb
    go_simp
    with_reducible rfl
  rotate_left
  · simp only [Act.put, List.setIfInBounds_toArray, List.set_cons_zero, List.set_cons_succ, i64_w, i32_w]
    rfl
  refine Q.q_value (N := some 7) (v := ?_) (a' := ?_) rfl (by rfl) ?_ ?_ ?_
  rotate_left
  · intro w' hb
    clear hb
    go_simp
    with_reducible rfl
  rotate_left
  · simp only [Act.put, List.setIfInBounds_toArray, List.set_cons_zero, List.set_cons_succ, i64_w, i32_w]
    rfl
  refine Q.q_value (N := some 8) (v := ?_) (a' := ?_) rfl (by rfl) ?_ ?_ ?_
  rotate_left
  · intro w' hb
    clear hb
    go_simp
    with_reducible rfl
  rotate_left
  · simp only [Act.put, List.setIfInBounds_toArray, List.set_cons_zero, List.set_cons_succ, i64_w, i32_w]
    rfl
  refine wpQuiet_nil ?_
  intro w1 HB1
  replace HS := Aside0.mk (HS.out.below HB1)
  replace HB := Aside0.mk (below_step HB.out HB1)
  clear HB1 BS q1 q2
  by_cases g0 : wait < 1
  · have t0 : decide (wait < 1) = true := by simpa using g0
    go_wp2_with fail
    with_reducible refine (known_calls _ HS.out).mono ?_
    rintro e w2 ⟨rfl, HB1⟩
    replace HB := Aside0.mk (below_step HB.out HB1)
    clear HB1
    go_wp2_with fail
    go_ret
    exact ⟨rfl, HB.out⟩
  have t0 : decide (wait < 1) = false := by simpa using g0
  by_cases g1 : 50 < wait
  · have t1 : decide (50 < wait) = true := by simpa using g1
    go_wp2_with fail
    with_reducible refine (known_calls _ HS.out).mono ?_
    rintro e w2 ⟨rfl, HB1⟩
    replace HB := Aside0.mk (below_step HB.out HB1)
    clear HB1
    go_wp2_with fail
    go_ret
    exact ⟨rfl, HB.out⟩
  have t1 : decide (50 < wait) = false := by simpa using g1
  by_cases g2 : guard < 0
  · have t2 : decide (guard < 0) = true := by simpa using g2
    go_wp2_with fail
    with_reducible refine (known_calls _ HS.out).mono ?_
    rintro e w2 ⟨rfl, HB1⟩
    replace HB := Aside0.mk (below_step HB.out HB1)
    clear HB1
    go_wp2_with fail
    go_ret
    exact ⟨rfl, HB.out⟩
  have t2 : decide (guard < 0) = false := by simpa using g2
  by_cases g3 : 50 < guard
  · have t3 : decide (50 < guard) = true := by simpa using g3
    go_wp2_with fail
    with_reducible refine (known_calls _ HS.out).mono ?_
    rintro e w2 ⟨rfl, HB1⟩
    replace HB := Aside0.mk (below_step HB.out HB1)
    clear HB1
    go_wp2_with fail
    go_ret
    exact ⟨rfl, HB.out⟩
  have t3 : decide (50 < guard) = false := by simpa using g3
  by_cases g4 : d < 0
  · have t4 : decide (d < 0) = true := by simpa using g4
    go_wp2_with fail
    with_reducible refine (known_calls _ HS.out).mono ?_
    rintro e w2 ⟨rfl, HB1⟩
    replace HB := Aside0.mk (below_step HB.out HB1)
    clear HB1
    go_wp2_with fail
    go_ret
    exact ⟨rfl, HB.out⟩
  have t4 : decide (d < 0) = false := by simpa using g4
  by_cases g5 : 10 < d
  · have t5 : decide (10 < d) = true := by simpa using g5
    go_wp2_with fail
    with_reducible refine (known_calls _ HS.out).mono ?_
    rintro e w2 ⟨rfl, HB1⟩
    replace HB := Aside0.mk (below_step HB.out HB1)
    clear HB1
    go_wp2_with fail
    go_ret
    exact ⟨rfl, HB.out⟩
  have t5 : decide (10 < d) = false := by simpa using g5
  by_cases g6 : steps < 0
  · have t6 : decide (steps < 0) = true := by simpa using g6
    go_wp2_with fail
    with_reducible refine (known_calls _ HS.out).mono ?_
    rintro e w2 ⟨rfl, HB1⟩
    replace HB := Aside0.mk (below_step HB.out HB1)
    clear HB1
    go_wp2_with fail
    go_ret
    exact ⟨rfl, HB.out⟩
  have t6 : decide (steps < 0) = false := by simpa using g6
  by_cases g7 : 100 < steps
  · have t7 : decide (100 < steps) = true := by simpa using g7
    go_wp2_with fail
    with_reducible refine (known_calls _ HS.out).mono ?_
    rintro e w2 ⟨rfl, HB1⟩
    replace HB := Aside0.mk (below_step HB.out HB1)
    clear HB1
    go_wp2_with fail
    go_ret
    exact ⟨rfl, HB.out⟩
  have t7 : decide (100 < steps) = false := by simpa using g7
  obtain ⟨n, hn⟩ : ∃ n : Nat, (n : Int) = d + steps := ⟨(d + steps).toNat, by omega⟩
  have HN := Aside0.mk hn
  have hn1 : (n : Int) ≤ d + steps := by omega
  have hn2 : d + steps ≤ (n : Int) := by omega
  clear hn
  have HRA := Aside0.mk (ARow.nil w1 w.heap.size (sIn d))
  have HRB := Aside0.mk (ARow.nil w1 w.heap.size (sRev d))
  have HNE := Aside0.mk (NeB.nil (.slice none 0 0))
  go_wp2_with fail
  go_loopw [9, 10, 11] (fun l m i wr => ∃ k : Nat, k ≤ n ∧ i = .int .i64 k ∧ Aside0 (ARow wr w.heap.size l k (sIn d)) ∧ Aside0 (ARow wr w.heap.size m k (sRev d)) ∧ Aside0 (NeB l m) ∧ Aside0 (Below w.heap.size w wr))
    (fun _ _ i _ => n + 1 - (intOf i).toNat)
  case atStart => exact ⟨0, by omega, rfl, HRA, HRB, HNE, HB⟩
  case round =>
    clear HRA HRB HNE HB HS
    obtain ⟨k, hk, rfl, HRA, HRB, HNE, HB⟩ := hrel
    by_cases hlen : k < n
    · have t9 : decide ((k : Int) < d + steps) = true := by simp; omega
      obtain ⟨z, hz⟩ : ∃ z, decide (d ≤ (k : Int)) = z := ⟨_, rfl⟩
      go_wp2_with (first | ((with_reducible refine gate_builtin (b := .append) (xs := #[.tmp 55, .tmp 60]) rfl ?_); at_builtin; refine print_append_cells (w0 := w) w.heap.size rfl (.tmp 55) (.tmp 60) 37 29 (.agg #[.bool false, .bool false, .bool false, .bool false]) 4 4 rfl Tryd.underlying37 info29 rfl (by decide) (by decide) _ k _ [.bool false, .bool z, .bool false, .bool false] rfl rfl rfl (four_bools _ _ _ _) HRA.out.own HB.out HB.out.size (by omega) ?_; intro v1 w1 hown hbel hgrow hat; replace hown := Aside0.mk hown; replace hgrow := Aside0.mk hgrow; replace hat := Aside0.mk hat; have HR1 : Aside0 (ARow w1 w.heap.size v1 (k + 1) (sIn d)) := ⟨⟨by rw [rowCells, show sIn d k = (false, z, false) by unfold sIn; rw [hz]]; exact hown.out⟩⟩; have HNE1 := Aside0.mk (HNE.out.app HRB.out hat.out); replace HRB := Aside0.mk (HRB.out.grown hgrow.out HNE.out.not); replace HB := Aside0.mk hbel; clear hown hbel hgrow hat HNE HRA) | ((with_reducible refine gate_builtin (b := .append) (xs := #[.tmp 62, .tmp 67]) rfl ?_); at_builtin; refine print_append_cells (w0 := w) w.heap.size rfl (.tmp 62) (.tmp 67) 37 29 (.agg #[.bool false, .bool false, .bool false, .bool false]) 4 4 rfl Tryd.underlying37 info29 rfl (by decide) (by decide) _ k _ [.bool false, .bool false, .bool z, .bool false] rfl rfl rfl (four_bools _ _ _ _) HRB.out.own HB.out HB.out.size (by omega) ?_; intro v2 w2 hown hbel hgrow hat; replace hown := Aside0.mk hown; replace hgrow := Aside0.mk hgrow; replace hat := Aside0.mk hat; have HR2 : Aside0 (ARow w2 w.heap.size v2 (k + 1) (sRev d)) := ⟨⟨by rw [rowCells, show sRev d k = (false, false, z) by unfold sRev; rw [hz]]; exact hown.out⟩⟩; have HNE := Aside0.mk (HNE1.out.symm.app HR1.out hat.out).symm; replace HR1 := Aside0.mk (HR1.out.grown hgrow.out HNE1.out.symm.not); replace HB := Aside0.mk hbel; clear hown hbel hgrow hat HNE1 HRB; clear hz))
      go_roundw
      case rel => exact ⟨k + 1, by omega, by go_num, HR1, HR2, HNE, HB⟩
      case measure => simp [intOf]; omega
    · obtain rfl : k = n := by omega
      have t9 : decide ((k : Int) < d + steps) = false := by simp; omega
      obtain ⟨la, ca, rfl, hra⟩ := HRA.out.reads
      obtain ⟨lb, cb, rfl, hrb⟩ := HRB.out.reads
      have HRA' := Aside0.mk hra
      have HRB' := Aside0.mk hrb
      have HS := Aside0.mk (HSW.out.below HB.out)
      clear hra hrb HRA HRB HNE
      have BN := Aside0.mk (Bk.new wr #[.int .i64 (-1), .int .i64 (-1)] 38)
      have HBN := Aside0.mk (below_alloc (Below.refl wr.heap.size wr) (.cells #[.int .i64 (-1), .int .i64 (-1)] 38))
      replace HS := Aside0.mk (HS.out.below HBN.out)
      replace HRA' := Aside0.mk (HRA'.out.below HBN.out)
      replace HRB' := Aside0.mk (HRB'.out.below HBN.out)
      replace HB := Aside0.mk (below_step HB.out HBN.out)
      clear HBN
      go_wp2_with fail
      generalize wr.alloc (.cells #[.int .i64 (-1), .int .i64 (-1)] 38) = W1 at *
      generalize wr.heap.size = nb at *
      have HP1 : Aside0 (∀ w', Below W1.heap.size W1 w' → Calls Tryd.prog 14 #[.int .i64 2, .int .i64 0, .int .i64 guard, .slice la k ca, .slice lb k cb] w' fun e w'' => e = .returned (.agg #[.int .i64 (-1), .int .i64 (-1)]) ∧ Below W1.heap.size W1 w'') :=
        ⟨fun w' hb => (pair_is (ext_over guard d (by omega) (by omega) k) rfl rfl w' (HS.out.below hb) (by omega) (HRA'.out.below hb) (HRB'.out.below hb)).mono fun _ _ ⟨he, hb'⟩ => ⟨he, below_step hb hb'⟩⟩
      have HP2 : Aside0 (∀ w', Below W1.heap.size W1 w' → Calls Tryd.prog 14 #[.int .i64 3, .int .i64 wait, .int .i64 guard, .slice la k ca, .slice lb k cb] w' fun e w'' => e = .returned (.agg #[.int .i64 (-1), .int .i64 (-1)]) ∧ Below W1.heap.size W1 w'') :=
        ⟨fun w' hb => (pair_is (ext_block wait guard d (by omega) (by omega) (by omega) k) rfl rfl w' (HS.out.below hb) (by omega) (HRA'.out.below hb) (HRB'.out.below hb)).mono fun _ _ ⟨he, hb'⟩ => ⟨he, below_step hb hb'⟩⟩
      clear HRA' HRB'
      have q0 := BN.out.c 0 (v := .int .i64 (-1)) rfl
      have q1 := BN.out.c 1 (v := .int .i64 (-1)) rfl
      refine Q.q_start (by kernel_rfl) (by kernel_rfl) ?_
      refine Q.q_call (N := some 70) (v := .bool true) (a' := ?_) 10 #[] rfl (by rfl) Tryd.func10 (by kernel_rfl) rfl (by rfl) (by first | rfl | (simp only [List.map_toArray, List.map_cons, List.map_nil]; done) | (simp only [List.map_toArray, List.map_cons, List.map_nil]; rfl)) (fun w' hb => (known_calls w' (HS.out.below hb)).mono fun e w'' ⟨he, hb'⟩ => ⟨he, below_step hb hb'⟩) ?_ ?_
      rotate_left
      · simp only [Act.put, List.setIfInBounds_toArray, List.set_cons_zero, List.set_cons_succ, i64_w, i32_w]
        rfl
      refine Q.q_value (N := some 71) (v := ?_) (a' := ?_) rfl (by rfl) ?_ ?_ ?_
      rotate_left
      · intro w' hb
        clear hb
        go_simp
        with_reducible rfl
      rotate_left
      · simp only [Act.put, List.setIfInBounds_toArray, List.set_cons_zero, List.set_cons_succ, i64_w, i32_w]
        rfl
      refine Q.q_value (N := some 72) (v := ?_) (a' := ?_) rfl (by rfl) ?_ ?_ ?_
      rotate_left
      · intro w' hb
        clear hb
        go_simp
        with_reducible rfl
      rotate_left
      · simp only [Act.put, List.setIfInBounds_toArray, List.set_cons_zero, List.set_cons_succ, i64_w, i32_w]
        rfl
      refine Q.q_value (N := some 73) (v := ?_) (a' := ?_) rfl (by rfl) ?_ ?_ ?_
      rotate_left
      · intro w' hb
        clear hb
        go_simp
        with_reducible rfl
      rotate_left
      · simp only [Act.put, List.setIfInBounds_toArray, List.set_cons_zero, List.set_cons_succ, i64_w, i32_w]
        rfl
      refine Q.q_value (N := some 74) (v := ?_) (a' := ?_) rfl (by rfl) ?_ ?_ ?_
      rotate_left
      · intro w' hb
        clear hb
        go_simp
        with_reducible rfl
      rotate_left
      · simp only [Act.put, List.setIfInBounds_toArray, List.set_cons_zero, List.set_cons_succ, i64_w, i32_w]
        rfl
      refine Q.q_call (N := some 75) (v := .agg #[.int .i64 (-1), .int .i64 (-1)]) (a' := ?_) 14 #[.int .i64 2, .int .i64 0, .int .i64 guard, .slice la k ca, .slice lb k cb] rfl (by rfl) Tryd.func14 (by kernel_rfl) rfl (by rfl) (by first | rfl | (simp only [List.map_toArray, List.map_cons, List.map_nil]; done) | (simp only [List.map_toArray, List.map_cons, List.map_nil]; rfl)) (HP1.out) ?_ ?_
      rotate_left
      · simp only [Act.put, List.setIfInBounds_toArray, List.set_cons_zero, List.set_cons_succ, i64_w, i32_w]
        rfl
      refine Q.q_value (N := some 76) (v := ?_) (a' := ?_) rfl (by rfl) ?_ ?_ ?_
      rotate_left
      · intro w' hb
        have s0 := pw_cell_below hb q0
        have s1 := pw_cell_below hb q1
        clear hb
        go_simp
        with_reducible rfl
      rotate_left
      · simp only [Act.put, List.setIfInBounds_toArray, List.set_cons_zero, List.set_cons_succ, i64_w, i32_w]
        rfl
      refine Q.q_value (N := some 77) (v := ?_) (a' := ?_) rfl (by rfl) ?_ ?_ ?_
      rotate_left
      · intro w' hb
        clear hb
        go_simp
        with_reducible rfl
      rotate_left
      · simp only [Act.put, List.setIfInBounds_toArray, List.set_cons_zero, List.set_cons_succ, i64_w, i32_w]
        rfl
      refine Q.q_value (N := some 78) (v := ?_) (a' := ?_) rfl (by rfl) ?_ ?_ ?_
      rotate_left
      · intro w' hb
        clear hb
        go_simp
        with_reducible rfl
      rotate_left
      · simp only [Act.put, List.setIfInBounds_toArray, List.set_cons_zero, List.set_cons_succ, i64_w, i32_w]
        rfl
      refine Q.q_value (N := some 79) (v := ?_) (a' := ?_) rfl (by rfl) ?_ ?_ ?_
      rotate_left
      · intro w' hb
        clear hb
        go_simp
        with_reducible rfl
      rotate_left
      · simp only [Act.put, List.setIfInBounds_toArray, List.set_cons_zero, List.set_cons_succ, i64_w, i32_w]
        rfl
      refine Q.q_value (N := some 80) (v := ?_) (a' := ?_) rfl (by rfl) ?_ ?_ ?_
      rotate_left
      · intro w' hb
        clear hb
        go_simp
        with_reducible rfl
      rotate_left
      · simp only [Act.put, List.setIfInBounds_toArray, List.set_cons_zero, List.set_cons_succ, i64_w, i32_w]
        rfl
      refine Q.q_value (N := some 81) (v := ?_) (a' := ?_) rfl (by rfl) ?_ ?_ ?_
      rotate_left
      · intro w' hb
        clear hb
        go_simp
        with_reducible rfl
      rotate_left
      · simp only [Act.put, List.setIfInBounds_toArray, List.set_cons_zero, List.set_cons_succ, i64_w, i32_w]
        rfl
      refine Q.q_value (N := some 82) (v := ?_) (a' := ?_) rfl (by rfl) ?_ ?_ ?_
      rotate_left
      · intro w' hb
        clear hb
        go_simp
        with_reducible rfl
      rotate_left
      · simp only [Act.put, List.setIfInBounds_toArray, List.set_cons_zero, List.set_cons_succ, i64_w, i32_w]
        rfl
      refine Q.q_value (N := some 83) (v := ?_) (a' := ?_) rfl (by rfl) ?_ ?_ ?_
      rotate_left
      · intro w' hb
        clear hb
        go_simp
        with_reducible rfl
      rotate_left
      · simp only [Act.put, List.setIfInBounds_toArray, List.set_cons_zero, List.set_cons_succ, i64_w, i32_w]
        rfl
      refine Q.q_call (N := some 84) (v := .agg #[.int .i64 (-1), .int .i64 (-1)]) (a' := ?_) 14 #[.int .i64 3, .int .i64 wait, .int .i64 guard, .slice la k ca, .slice lb k cb] rfl (by rfl) Tryd.func14 (by kernel_rfl) rfl (by rfl) (by first | rfl | (simp only [List.map_toArray, List.map_cons, List.map_nil]; done) | (simp only [List.map_toArray, List.map_cons, List.map_nil]; rfl)) (HP2.out) ?_ ?_
      rotate_left
      · simp only [Act.put, List.setIfInBounds_toArray, List.set_cons_zero, List.set_cons_succ, i64_w, i32_w]
        rfl
      refine Q.q_value (N := some 85) (v := ?_) (a' := ?_) rfl (by rfl) ?_ ?_ ?_
      rotate_left
      · intro w' hb
        have s0 := pw_cell_below hb q0
        have s1 := pw_cell_below hb q1
        clear hb
        go_simp
        with_reducible rfl
      rotate_left
      · simp only [Act.put, List.setIfInBounds_toArray, List.set_cons_zero, List.set_cons_succ, i64_w, i32_w]
        rfl
      refine Q.q_value (N := some 86) (v := ?_) (a' := ?_) rfl (by rfl) ?_ ?_ ?_
      rotate_left
      · intro w' hb
        clear hb
        go_simp
        with_reducible rfl
      rotate_left
      · simp only [Act.put, List.setIfInBounds_toArray, List.set_cons_zero, List.set_cons_succ, i64_w, i32_w]
        rfl
      refine Q.q_value (N := some 87) (v := ?_) (a' := ?_) rfl (by rfl) ?_ ?_ ?_
      rotate_left
      · intro w' hb
        clear hb
        go_simp
        with_reducible rfl
      rotate_left
      · simp only [Act.put, List.setIfInBounds_toArray, List.set_cons_zero, List.set_cons_succ, i64_w, i32_w]
        rfl
      refine Q.q_value (N := some 6) (v := ?_) (a' := ?_) rfl (by rfl) ?_ ?_ ?_
      rotate_left
      · intro w' hb
        clear hb
        go_simp
        with_reducible rfl
      rotate_left
      · simp only [Act.put, List.setIfInBounds_toArray, List.set_cons_zero, List.set_cons_succ, i64_w, i32_w]
        rfl
      refine wpQuiet_nil ?_
      intro w3 HB1
      replace HB := Aside0.mk (below_step HB.out HB1)
      clear HB1
      go_wp2_with fail
      go_ret
      exact ⟨rfl, HB.out⟩
end Go.Proofs.YthnbokmnplipkaaDoor.A
