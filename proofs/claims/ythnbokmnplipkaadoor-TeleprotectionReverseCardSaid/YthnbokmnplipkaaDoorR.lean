import Derived.Test.YthnbokmnplipkaaDoorU
/- The walk of TeleprotectionReverse. The condition Sch is its own. -/
namespace Go.Proofs.YthnbokmnplipkaaDoor.A
open Go.RowKit Go.Proofs.YthnbokmnplipkaaDoorW.PrintWords Go.Proofs.YthnbokmnplipkaaDoorW.PrintLast Go.Proofs.YthnbokmnplipkaaDoorW.PrintMore
open Go.Proofs.YthnbokmnplipkaaDoor.PTeleprotectionSteps
open Go.Proofs.YthnbokmnplipkaaDoor
attribute [local go_sem] max2_int min2_int max_two min_two max_three min_three max_four min_four eq38
set_option linter.unusedVariables false
set_option linter.unusedSimpArgs false

set_option maxRecDepth 100000 in
set_option maxHeartbeats 3000000 in
theorem TeleprotectionReverse_walk (guard d before after_ : Int) (w : World) (hs : Sch w) :
    Calls Tryd.prog 7 #[.agg #[.int .i64 guard, .int .i64 d, .int .i64 before, .int .i64 after_]] w fun e w' => e = .returned (.bool true) ∧ Below w.heap.size w w' := by
  have HS := Aside0.mk hs
  have HSW := Aside0.mk hs
  clear hs
  have HB := Aside0.mk (below_alloc (Below.refl w.heap.size w) (.cells #[.int .i64 guard, .int .i64 d, .int .i64 before, .int .i64 after_] 42))
  have BS := Aside0.mk (Bk.new w #[.int .i64 guard, .int .i64 d, .int .i64 before, .int .i64 after_] 42)
  replace HS := Aside0.mk (HS.out.below HB.out)
  go_enter Tryd.func7, Tryd.ntmps7
  go_wp2_with fail
  generalize w.alloc (.cells #[.int .i64 guard, .int .i64 d, .int .i64 before, .int .i64 after_] 42) = W0 at *
  obtain ⟨sb, hsb⟩ : ∃ sb, w.heap.size = sb := ⟨_, rfl⟩
  rw [hsb] at BS ⊢
  clear hsb
  have q0 := BS.out.c 0 (v := .int .i64 guard) rfl
  have q1 := BS.out.c 1 (v := .int .i64 d) rfl
  have q2 := BS.out.c 2 (v := .int .i64 before) rfl
  have q3 := BS.out.c 3 (v := .int .i64 after_) rfl
  refine Q.q_start (by kernel_rfl) (by kernel_rfl) ?_
  refine Q.q_value (N := some 11) (v := ?_) (a' := ?_) rfl (by rfl) ?_ ?_ ?_
  rotate_left
  · intro w' hb
    clear hb
    go_simp
    with_reducible rfl
  rotate_left
  · simp only [Act.put, List.setIfInBounds_toArray, List.set_cons_zero, List.set_cons_succ, i64_w, i32_w]
    rfl
  refine Q.q_value (N := some 12) (v := ?_) (a' := ?_) rfl (by rfl) ?_ ?_ ?_
  rotate_left
  · intro w' hb
    have s0 := pw_cell_below hb q0
    clear hb
    go_simp
    with_reducible rfl
  rotate_left
  · simp only [Act.put, List.setIfInBounds_toArray, List.set_cons_zero, List.set_cons_succ, i64_w, i32_w]
    rfl
  refine Q.q_value (N := some 13) (v := ?_) (a' := ?_) rfl (by rfl) ?_ ?_ ?_
  rotate_left
  · intro w' hb
    clear hb
    go_simp
    with_reducible rfl
  rotate_left
  · simp only [Act.put, List.setIfInBounds_toArray, List.set_cons_zero, List.set_cons_succ, i64_w, i32_w]
    rfl
  refine Q.q_value (N := some 14) (v := ?_) (a' := ?_) rfl (by rfl) ?_ ?_ ?_
  rotate_left
  · intro w' hb
    have s0 := pw_cell_below hb q1
    clear hb
    go_simp
    with_reducible rfl
  rotate_left
  · simp only [Act.put, List.setIfInBounds_toArray, List.set_cons_zero, List.set_cons_succ, i64_w, i32_w]
    rfl
  refine Q.q_value (N := some 15) (v := ?_) (a' := ?_) rfl (by rfl) ?_ ?_ ?_
  rotate_left
  · intro w' hb
    clear hb
    go_simp
    with_reducible rfl
  rotate_left
  · simp only [Act.put, List.setIfInBounds_toArray, List.set_cons_zero, List.set_cons_succ, i64_w, i32_w]
    rfl
  refine Q.q_value (N := some 16) (v := ?_) (a' := ?_) rfl (by rfl) ?_ ?_ ?_
  rotate_left
  · intro w' hb
    have s0 := pw_cell_below hb q2
    clear hb
    go_simp
    with_reducible rfl
  rotate_left
  · simp only [Act.put, List.setIfInBounds_toArray, List.set_cons_zero, List.set_cons_succ, i64_w, i32_w]
    rfl
  refine Q.q_value (N := some 17) (v := ?_) (a' := ?_) rfl (by rfl) ?_ ?_ ?_
  rotate_left
  · intro w' hb
    clear hb
    go_simp
    with_reducible rfl
  rotate_left
  · simp only [Act.put, List.setIfInBounds_toArray, List.set_cons_zero, List.set_cons_succ, i64_w, i32_w]
    rfl
  refine Q.q_value (N := some 18) (v := ?_) (a' := ?_) rfl (by rfl) ?_ ?_ ?_
  rotate_left
  · intro w' hb
    have s0 := pw_cell_below hb q3
    clear hb
    go_simp
    with_reducible rfl
  rotate_left
  · simp only [Act.put, List.setIfInBounds_toArray, List.set_cons_zero, List.set_cons_succ, i64_w, i32_w]
    rfl
  refine Q.q_value (N := some 3) (v := ?_) (a' := ?_) rfl (by rfl) ?_ ?_ ?_
  rotate_left
  · intro w' hb
    clear hb
    go_simp
    with_reducible rfl
  rotate_left
  · simp only [Act.put, List.setIfInBounds_toArray, List.set_cons_zero, List.set_cons_succ, i64_w, i32_w]
    rfl
  refine Q.q_value (N := some 4) (v := ?_) (a' := ?_) rfl (by rfl) ?_ ?_ ?_
  rotate_left
  · intro w' hb
    clear hb
    go_simp
    with_reducible rfl
  rotate_left
  · simp only [Act.put, List.setIfInBounds_toArray, List.set_cons_zero, List.set_cons_succ, i64_w, i32_w]
    rfl
  refine Q.q_value (N := some 5) (v := ?_) (a' := ?_) rfl (by rfl) ?_ ?_ ?_
  rotate_left
  · intro w' hb
    clear hb
    go_simp
    with_reducible rfl
  rotate_left
  · simp only [Act.put, List.setIfInBounds_toArray, List.set_cons_zero, List.set_cons_succ, i64_w, i32_w]
    rfl
  refine Q.q_value (N := some 6) (v := ?_) (a' := ?_) rfl (by rfl) ?_ ?_ ?_
  rotate_left
  · intro w' hb
    clear hb
    go_simp
    with_reducible rfl
  rotate_left
  · simp only [Act.put, List.setIfInBounds_toArray, List.set_cons_zero, List.set_cons_succ, i64_w, i32_w]
    rfl
  refine wpQuiet_nil ?_
  intro w1 HB1
  replace HS := Aside0.mk (HS.out.below HB1)
  replace HB := Aside0.mk (below_step HB.out HB1)
  clear HB1 BS q0 q1 q2 q3
  by_cases g0 : guard < 1
  · have t0 : decide (guard < 1) = true := by simpa using g0
    go_wp2_with fail
    with_reducible refine (known_calls _ HS.out).mono ?_
    rintro e w2 ⟨rfl, HB1⟩
    replace HB := Aside0.mk (below_step HB.out HB1)
    clear HB1
    go_wp2_with fail
    go_ret
    exact ⟨rfl, HB.out⟩
  have t0 : decide (guard < 1) = false := by simpa using g0
  by_cases g1 : 50 < guard
  · have t1 : decide (50 < guard) = true := by simpa using g1
    go_wp2_with fail
    with_reducible refine (known_calls _ HS.out).mono ?_
    rintro e w2 ⟨rfl, HB1⟩
    replace HB := Aside0.mk (below_step HB.out HB1)
    clear HB1
    go_wp2_with fail
    go_ret
    exact ⟨rfl, HB.out⟩
  have t1 : decide (50 < guard) = false := by simpa using g1
  by_cases g2 : d < 0
  · have t2 : decide (d < 0) = true := by simpa using g2
    go_wp2_with fail
    with_reducible refine (known_calls _ HS.out).mono ?_
    rintro e w2 ⟨rfl, HB1⟩
    replace HB := Aside0.mk (below_step HB.out HB1)
    clear HB1
    go_wp2_with fail
    go_ret
    exact ⟨rfl, HB.out⟩
  have t2 : decide (d < 0) = false := by simpa using g2
  by_cases g3 : 5 < d
  · have t3 : decide (5 < d) = true := by simpa using g3
    go_wp2_with fail
    with_reducible refine (known_calls _ HS.out).mono ?_
    rintro e w2 ⟨rfl, HB1⟩
    replace HB := Aside0.mk (below_step HB.out HB1)
    clear HB1
    go_wp2_with fail
    go_ret
    exact ⟨rfl, HB.out⟩
  have t3 : decide (5 < d) = false := by simpa using g3
  by_cases g4 : before < 1
  · have t4 : decide (before < 1) = true := by simpa using g4
    go_wp2_with fail
    with_reducible refine (known_calls _ HS.out).mono ?_
    rintro e w2 ⟨rfl, HB1⟩
    replace HB := Aside0.mk (below_step HB.out HB1)
    clear HB1
    go_wp2_with fail
    go_ret
    exact ⟨rfl, HB.out⟩
  have t4 : decide (before < 1) = false := by simpa using g4
  by_cases g5 : 30 < before
  · have t5 : decide (30 < before) = true := by simpa using g5
    go_wp2_with fail
    with_reducible refine (known_calls _ HS.out).mono ?_
    rintro e w2 ⟨rfl, HB1⟩
    replace HB := Aside0.mk (below_step HB.out HB1)
    clear HB1
    go_wp2_with fail
    go_ret
    exact ⟨rfl, HB.out⟩
  have t5 : decide (30 < before) = false := by simpa using g5
  by_cases g6 : after_ < 0
  · have t6 : decide (after_ < 0) = true := by simpa using g6
    go_wp2_with fail
    with_reducible refine (known_calls _ HS.out).mono ?_
    rintro e w2 ⟨rfl, HB1⟩
    replace HB := Aside0.mk (below_step HB.out HB1)
    clear HB1
    go_wp2_with fail
    go_ret
    exact ⟨rfl, HB.out⟩
  have t6 : decide (after_ < 0) = false := by simpa using g6
  by_cases g7 : guard < after_
  · have t7 : decide (guard < after_) = true := by simpa using g7
    go_wp2_with fail
    with_reducible refine (known_calls _ HS.out).mono ?_
    rintro e w2 ⟨rfl, HB1⟩
    replace HB := Aside0.mk (below_step HB.out HB1)
    clear HB1
    go_wp2_with fail
    go_ret
    exact ⟨rfl, HB.out⟩
  have t7 : decide (guard < after_) = false := by simpa using g7
  obtain ⟨n, hn⟩ : ∃ n : Nat, (n : Int) = d + before + after_ := ⟨(d + before + after_).toNat, by omega⟩
  have HN := Aside0.mk hn
  have hn1 : (n : Int) ≤ d + before + after_ := by omega
  have hn2 : d + before + after_ ≤ (n : Int) := by omega
  clear hn
  have HRA := Aside0.mk (ARow.nil w1 w.heap.size (sA d (d + before)))
  have HRB := Aside0.mk (ARow.nil w1 w.heap.size (sB d (d + before)))
  have HNE := Aside0.mk (NeB.nil (.slice none 0 0))
  go_wp2_with fail
  go_loopw [7, 8, 9] (fun l m i wr => ∃ k : Nat, k ≤ n ∧ i = .int .i64 k ∧ Aside0 (ARow wr w.heap.size l k (sA d (d + before))) ∧ Aside0 (ARow wr w.heap.size m k (sB d (d + before))) ∧ Aside0 (NeB l m) ∧ Aside0 (Below w.heap.size w wr))
    (fun _ _ i _ => n + 1 - (intOf i).toNat)
  case atStart => exact ⟨0, by omega, rfl, HRA, HRB, HNE, HB⟩
  case round =>
    clear HRA HRB HNE HB HS
    obtain ⟨k, hk, rfl, HRA, HRB, HNE, HB⟩ := hrel
    by_cases hlen : k < n
    · have t9 : decide ((k : Int) < d + before + after_) = true := by simp; omega
      obtain ⟨z, hz⟩ : ∃ z, decide (d ≤ (k : Int)) = z := ⟨_, rfl⟩
      obtain ⟨y, hy⟩ : ∃ z, decide (d + before ≤ (k : Int)) = z := ⟨_, rfl⟩
      cases z with
      | false =>
        go_wp2_with (first | ((with_reducible refine gate_builtin (b := .append) (xs := #[.tmp 65, .tmp 74]) rfl ?_); at_builtin; refine print_append_cells (w0 := w) w.heap.size rfl (.tmp 65) (.tmp 74) 37 29 (.agg #[.bool false, .bool false, .bool false, .bool false]) 4 4 rfl Tryd.underlying37 info29 rfl (by decide) (by decide) _ k _ [.bool false, .bool false, .bool false, .bool false] rfl rfl rfl (four_bools _ _ _ _) HRA.out.own HB.out HB.out.size (by omega) ?_; intro v1 w1 hown hbel hgrow hat; replace hown := Aside0.mk hown; replace hgrow := Aside0.mk hgrow; replace hat := Aside0.mk hat; have HR1 : Aside0 (ARow w1 w.heap.size v1 (k + 1) (sA d (d + before))) := ⟨⟨by rw [rowCells, show sA d (d + before) k = (false, false, false) by unfold sA; rw [hz, hy]; rfl]; exact hown.out⟩⟩; have HNE1 := Aside0.mk (HNE.out.app HRB.out hat.out); replace HRB := Aside0.mk (HRB.out.grown hgrow.out HNE.out.not); replace HB := Aside0.mk hbel; clear hown hbel hgrow hat HNE HRA) | ((with_reducible refine gate_builtin (b := .append) (xs := #[.tmp 76, .tmp 86]) rfl ?_); at_builtin; refine print_append_cells (w0 := w) w.heap.size rfl (.tmp 76) (.tmp 86) 37 29 (.agg #[.bool false, .bool false, .bool false, .bool false]) 4 4 rfl Tryd.underlying37 info29 rfl (by decide) (by decide) _ k _ [.bool false, .bool y, .bool false, .bool false] rfl rfl rfl (four_bools _ _ _ _) HRB.out.own HB.out HB.out.size (by omega) ?_; intro v2 w2 hown hbel hgrow hat; replace hown := Aside0.mk hown; replace hgrow := Aside0.mk hgrow; replace hat := Aside0.mk hat; have HR2 : Aside0 (ARow w2 w.heap.size v2 (k + 1) (sB d (d + before))) := ⟨⟨by rw [rowCells, show sB d (d + before) k = (false, y, false) by unfold sB; rw [hz, hy]; rfl]; exact hown.out⟩⟩; have HNE := Aside0.mk (HNE1.out.symm.app HR1.out hat.out).symm; replace HR1 := Aside0.mk (HR1.out.grown hgrow.out HNE1.out.symm.not); replace HB := Aside0.mk hbel; clear hown hbel hgrow hat HNE1 HRB; clear hz hy))
        go_roundw
        case rel => exact ⟨k + 1, by omega, by go_num, HR1, HR2, HNE, HB⟩
        case measure => simp [intOf]; omega
      | true =>
        go_wp2_with (first | ((with_reducible refine gate_builtin (b := .append) (xs := #[.tmp 65, .tmp 74]) rfl ?_); at_builtin; refine print_append_cells (w0 := w) w.heap.size rfl (.tmp 65) (.tmp 74) 37 29 (.agg #[.bool false, .bool false, .bool false, .bool false]) 4 4 rfl Tryd.underlying37 info29 rfl (by decide) (by decide) _ k _ [.bool false, .bool (!y), .bool false, .bool false] rfl rfl rfl (four_bools _ _ _ _) HRA.out.own HB.out HB.out.size (by omega) ?_; intro v1 w1 hown hbel hgrow hat; replace hown := Aside0.mk hown; replace hgrow := Aside0.mk hgrow; replace hat := Aside0.mk hat; have HR1 : Aside0 (ARow w1 w.heap.size v1 (k + 1) (sA d (d + before))) := ⟨⟨by rw [rowCells, show sA d (d + before) k = (false, !y, false) by unfold sA; rw [hz, hy]; rfl]; exact hown.out⟩⟩; have HNE1 := Aside0.mk (HNE.out.app HRB.out hat.out); replace HRB := Aside0.mk (HRB.out.grown hgrow.out HNE.out.not); replace HB := Aside0.mk hbel; clear hown hbel hgrow hat HNE HRA) | ((with_reducible refine gate_builtin (b := .append) (xs := #[.tmp 76, .tmp 86]) rfl ?_); at_builtin; refine print_append_cells (w0 := w) w.heap.size rfl (.tmp 76) (.tmp 86) 37 29 (.agg #[.bool false, .bool false, .bool false, .bool false]) 4 4 rfl Tryd.underlying37 info29 rfl (by decide) (by decide) _ k _ [.bool false, .bool y, .bool (!y), .bool false] rfl rfl rfl (four_bools _ _ _ _) HRB.out.own HB.out HB.out.size (by omega) ?_; intro v2 w2 hown hbel hgrow hat; replace hown := Aside0.mk hown; replace hgrow := Aside0.mk hgrow; replace hat := Aside0.mk hat; have HR2 : Aside0 (ARow w2 w.heap.size v2 (k + 1) (sB d (d + before))) := ⟨⟨by rw [rowCells, show sB d (d + before) k = (false, y, !y) by unfold sB; rw [hz, hy]; rfl]; exact hown.out⟩⟩; have HNE := Aside0.mk (HNE1.out.symm.app HR1.out hat.out).symm; replace HR1 := Aside0.mk (HR1.out.grown hgrow.out HNE1.out.symm.not); replace HB := Aside0.mk hbel; clear hown hbel hgrow hat HNE1 HRB; clear hz hy))
        go_roundw
        case rel => exact ⟨k + 1, by omega, by go_num, HR1, HR2, HNE, HB⟩
        case measure => simp [intOf]; omega
    · obtain rfl : k = n := by omega
      have t9 : decide ((k : Int) < d + before + after_) = false := by simp; omega
      obtain ⟨la, ca, rfl, hra⟩ := HRA.out.reads
      obtain ⟨lb, cb, rfl, hrb⟩ := HRB.out.reads
      have HRA' := Aside0.mk hra
      have HRB' := Aside0.mk hrb
      have HS := Aside0.mk (HSW.out.below HB.out)
      clear hra hrb HRA HRB HNE
      go_wp2_with fail
      with_reducible refine (known_calls _ HS.out).mono ?_
      rintro e w3 ⟨rfl, HB1⟩
      replace HB := Aside0.mk (below_step HB.out HB1)
      replace HS := Aside0.mk (HS.out.below HB1)
      replace HRA' := Aside0.mk (HRA'.out.below HB1)
      replace HRB' := Aside0.mk (HRB'.out.below HB1)
      clear HB1
      have HP1 : Aside0 (Calls Tryd.prog 14 #[.int .i64 2, .int .i64 0, .int .i64 guard, .slice la k ca, .slice lb k cb] w3 fun e w'' => e = .returned (.agg #[.int .i64 (-1), .int .i64 (-1)]) ∧ Below w3.heap.size w3 w'') :=
        ⟨by
          obtain ⟨s, e⟩ := rev_over guard d (d + before) (by omega) (by omega) (by omega) k (by omega)
          exact pair_is e rfl rfl w3 HS.out (by omega) HRA'.out HRB'.out⟩
      clear HRA' HRB'
      go_wp2_with fail
      with_reducible refine HP1.out.mono ?_
      rintro e w4 ⟨rfl, HB1⟩
      replace HB := Aside0.mk (below_step HB.out HB1)
      clear HB1
      go_wp2_with fail
      go_ret
      exact ⟨rfl, HB.out⟩
end Go.Proofs.YthnbokmnplipkaaDoor.A
