import Derived.Test.YtcehcblhmgeonaaG
/- The walk of ResampleExact; no condition. -/
namespace Go.Proofs.Ytcehcblhmgeonaa.A
open Go.RowKit Go.Proofs.YtcehcblhmgeonaaW.PrintWords Go.Proofs.YtcehcblhmgeonaaW.PrintLast Go.Proofs.YtcehcblhmgeonaaW.PrintMore
attribute [local go_sem] max2_int min2_int max_two min_two max_three min_three max_four min_four
set_option linter.unusedVariables false

def tm (k j : Nat) (x : Int) : Int := if j < k then x.tmod 500 else x
theorem tm_bd (x : Int) : -499 ≤ x.tmod 500 ∧ x.tmod 500 ≤ 499 := by
  have h1 := Int.lt_tmod_of_pos x (show (0 : Int) < 500 by omega)
  have h2 := Int.tmod_lt_of_pos x (show (0 : Int) < 500 by omega)
  omega
def wantN (c0 c1 c2 c3 num den : Int) : Int := c0 * den * den * den + c1 * num * den * den + c2 * num * num * den + c3 * num * num * num
theorem exact_poly (c0 c1 c2 c3 num den : Int) : cubN (c0 - c1 + c2 - c3) c0 (c0 + c1 + c2 + c3) (c0 + 2 * c1 + 4 * c2 + 8 * c3) num den = 6 * wantN c0 c1 c2 c3 num den := by
  unfold cubN wantN; grind

structure ExFacts (c0 c1 c2 c3 num den n d : Int) : Prop where
  d0 : 0 < d ∧ d ≤ 6000000
  eq : n * (den * den * den) = wantN c0 c1 c2 c3 num den * d
  wn : -2000000000 ≤ wantN c0 c1 c2 c3 num den ∧ wantN c0 c1 c2 c3 num den ≤ 2000000000
  wr : wrap64 (wrap64 (wrap64 (wrap64 (wrap64 (wrap64 (c0 * den) * den) * den) + wrap64 (wrap64 (wrap64 (c1 * num) * den) * den)) + wrap64 (wrap64 (wrap64 (c2 * num) * num) * den)) + wrap64 (wrap64 (wrap64 (c3 * num) * num) * num)) = wantN c0 c1 c2 c3 num den
  dw : wrap64 (wrap64 (den * den) * den) = den * den * den
  l : wrap64 (n * (den * den * den)) = n * (den * den * den)
  r : wrap64 (wantN c0 c1 c2 c3 num den * d) = n * (den * den * den)

theorem ex_facts (c0 c1 c2 c3 num den : Int) (h0 : -499 ≤ c0 ∧ c0 ≤ 499) (h1 : -499 ≤ c1 ∧ c1 ≤ 499) (h2 : -499 ≤ c2 ∧ c2 ≤ 499) (h3 : -499 ≤ c3 ∧ c3 ≤ 499) (hd : 1 ≤ den ∧ den ≤ 100) (hn : 0 ≤ num ∧ num ≤ den) :
    cubOk (c0 - c1 + c2 - c3) c0 (c0 + c1 + c2 + c3) (c0 + 2 * c1 + 4 * c2 + 8 * c3) num den = true ∧
      ExFacts c0 c1 c2 c3 num den (cubA (c0 - c1 + c2 - c3) c0 (c0 + c1 + c2 + c3) (c0 + 2 * c1 + 4 * c2 + 8 * c3) num den) (cubB (c0 - c1 + c2 - c3) c0 (c0 + c1 + c2 + c3) (c0 + 2 * c1 + 4 * c2 + 8 * c3) num den) := by
  have ok : cubOk (c0 - c1 + c2 - c3) c0 (c0 + c1 + c2 + c3) (c0 + 2 * c1 + 4 * c2 + 8 * c3) num den = true := by
    rw [cubOk_iff, inS_iff, inS_iff, inS_iff, inS_iff, frac_iff]; omega
  refine ⟨ok, ?_⟩
  have eA : cubA (c0 - c1 + c2 - c3) c0 (c0 + c1 + c2 + c3) (c0 + 2 * c1 + 4 * c2 + 8 * c3) num den = redN (6 * wantN c0 c1 c2 c3 num den) (cubD den) := by rw [← exact_poly]; exact if_pos ok
  have eB : cubB (c0 - c1 + c2 - c3) c0 (c0 + c1 + c2 + c3) (c0 + 2 * c1 + 4 * c2 + 8 * c3) num den = redD (6 * wantN c0 c1 c2 c3 num den) (cubD den) := by rw [← exact_poly]; exact if_pos ok
  rw [eA, eB]
  have b0 : bd 499 c0 := h0
  have b1 : bd 499 c1 := h1
  have b2 : bd 499 c2 := h2
  have b3 : bd 499 c3 := h3
  have bD : bd 100 den := ⟨by omega, by omega⟩
  have bN : bd 100 num := ⟨by omega, by omega⟩
  have a1 := bd_mul b0 bD
  have a2 := bd_mul a1 bD
  have a3 := bd_mul a2 bD
  have e1 := bd_mul b1 bN
  have e2 := bd_mul e1 bD
  have e3 := bd_mul e2 bD
  have f1 := bd_mul b2 bN
  have f2 := bd_mul f1 bN
  have f3 := bd_mul f2 bD
  have g1 := bd_mul b3 bN
  have g2 := bd_mul g1 bN
  have g3 := bd_mul g2 bN
  have s1 := bd_add a3 e3
  have s2 := bd_add s1 f3
  have s3 := bd_add s2 g3
  have d1 := bd_mul bD bD
  have d2 := bd_mul d1 bD
  have hwn : bd 2000000000 (wantN c0 c1 c2 c3 num den) := ⟨Int.le_trans (by omega) s3.1, Int.le_trans s3.2 (by omega)⟩
  have wr : wrap64 (wrap64 (wrap64 (wrap64 (wrap64 (wrap64 (c0 * den) * den) * den) + wrap64 (wrap64 (wrap64 (c1 * num) * den) * den)) + wrap64 (wrap64 (wrap64 (c2 * num) * num) * den)) + wrap64 (wrap64 (wrap64 (c3 * num) * num) * num)) = wantN c0 c1 c2 c3 num den := by
    rw [bd_w a1 (by omega), bd_w a2 (by omega), bd_w a3 (by omega), bd_w e1 (by omega), bd_w e2 (by omega), bd_w e3 (by omega), bd_w f1 (by omega), bd_w f2 (by omega), bd_w f3 (by omega), bd_w g1 (by omega), bd_w g2 (by omega), bd_w g3 (by omega), bd_w s1 (by omega), bd_w s2 (by omega), bd_w s3 (by omega)]; rfl
  have dpos : 0 < den * den * den := Int.mul_pos (Int.mul_pos (by omega) (by omega)) (by omega)
  have cpos : 0 < cubD den := by unfold cubD; exact Int.mul_pos (Int.mul_pos (by omega) (by omega)) (by omega)
  have cD : cubD den = 6 * (den * den * den) := by unfold cubD; grind
  obtain ⟨r1, r2, r3, -, r5, -⟩ := red_facts (6 * wantN c0 c1 c2 c3 num den) (cubD den) cpos
  have hg : 0 < (Int.gcd (6 * wantN c0 c1 c2 c3 num den) (cubD den) : Int) := by have := Int.gcd_pos_of_ne_zero_right (6 * wantN c0 c1 c2 c3 num den) (show cubD den ≠ 0 by omega); omega
  generalize redN (6 * wantN c0 c1 c2 c3 num den) (cubD den) = n at *
  generalize redD (6 * wantN c0 c1 c2 c3 num den) (cubD den) = d at *
  generalize (Int.gcd (6 * wantN c0 c1 c2 c3 num den) (cubD den) : Int) = g at *
  have eq : n * (den * den * den) = wantN c0 c1 c2 c3 num den * d := by
    refine Int.eq_of_mul_eq_mul_right (show g ≠ 0 by omega) ?_
    rw [cD] at r2
    generalize den * den * den = D3 at *
    grind
  have dd : bd 6000000 d := ⟨by omega, by have := d2.2; omega⟩
  have x := bd_mul hwn dd
  exact ⟨⟨r3, by have := d2.2; omega⟩, eq, hwn, wr, by rw [bd_w d1 (by omega), bd_w d2 (by omega)], by rw [eq]; exact bd_w x (by omega), by rw [← eq] at x ⊢; exact bd_w x (by omega)⟩

def vs (c0 c1 c2 c3 : Int) (k : Nat) : Int := match k with
  | 0 => c0 - c1 + c2 - c3
  | 1 => c0
  | 2 => c0 + c1 + c2 + c3
  | _ => c0 + 2 * c1 + 4 * c2 + 8 * c3
def ts (k j : Nat) (x : Int) : Int := if j < k then x else 0
theorem Box4.far {w : World} {b : Nat} {s0 s1 s2 s3 : Int} (h : Box4 w b s0 s1 s2 s3) {b' : Nat} (hne : b ≠ b') (j : Nat) (u : Value) : Box4 (w.setCell ⟨b', j, none⟩ u) b s0 s1 s2 s3 := ⟨blk_far h.blk hne u⟩

set_option maxHeartbeats 4000000 in
theorem ResampleExact_walk (s0 s1 s2 s3 num den : Int) (w : World) (hw : (Lit.int .i64 s0).wf = true ∧ (Lit.int .i64 s1).wf = true ∧ (Lit.int .i64 s2).wf = true ∧ (Lit.int .i64 s3).wf = true) (hw1 : (Lit.int .i64 num).wf = true) (hw2 : (Lit.int .i64 den).wf = true) :
    Calls Try.prog 3 #[.agg #[.int .i64 s0, .int .i64 s1, .int .i64 s2, .int .i64 s3], .int .i64 num, .int .i64 den] w fun e w' => e = .returned (.bool true) ∧ Below w.heap.size w w' := by
  have BX := Box4.made w s0 s1 s2 s3
  have HW := Aside0.mk (below_alloc (Below.refl w.heap.size w) (.cells #[.int .i64 s0, .int .i64 s1, .int .i64 s2, .int .i64 s3] 22))
  have BX := Aside0.mk BX
  clear hw hw1 hw2
  go_enter Try.func3, Try.ntmps3
  go_wp2_with fail
  refine (known_calls _).mono ?_
  rintro e w1 ⟨rfl, HB⟩
  have BX := Aside0.mk (BX.out.below HB)
  have HW := Aside0.mk (below_then HW.out (by simp) HB)
  clear HB
  go_wp2_with fail
  refine (within_calls _ _ (by omega) (by omega) _).mono ?_
  rintro e w2 ⟨rfl, ⟨nd, rfl⟩⟩
  have hD0 := Int.emod_nonneg den (show (100 : Int) ≠ 0 by omega)
  have hD1 := Int.emod_lt_of_pos den (show (0 : Int) < 100 by omega)
  generalize den % 100 = D' at *
  go_wp2_with fail
  refine (within_calls _ _ (by omega) (by omega) _).mono ?_
  rintro e w2 ⟨rfl, ⟨nd2, rfl⟩⟩
  have hN0 := Int.emod_nonneg num (show 1 + D' + 1 ≠ 0 by omega)
  have hN1 := Int.emod_lt_of_pos num (show 0 < 1 + D' + 1 by omega)
  generalize num % (1 + D' + 1) = N at *
  obtain ⟨D, hD⟩ : ∃ D, 1 + D' = D := ⟨_, rfl⟩
  rw [hD] at hN1 ⊢
  have hDb : 1 ≤ D ∧ D ≤ 100 := by omega
  have HD := Aside0.mk hD
  clear hD
  have BX := Aside0.mk (BX.out.drawn (nd + nd2))
  have HW := Aside0.mk (pw_below_drewN HW.out (nd + nd2))
  go_wp2_with fail
  go_loopw [7] (fun i wr => ∃ k : Nat, k ≤ 4 ∧ i = .int .i64 k ∧ Aside0 (Box4 wr w.heap.size (tm k 0 s0) (tm k 1 s1) (tm k 2 s2) (tm k 3 s3)) ∧ Aside0 (Below w.heap.size w wr))
     (fun i _ => 4 - (intOf i).toNat)
  case atStart => exact ⟨0, by omega, rfl, ⟨by simpa [tm] using BX.out⟩, HW⟩
  case round =>
    clear BX HW
    obtain ⟨k, hk, rfl, BX, HW⟩ := hrel
    by_cases hlt : k < 4
    · obtain rfl | rfl | rfl | rfl : k = 0 ∨ k = 1 ∨ k = 2 ∨ k = 3 := by omega
      · have c := BX.out.c0
        have fz := BX.out.free 0
        simp only [tm, Nat.lt_irrefl, if_false] at c
        go_wp2_with fail
        go_roundw
        case rel => exact ⟨1, by omega, rfl, ⟨by have := BX.out.set0 (s0.tmod 500); simpa [tm] using this⟩, ⟨by repeat (first | exact HW.out | apply pw_below_drewN | (refine below_set ?_ _ (Nat.le_refl _) _ _))⟩⟩
        case measure => simp [intOf]
      · have c := BX.out.c1
        have fz := BX.out.free 1
        simp only [tm, Nat.lt_irrefl, if_false] at c
        go_wp2_with fail
        go_roundw
        case rel => exact ⟨2, by omega, rfl, ⟨by have := BX.out.set1 (s1.tmod 500); simpa [tm] using this⟩, ⟨by repeat (first | exact HW.out | apply pw_below_drewN | (refine below_set ?_ _ (Nat.le_refl _) _ _))⟩⟩
        case measure => simp [intOf]
      · have c := BX.out.c2
        have fz := BX.out.free 2
        simp only [tm, Nat.lt_irrefl, if_false] at c
        go_wp2_with fail
        go_roundw
        case rel => exact ⟨3, by omega, rfl, ⟨by have := BX.out.set2 (s2.tmod 500); simpa [tm] using this⟩, ⟨by repeat (first | exact HW.out | apply pw_below_drewN | (refine below_set ?_ _ (Nat.le_refl _) _ _))⟩⟩
        case measure => simp [intOf]
      · have c := BX.out.c3
        have fz := BX.out.free 3
        simp only [tm, Nat.lt_irrefl, if_false] at c
        go_wp2_with fail
        go_roundw
        case rel => exact ⟨4, by omega, rfl, ⟨by have := BX.out.set3 (s3.tmod 500); simpa [tm] using this⟩, ⟨by repeat (first | exact HW.out | apply pw_below_drewN | (refine below_set ?_ _ (Nat.le_refl _) _ _))⟩⟩
        case measure => simp [intOf]
    · obtain rfl : k = 4 := by omega
      have BX : Aside0 (Box4 wr w.heap.size (s0.tmod 500) (s1.tmod 500) (s2.tmod 500) (s3.tmod 500)) := ⟨by simpa [tm] using BX.out⟩
      have t0 := tm_bd s0
      have t1 := tm_bd s1
      have t2 := tm_bd s2
      have t3 := tm_bd s3
      generalize s0.tmod 500 = c0 at *
      generalize s1.tmod 500 = c1 at *
      generalize s2.tmod 500 = c2 at *
      generalize s3.tmod 500 = c3 at *
      go_wp2_with fail
      have hne : w.heap.size ≠ wr.heap.size := by have := (Array.getElem?_eq_some_iff.1 BX.out.blk).1; omega
      have hle : w.heap.size ≤ wr.heap.size := by have := (Array.getElem?_eq_some_iff.1 BX.out.blk).1; omega
      have BX := Aside0.mk (BX.out.below (below_alloc (Below.refl _ _) (.cells #[.int .i64 0, .int .i64 0, .int .i64 0, .int .i64 0] 22)))
      have BY := Aside0.mk (Box4.made wr 0 0 0 0)
      have HW := Aside0.mk (HW.out.alloc hle (.cells #[.int .i64 0, .int .i64 0, .int .i64 0, .int .i64 0] 22))
      obtain ⟨b2, hb2⟩ : ∃ b, wr.heap.size = b := ⟨_, rfl⟩
      rw [hb2] at hne hle BY ⊢
      generalize wr.alloc (.cells #[.int .i64 0, .int .i64 0, .int .i64 0, .int .i64 0] 22) = wo at *
      clear hb2
      go_loopw [9] (fun i wr => ∃ k : Nat, k ≤ 4 ∧ i = .int .i64 k ∧ Aside0 (Box4 wr w.heap.size c0 c1 c2 c3) ∧ Aside0 (Box4 wr b2 (ts k 0 (vs c0 c1 c2 c3 0)) (ts k 1 (vs c0 c1 c2 c3 1)) (ts k 2 (vs c0 c1 c2 c3 2)) (ts k 3 (vs c0 c1 c2 c3 3))) ∧ Aside0 (Below w.heap.size w wr))
         (fun i _ => 4 - (intOf i).toNat)
      case atStart => exact ⟨0, by omega, rfl, BX, ⟨by simpa [ts] using BY.out⟩, HW⟩
      case round =>
        clear BX HW BY
        obtain ⟨k, hk, rfl, BX, BY, HW⟩ := hrel
        by_cases hlt : k < 4
        · obtain rfl | rfl | rfl | rfl : k = 0 ∨ k = 1 ∨ k = 2 ∨ k = 3 := by omega
          · have fz := BY.out.free 0
            have y := BY.out.c0
            simp only [ts, Nat.lt_irrefl, if_false] at y
            have q0 := BX.out.c0
            have q1 := BX.out.c1
            have q2 := BX.out.c2
            have q3 := BX.out.c3
            go_wp2_with fail
            go_roundw
            case rel => exact ⟨1, by omega, rfl, ⟨BX.out.far hne _ _⟩, ⟨by have := BY.out.set0 (vs c0 c1 c2 c3 0); rw [show c0 + -c1 + c2 + -c3 = c0 - c1 + c2 - c3 from by omega]; simpa [ts, vs] using this⟩, ⟨below_set HW.out _ hle _ _⟩⟩
            case measure => simp [intOf]
          · have fz := BY.out.free 1
            have y := BY.out.c1
            simp only [ts, Nat.lt_irrefl, if_false] at y
            have q0 := BX.out.c0
            have q1 := BX.out.c1
            have q2 := BX.out.c2
            have q3 := BX.out.c3
            go_wp2_with fail
            go_roundw
            case rel => exact ⟨2, by omega, rfl, ⟨BX.out.far hne _ _⟩, ⟨by have := BY.out.set1 (vs c0 c1 c2 c3 1); simpa [ts, vs] using this⟩, ⟨below_set HW.out _ hle _ _⟩⟩
            case measure => simp [intOf]
          · have fz := BY.out.free 2
            have y := BY.out.c2
            simp only [ts, Nat.lt_irrefl, if_false] at y
            have q0 := BX.out.c0
            have q1 := BX.out.c1
            have q2 := BX.out.c2
            have q3 := BX.out.c3
            go_wp2_with fail
            go_roundw
            case rel => exact ⟨3, by omega, rfl, ⟨BX.out.far hne _ _⟩, ⟨by have := BY.out.set2 (vs c0 c1 c2 c3 2); simpa [ts, vs] using this⟩, ⟨below_set HW.out _ hle _ _⟩⟩
            case measure => simp [intOf]
          · have fz := BY.out.free 3
            have y := BY.out.c3
            simp only [ts, Nat.lt_irrefl, if_false] at y
            have q0 := BX.out.c0
            have q1 := BX.out.c1
            have q2 := BX.out.c2
            have q3 := BX.out.c3
            go_wp2_with fail
            go_roundw
            case rel => exact ⟨4, by omega, rfl, ⟨BX.out.far hne _ _⟩, ⟨by have := BY.out.set3 (vs c0 c1 c2 c3 3); rw [show c0 + c1 * 2 + c2 * 2 * 2 + c3 * 2 * 2 * 2 = c0 + 2 * c1 + 4 * c2 + 8 * c3 from by omega]; simpa [ts, vs] using this⟩, ⟨below_set HW.out _ hle _ _⟩⟩
            case measure => simp [intOf]
        · obtain rfl : k = 4 := by omega
          have BY : Aside0 (Box4 wr b2 (vs c0 c1 c2 c3 0) (vs c0 c1 c2 c3 1) (vs c0 c1 c2 c3 2) (vs c0 c1 c2 c3 3)) := ⟨by simpa [ts] using BY.out⟩
          have EX := Aside0.mk (ex_facts c0 c1 c2 c3 N D t0 t1 t2 t3 hDb ⟨hN0, by omega⟩)
          simp only [vs] at BY
          go_wp2_with ((with_reducible refine gate_dst (N := 66) rfl ?_); refine wpList_load_row rfl 22 _ rfl _ rfl 22 _ (0, 0) _ BY.out.blk Try.underlying22 rfl (by kernel_rfl) ?_)
          refine (cubic_calls _ _ _ _ _ _ _).mono ?_
          rw [EX.out.1]
          rintro e w5 ⟨rfl, HB⟩
          have BX := Aside0.mk (BX.out.below HB)
          have HW := Aside0.mk (below_step HW.out HB)
          clear HB
          simp only [errE, if_true]
          have EX := Aside0.mk EX.out.2
          generalize cubA (c0 - c1 + c2 - c3) c0 (c0 + c1 + c2 + c3) (c0 + 2 * c1 + 4 * c2 + 8 * c3) N D = n at *
          generalize cubB (c0 - c1 + c2 - c3) c0 (c0 + c1 + c2 + c3) (c0 + 2 * c1 + 4 * c2 + 8 * c3) N D = d at *
          have q0 := BX.out.c0
          have q1 := BX.out.c1
          have q2 := BX.out.c2
          have q3 := BX.out.c3
          have ⟨⟨d1, d2⟩, eq, ⟨w1, w2⟩, wr, dw, l, r⟩ := EX.out
          clear eq
          generalize wantN c0 c1 c2 c3 N D = W at *
          go_wp2_with fail
          go_ret
          exact ⟨by simp, HW.out⟩
end Go.Proofs.Ytcehcblhmgeonaa.A
