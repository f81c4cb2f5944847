import Derived.Test.YthnbokmnplipkaaDoorA
/- Valid and Step. The condition Sch is each contract's own. -/
namespace Go.Proofs.YthnbokmnplipkaaDoor.A
open Go.RowKit Go.Proofs.YthnbokmnplipkaaDoorW.PrintWords Go.Proofs.YthnbokmnplipkaaDoorW.PrintLast Go.Proofs.YthnbokmnplipkaaDoorW.PrintMore
open Go.Proofs.YthnbokmnplipkaaDoor.PTeleprotectionSteps
attribute [local go_sem] max2_int min2_int max_two min_two max_three min_three max_four min_four
set_option linter.unusedVariables false
set_option linter.unusedSimpArgs false

theorem w64 {n : Int} (h0 : -9223372036854775808 ≤ n) (h1 : n ≤ 9223372036854775807) : wrap64 n = n := by unfold wrap64; omega
def mxG (s guard : Int) : Int := if s = 0 then 0 else guard + 1
def mxH (s wait : Int) : Int := if s = 3 then wait + 1 else 0
def validB (s wait guard g h : Int) : Bool := usableB s wait guard && (decide (0 ≤ g) && decide (g ≤ mxG s guard)) && (decide (0 ≤ h) && decide (h ≤ mxH s wait))
theorem usable_bd {s wait guard : Int} (h : usableB s wait guard = true) : (s = 0 ∨ s = 1 ∨ s = 2 ∨ s = 3) ∧ 0 ≤ wait ∧ wait ≤ 50 ∧ 0 ≤ guard ∧ guard ≤ 50 := by
  unfold usableB leastW mostW mostG at h
  simp only [Bool.and_eq_true, decide_eq_true_eq] at h
  obtain ⟨⟨⟨⟨⟨h0, h1⟩, h2⟩, h3⟩, h4⟩, h5⟩ := h
  have hs : s = 0 ∨ s = 1 ∨ s = 2 ∨ s = 3 := by omega
  refine ⟨hs, ?_⟩
  rcases hs with rfl | rfl | rfl | rfl <;> simp at h2 h3 h5 <;> omega
abbrev tele (g h : Int) : Value := .agg #[.int .i64 g, .int .i64 h]
theorem clamp (g m : Int) (hm : 0 ≤ m) (x y : Int) (hx : (if g < 0 then 0 else g) = x) (hy : (if m < x then m else x) = y) : (y == g) = (decide (0 ≤ g) && decide (g ≤ m)) := by
  subst hx
  subst hy
  rw [Bool.eq_iff_iff]
  simp only [beq_iff_eq, Bool.and_eq_true, decide_eq_true_eq]
  split <;> split <;> omega

set_option maxHeartbeats 2000000 in
theorem valid_calls (s wait guard g h : Int) (w : World) (hs : Sch w) : Calls Tryd.prog 11 #[.int .i64 s, .int .i64 wait, .int .i64 guard, tele g h] w fun e w' => e = .returned (.bool (validB s wait guard g h)) ∧ Below w.heap.size w w' := by
  have HS := Aside0.mk hs
  clear hs
  obtain ⟨ok, hok⟩ : ∃ b, usableB s wait guard = b := ⟨_, rfl⟩
  have HOK := Aside0.mk hok
  clear hok
  obtain ⟨x1, hx1⟩ : ∃ x, (if g < 0 then 0 else g) = x := ⟨_, rfl⟩
  obtain ⟨x2, hx2⟩ : ∃ x, (if mxG s guard < x1 then mxG s guard else x1) = x := ⟨_, rfl⟩
  obtain ⟨y1, hy1⟩ : ∃ x, (if h < 0 then 0 else h) = x := ⟨_, rfl⟩
  obtain ⟨y2, hy2⟩ : ∃ x, (if mxH s wait < y1 then mxH s wait else y1) = x := ⟨_, rfl⟩
  have HV : Aside0 (∀ b, ok = true → b = ((x2 == g) && (y2 == h)) → b = validB s wait guard g h) := ⟨fun b hb he => by
    rw [hb] at HOK
    have hbd := usable_bd HOK.out
    unfold validB
    rw [HOK.out, Bool.true_and, he, clamp g (mxG s guard) (by unfold mxG; split <;> omega) x1 x2 hx1 hx2, clamp h (mxH s wait) (by unfold mxH; split <;> omega) y1 y2 hy1 hy2]⟩
  have HB := Aside0.mk (below_alloc (Below.refl w.heap.size w) (.cells #[.int .i64 g, .int .i64 h] 23))
  have BT : Aside0 ((w.alloc (.cells #[.int .i64 g, .int .i64 h] 23)).heap[w.heap.size]? = some (.cells #[.int .i64 g, .int .i64 h] 23 (0, 0))) := ⟨heap_alloc_new w _⟩
  have HS1 := Aside0.mk (HS.out.below (below_alloc (Below.refl _ _) (.cells #[.int .i64 g, .int .i64 h] 23)))
  have HX1 := Aside0.mk hx1
  have HX2 := Aside0.mk hx2
  have HY1 := Aside0.mk hy1
  have HY2 := Aside0.mk hy2
  clear hx1 hx2 hy1 hy2
  go_enter Tryd.func11, Tryd.ntmps11
  go_wp2_with fail
  with_reducible refine (usable_calls s wait guard _ HS1.out).mono ?_
  rw [HOK.out]
  rintro e w1 ⟨rfl, HB'⟩
  have BT := Aside0.mk ((HB'.block w.heap.size (by rw [World.size_alloc]; omega)).trans BT.out)
  have HB := Aside0.mk (below_step HB.out HB')
  clear HB' HS HS1
  cases ok with
  | false =>
    go_wp2_with fail
    go_ret
    refine ⟨?_, HB.out⟩
    rw [show validB s wait guard g h = false by unfold validB; rw [HOK.out]; rfl]
    rfl
  | true =>
    have hbd := usable_bd HOK.out
    obtain ⟨hs, w0, w1', g0, g1⟩ := hbd
    generalize w.heap.size = b at BT
    have q0 : w1.cell? ⟨b, 0, none⟩ = some (.int .i64 g) := blk_cell BT.out 0
    have q1 : w1.cell? ⟨b, 1, none⟩ = some (.int .i64 h) := blk_cell BT.out 1
    have p0 := fun (m n : Int) => pw_cell_below (below_alloc (Below.refl w1.heap.size w1) (.cells #[.int .i64 m, .int .i64 n] 23)) q0
    have p1 := fun (m n : Int) => pw_cell_below (below_alloc (Below.refl w1.heap.size w1) (.cells #[.int .i64 m, .int .i64 n] 23)) q1
    have a0 := p0 0 0
    have a1 := p1 0 0
    have b0 := p0 (guard + 1) 0
    have b1 := p1 (guard + 1) 0
    have c0 := p0 (guard + 1) (wait + 1)
    have c1 := p1 (guard + 1) (wait + 1)
    have a2 := pw_cell_below (below_alloc (Below.refl _ _) (.cells #[.int .i64 x2, .int .i64 y2] 23)) a0
    have a3 := pw_cell_below (below_alloc (Below.refl _ _) (.cells #[.int .i64 x2, .int .i64 y2] 23)) a1
    have b2 := pw_cell_below (below_alloc (Below.refl _ _) (.cells #[.int .i64 x2, .int .i64 y2] 23)) b0
    have b3 := pw_cell_below (below_alloc (Below.refl _ _) (.cells #[.int .i64 x2, .int .i64 y2] 23)) b1
    have c2 := pw_cell_below (below_alloc (Below.refl _ _) (.cells #[.int .i64 x2, .int .i64 y2] 23)) c0
    have c3 := pw_cell_below (below_alloc (Below.refl _ _) (.cells #[.int .i64 x2, .int .i64 y2] 23)) c1
    clear p0 p1 q0 q1
    rcases hs with rfl | rfl | rfl | rfl
    all_goals
      have e1 := HX1.out
      have e2 := HX2.out
      have e3 := HY1.out
      have e4 := HY2.out
      simp only [mxG, mxH, Int.reduceEq, if_true, if_false, reduceIte] at e2 e4
      clear HX1 HX2 HY1 HY2 HOK
      go_wp2_with fail
      all_goals
        go_ret
        refine ⟨?_, ?_⟩
        · clear a0 a1 b0 b1 c0 c1 a2 a3 b2 b3 c2 c3 BT HB e1 e2 e3 e4
          first
          | (rw [← HV.out true (by trivial) (by simp [*])]; rfl)
          | (rw [← HV.out false (by trivial) (by simp [*])]; rfl)
        · exact below_alloc (below_alloc HB.out _) _
end Go.Proofs.YthnbokmnplipkaaDoor.A
