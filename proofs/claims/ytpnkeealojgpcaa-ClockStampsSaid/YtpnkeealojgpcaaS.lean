import Derived.Test.YtpnkeealojgpcaaC
import Derived.Test.YtpnkeealojgpcaaG
/- Stamp and the walk of ClockStamps; no condition beside the ranges that each theorem names. -/
namespace Go.Proofs.Ytpnkeealojgpcaa.A
open Go.RowKit Go.Proofs.YtpnkeealojgpcaaW.PrintWords Go.Proofs.YtpnkeealojgpcaaW.PrintLast Go.Proofs.YtpnkeealojgpcaaW.PrintMore
open Go.Proofs.Ytpnkeealojgpcaa
attribute [local go_sem] max2_int min2_int max_two min_two max_three min_three max_four min_four
set_option linter.unusedVariables false
set_option linter.unusedSimpArgs false

def secV (t : Int) : Int := t / 1000000 % 4294967296
def fracV (t : Int) : Int := t % 1000000 * 16777216 / 1000000
abbrev st (a b c : Int) : Value := .agg #[.int .i64 a, .int .i64 b, .int .i64 c]

/-- A block that is a stamp. -/
structure Sb (w : World) (b : Nat) (x y z : Int) : Prop where
  blk : w.heap[b]? = some (.cells #[.int .i64 x, .int .i64 y, .int .i64 z] 30 (0, 0))
section
variable {w w1 : World} {b : Nat} {x y z : Int}
theorem Sb.c0 (h : Sb w b x y z) : w.cell? ⟨b, 0, none⟩ = some (.int .i64 x) := blk_cell h.blk 0
theorem Sb.c1 (h : Sb w b x y z) : w.cell? ⟨b, 1, none⟩ = some (.int .i64 y) := blk_cell h.blk 1
theorem Sb.c2 (h : Sb w b x y z) : w.cell? ⟨b, 2, none⟩ = some (.int .i64 z) := blk_cell h.blk 2
theorem Sb.fr (h : Sb w b x y z) (j : Nat) : w.frozen? ⟨b, j, none⟩ = false := blk_frozen h.blk j
theorem Sb.lt (h : Sb w b x y z) : b < w.heap.size := (Array.getElem?_eq_some_iff.1 h.blk).1
theorem Sb.below (h : Sb w b x y z) (hb : Below w.heap.size w w1) : Sb w1 b x y z := ⟨(hb.block b h.lt).trans h.blk⟩
theorem Sb.made (w : World) (x y z : Int) : Sb (w.alloc (.cells #[.int .i64 x, .int .i64 y, .int .i64 z] 30)) w.heap.size x y z := ⟨heap_alloc_new w _⟩
theorem Sb.put (h : Sb w b x y z) (x' y' z' : Int) : Sb (((w.setCell ⟨b, 0, none⟩ (.int .i64 x')).setCell ⟨b, 1, none⟩ (.int .i64 y')).setCell ⟨b, 2, none⟩ (.int .i64 z')) b x' y' z' :=
  ⟨blk_set (blk_set (blk_set h.blk 0 _) 1 _) 2 _⟩
theorem Sb.far (h : Sb w b x y z) {b' : Nat} (hne : b ≠ b') (j : Nat) (u : Value) : Sb (w.setCell ⟨b', j, none⟩ u) b x y z := ⟨blk_far h.blk hne u⟩
theorem sput_below {a : World} {B : Nat} (h : Below B a w) (hb : B ≤ b) (v0 v1 v2 : Value) :
    Below B a (((w.setCell ⟨b, 0, none⟩ v0).setCell ⟨b, 1, none⟩ v1).setCell ⟨b, 2, none⟩ v2) :=
  below_set (below_set (below_set h _ hb _ _) _ hb _ _) _ hb _ _
end

set_option maxHeartbeats 1000000 in
theorem stamp_calls (t r e s : Int) (k : Bool) (w : World) (ht : -4611686018427387904 ≤ t ∧ t ≤ 4611686018427387904) (he : 0 ≤ e ∧ e ≤ 1000) (hs : 0 ≤ s ∧ s ≤ 1073741824) :
    Calls Try.prog 12 #[ck t r k e s] w fun e' w' => e' = .returned (st (secV t) (fracV t) (classV k e s)) ∧ Below w.heap.size w w' := by
  go_enter Try.func12, Try.ntmps12
  go_wp2_with fail
  with_reducible refine (split_calls _ (by omega) _).mono ?_
  rintro e' w' ⟨rfl, ⟨nd, rfl⟩⟩
  go_wp2_with fail
  have HS := Aside0.mk (Sb.made (w.alloc (.cells (cells5 t r k e s) 25)) 0 0 0)
  have HS : Aside0 (Sb ((w.alloc (.cells (cells5 t r k e s) 25)).alloc (.cells #[.int .i64 0, .int .i64 0, .int .i64 0] 30)) (w.heap.size + 1) 0 0 0) := ⟨by have := HS.out; rwa [World.size_alloc] at this⟩
  have HB := Aside0.mk (pw_below_drewN (below_alloc (below_alloc (Below.refl w.heap.size w) (.cells (cells5 t r k e s) 25)) (.cells #[.int .i64 0, .int .i64 0, .int .i64 0] 30)) nd)
  have HS : Aside0 (Sb (((w.alloc (.cells (cells5 t r k e s) 25)).alloc (.cells #[.int .i64 0, .int .i64 0, .int .i64 0] 30)).drewN nd) (w.heap.size + 1) 0 0 0) := ⟨⟨HS.out.blk⟩⟩
  have hle : w.heap.size ≤ w.heap.size + 1 := by omega
  with_reducible refine (class_calls t r e s k he hs _).mono ?_
  rintro e' w' ⟨rfl, HB'⟩
  have HS := Aside0.mk (HS.out.below HB')
  have HB := Aside0.mk (below_step HB.out HB')
  clear HB'
  obtain ⟨bb, hbb⟩ : ∃ bb, w.heap.size + 1 = bb := ⟨_, rfl⟩
  rw [hbb] at HS hle ⊢
  clear hbb
  have q0 := HS.out.c0
  have q1 := HS.out.c1
  have q2 := HS.out.c2
  have f0 := HS.out.fr 0
  have f1 := HS.out.fr 1
  have f2 := HS.out.fr 2
  have HS' := Aside0.mk (HS.out.put (secV t) (fracV t) (classV k e s))
  have HB' := Aside0.mk (sput_below (b := bb) HB.out hle (.int .i64 (secV t)) (.int .i64 (fracV t)) (.int .i64 (classV k e s)))
  go_wp2_with fail
  unfold secV fracV at HS' HB'
  refine bodyPost_ret (v := st (secV t) (fracV t) (classV k e s)) ?_ rfl ⟨rfl, HB'.out⟩
  have r0 := HS'.out.c0
  have r1 := HS'.out.c1
  have r2 := HS'.out.c2
  clear HS' HB' q0 q1 q2 f0 f1 f2
  unfold secV fracV
  simp [results, Try.results12, go_sem, r0, r1, r2]

set_option maxRecDepth 100000 in
set_option maxHeartbeats 2000000 in
theorem ClockStamps_walk (start drift n0 : Int) (w : World) :
    Calls Try.prog 4 #[.int .i64 start, .int .i64 drift, .int .i64 n0] w fun e' w' => e' = .returned (.bool true) ∧ Below w.heap.size w w' := by
  go_enter Try.func4, Try.ntmps4
  go_wp2_with fail
  refine (known_calls _).mono ?_
  rintro e' wa ⟨rfl, HB⟩
  have HB := Aside0.mk HB
  go_wp2_with fail
  refine (within_calls _ _ (by omega) (by omega) _).mono ?_
  rintro e w' ⟨rfl, ⟨nd, rfl⟩⟩
  have s0 := Int.emod_nonneg start (show (1125899906842624 : Int) ≠ 0 by omega)
  have s1 := Int.emod_lt_of_pos start (show (0 : Int) < 1125899906842624 by omega)
  generalize start % 1125899906842624 = s at *
  have HB := Aside0.mk (pw_below_drewN HB.out nd)
  go_wp2_with fail
  refine (new_calls s _).mono ?_
  rintro e wb ⟨rfl, HB'⟩
  have HB := Aside0.mk (below_step HB.out HB')
  clear HB'
  have BC := Aside0.mk (Cb.made wb s 0 false 0 0)
  have hle : w.heap.size ≤ wb.heap.size := HB.out.size
  have HB := Aside0.mk (below_alloc HB.out (.cells (cells5 s 0 false 0 0) 25))
  go_wp2_with fail
  generalize wb.alloc (.cells (cells5 s 0 false 0 0) 25) = W at *
  generalize wb.heap.size = c at *
  have a0 := Int.emod_nonneg n0 (show (60 : Int) ≠ 0 by omega)
  have a1 := Int.emod_lt_of_pos n0 (show (0 : Int) < 60 by omega)
  obtain ⟨n, hn⟩ : ∃ n, n0 % 60 = n := ⟨_, rfl⟩
  rw [hn] at a0 a1
  have HN : Aside0 (∀ w', Calls Try.prog 9 #[.int .i64 n0, .int .i64 60] w' fun e w'' => e = .returned (.int .i64 n) ∧ Drawn0 w' w'') := ⟨fun w' => by rw [← hn]; exact within_calls n0 60 (by omega) (by omega) w'⟩
  clear hn
  go_loopw [8] (fun i wr => ∃ k : Nat, (k : Int) ≤ n ∧ i = .int .i64 k ∧ ∃ T R, 0 ≤ T ∧ T ≤ s + 20002 * (k : Int) ∧ 0 ≤ R ∧ R ≤ 999999 ∧ Aside0 (Cb wr c T R false 0 0) ∧ Aside0 (Below w.heap.size w wr))
    (fun i _ => 61 - (intOf i).toNat)
  case atStart => exact ⟨0, by omega, rfl, s, 0, by omega, by omega, by omega, by omega, BC, HB⟩
  case round =>
    clear BC HB
    obtain ⟨k, hk, rfl, T, R, hT0, hT1, hR0, hR1, BC, HB⟩ := hrel
    go_wp2_with fail
    refine (HN.out _).mono ?_
    rintro e w' ⟨rfl, ⟨nd', rfl⟩⟩
    have BC := Aside0.mk (Cb.drawn BC.out nd')
    have HB := Aside0.mk (pw_below_drewN HB.out nd')
    generalize wr.drewN nd' = wq at *
    by_cases hlt : (k : Int) < n
    · have t0 : decide ((k : Int) < n) = true := by simp; omega
      have q0 := BC.out.c0
      have q1 := BC.out.c1
      have q2 := BC.out.c2
      have q3 := BC.out.c3
      have q4 := BC.out.c4
      go_wp2_with fail
      with_reducible refine (step_calls T R 0 0 drift false _ (by omega) ⟨hR0, hR1⟩ (by omega)).mono ?_
      rw [show stepS false 0 = 0 from rfl]
      rintro e w5 ⟨rfl, HB'⟩
      have hg := gain_bd R drift ⟨hR0, hR1⟩
      obtain ⟨g1, g2, g3, g4, g5⟩ := hg
      have hT' : T + 19998 ≤ T + 20000 + gainQ R drift ∧ T + 20000 + gainQ R drift ≤ T + 20002 := by omega
      generalize T + 20000 + gainQ R drift = T' at *
      generalize gainR R drift = R' at *
      clear g1 g2 g5
      have BC := Aside0.mk (BC.out.below HB')
      have HB := Aside0.mk (below_step HB.out HB')
      clear HB' q0 q1 q2 q3 q4
      have BC := Aside0.mk (BC.out.below (below_alloc (Below.refl _ _) (.cells (cells5 T' R' false 0 0) 25)))
      have HB := Aside0.mk (below_alloc HB.out (.cells (cells5 T' R' false 0 0) 25))
      have BD := Aside0.mk (Cb.made w5 T' R' false 0 0)
      go_wp2_with fail
      generalize w5.alloc (.cells (cells5 T' R' false 0 0) 25) = W0 at *
      generalize w5.heap.size = d at *
      have q0 := BC.out.c0
      have q1 := BC.out.c1
      have q2 := BC.out.c2
      have q3 := BC.out.c3
      have q4 := BC.out.c4
      have x0 := BD.out.c0
      have x1 := BD.out.c1
      have x2 := BD.out.c2
      have x3 := BD.out.c3
      have x4 := BD.out.c4
      have hw0 : w.heap.size ≤ W0.heap.size := HB.out.size
      have hc2 : classV false 0 0 = 2 := rfl
      have HA : Aside0 (∀ w', Calls Try.prog 12 #[ck T R false 0 0] w' fun e' w'' => e' = .returned (st (secV T) (fracV T) 2) ∧ Below w'.heap.size w' w'') := ⟨fun w' => stamp_calls T R 0 0 false w' (by omega) (by omega) (by omega)⟩
      have HD : Aside0 (∀ w', Calls Try.prog 12 #[ck T' R' false 0 0] w' fun e' w'' => e' = .returned (st (secV T') (fracV T') 2) ∧ Below w'.heap.size w' w'') := ⟨fun w' => stamp_calls T' R' 0 0 false w' (by omega) (by omega) (by omega)⟩
      have hsec : secV T ≤ secV T' ∧ (secV T = secV T' → fracV T ≤ fracV T') ∧ secV T = T / 1000000 % 4294967296 ∧ 0 ≤ fracV T ∧ fracV T < 16777216 := by
        unfold secV fracV
        omega
      obtain ⟨A0, hx0⟩ : ∃ x, secV T = x := ⟨_, rfl⟩
      obtain ⟨A1, hx1⟩ : ∃ x, fracV T = x := ⟨_, rfl⟩
      obtain ⟨B0, hy0⟩ : ∃ x, secV T' = x := ⟨_, rfl⟩
      obtain ⟨B1, hy1⟩ : ∃ x, fracV T' = x := ⟨_, rfl⟩
      rw [hx0, hx1, hy0, hy1] at hsec
      rw [hx0, hx1] at HA
      rw [hy0, hy1] at HD
      clear hx0 hx1 hy0 hy1
      obtain ⟨h1, h2, h3, h4, h5⟩ := hsec
      have H3 := Aside0.mk h3
      clear h3
      have hcl := BC.out.lt
      have hdl := BD.out.lt
      refine G.plain (m := 6) (n := 8) (t := 2) [some 26, some 27, some 28, some 29, some 10, some 11, none, none] [G.Is ?f0, G.Is (st A0 A1 2), G.Is ?f2, G.Is (st B0 B1 2), G.New W0 #[.int .i64 0, .int .i64 0, .int .i64 0] 30, G.New W0 #[.int .i64 0, .int .i64 0, .int .i64 0] 30] [4, 5] (by kernel_rfl) (by kernel_rfl) (by kernel_rfl) (by kernel_rfl) (by rfl) (G.allB_succ (G.allB_succ (G.allB_succ (G.allB_succ (G.allB_succ (G.allB_succ G.allB_zero ?c0) ?c1) ?c2) ?c3) ?c4) ?c5) ?hs ?hl ?hT
      case c0 =>
        refine G.core_obl (o := _) (N := some 26) rfl rfl ?_
        intro x a' ha w' hB hF K hK
        simp only [G.putAll, Act.put, List.setIfInBounds_toArray, List.set_cons_zero, List.set_cons_succ, Nat.reduceAdd] at ha
        subst ha
        have t0 := pw_cell_below hB q0
        have t1 := pw_cell_below hB q1
        have t2 := pw_cell_below hB q2
        have t3 := pw_cell_below hB q3
        have t4 := pw_cell_below hB q4
        refine value_ (w1 := ?_) (v := ?_) (by rfl) rfl ?_ ?_
        rotate_left 2
        · go_simp
          constructor
          · rfl
          · rfl
        refine hK.out _ _ (Below.refl _ _) ?_ (fun h => absurd h (by decide))
        change _ = _
        with_reducible rfl
      case c1 =>
        refine G.core_obl (o := _) (N := some 27) rfl rfl ?_
        intro x a' ha w' hB hF K hK
        have s0 : x 0 = _ := hF 0 (by kernel_rfl)
        simp only [G.putAll, Act.put, List.setIfInBounds_toArray, List.set_cons_zero, List.set_cons_succ, Nat.reduceAdd, s0] at ha
        subst ha
        refine goes_ Try.func12 (by kernel_rfl) rfl #[ck T R false 0 0] (by rfl) rfl rfl (by first | rfl | (simp only [List.map_toArray, List.map_cons, List.map_nil]; rfl)) ?_
        with_reducible refine (HA.out _).mono ?_
        rintro e w3 ⟨rfl, HB'⟩
        refine ⟨_, rfl, ?_⟩
        exact hK.out _ _ HB' rfl (fun h => absurd h (by decide))
      case c2 =>
        refine G.core_obl (o := _) (N := some 28) rfl rfl ?_
        intro x a' ha w' hB hF K hK
        simp only [G.putAll, Act.put, List.setIfInBounds_toArray, List.set_cons_zero, List.set_cons_succ, Nat.reduceAdd] at ha
        subst ha
        have t0 := pw_cell_below hB x0
        have t1 := pw_cell_below hB x1
        have t2 := pw_cell_below hB x2
        have t3 := pw_cell_below hB x3
        have t4 := pw_cell_below hB x4
        refine value_ (w1 := ?_) (v := ?_) (by rfl) rfl ?_ ?_
        rotate_left 2
        · go_simp
          constructor
          · rfl
          · rfl
        refine hK.out _ _ (Below.refl _ _) ?_ (fun h => absurd h (by decide))
        change _ = _
        with_reducible rfl
      case c3 =>
        refine G.core_obl (o := _) (N := some 29) rfl rfl ?_
        intro x a' ha w' hB hF K hK
        have s2 : x 2 = _ := hF 2 (by kernel_rfl)
        have s1 : x 1 = _ := hF 1 (by kernel_rfl)
        simp only [G.putAll, Act.put, List.setIfInBounds_toArray, List.set_cons_zero, List.set_cons_succ, Nat.reduceAdd, s2, s1] at ha
        subst ha
        refine goes_ Try.func12 (by kernel_rfl) rfl #[ck T' R' false 0 0] (by rfl) rfl rfl (by first | rfl | (simp only [List.map_toArray, List.map_cons, List.map_nil]; rfl)) ?_
        with_reducible refine (HD.out _).mono ?_
        rintro e w3 ⟨rfl, HB'⟩
        refine ⟨_, rfl, ?_⟩
        exact hK.out _ _ HB' rfl (fun h => absurd h (by decide))
      case c4 =>
        refine G.core_obl (o := _) (N := some 10) rfl rfl ?_
        intro x a' ha w' hB hF K hK
        simp only [G.putAll, Act.put, List.setIfInBounds_toArray, List.set_cons_zero, List.set_cons_succ, Nat.reduceAdd] at ha
        subst ha
        refine value_ (w1 := ?_) (v := ?_) (by rfl) rfl ?_ ?_
        rotate_left 2
        · go_simp
          constructor
          · rfl
          · rfl
        exact hK.out _ _ (below_alloc (Below.refl _ _) _) ⟨_, rfl, heap_alloc_new _ _, hB.size⟩ (fun _ => Nat.le_refl _)
      case c5 =>
        refine G.core_obl (o := _) (N := some 11) rfl rfl ?_
        intro x a' ha w' hB hF K hK
        simp only [G.putAll, Act.put, List.setIfInBounds_toArray, List.set_cons_zero, List.set_cons_succ, Nat.reduceAdd] at ha
        subst ha
        refine value_ (w1 := ?_) (v := ?_) (by rfl) rfl ?_ ?_
        rotate_left 2
        · go_simp
          constructor
          · rfl
          · rfl
        exact hK.out _ _ (below_alloc (Below.refl _ _) _) ⟨_, rfl, heap_alloc_new _ _, hB.size⟩ (fun _ => Nat.le_refl _)
      case hs => exact ⟨G.stays_eq _, G.stays_eq _, G.stays_eq _, G.stays_eq _, G.stays_new _ _ _, G.stays_new _ _ _, trivial⟩
      case hl => exact ⟨fun v w' h => G.new_low h, fun v w' h => G.new_low h, trivial⟩
      intro x w' hB hF hD
      have s0 : x 0 = _ := hF 0 (by omega)
      have s1 : x 1 = _ := hF 1 (by omega)
      have s2 : x 2 = _ := hF 2 (by omega)
      have s3 : x 3 = _ := hF 3 (by omega)
      obtain ⟨b4, s4, hb4, hl4⟩ := (hF 4 (by omega) : G.New _ _ _ (x 4) w')
      obtain ⟨b5, s5, hb5, hl5⟩ := (hF 5 (by omega) : G.New _ _ _ (x 5) w')
      have hd4_5 : b4 ≠ b5 := by have h := hD 4 5 (by omega) (by omega) (by omega) rfl rfl; rw [s4, s5] at h; exact h
      clear hF hD
      have SA : Aside0 (Sb w' b4 0 0 0) := ⟨⟨hb4⟩⟩
      have SB : Aside0 (Sb w' b5 0 0 0) := ⟨⟨hb5⟩⟩
      clear hb4 hb5
      have BC := Aside0.mk (BC.out.below hB)
      have BD := Aside0.mk (BD.out.below hB)
      have HB := Aside0.mk (below_step HB.out hB)
      clear hB q0 q1 q2 q3 q4 x0 x1 x2 x3 x4 HA HD
      refine G.tail_succ (i := 6) (o := _) (N := none) (by rfl) rfl rfl ?_
      intro a' ha K hK
      simp (decide := true) only [G.putAll, Act.put, List.setIfInBounds_toArray, List.set_cons_zero, List.set_cons_succ, Nat.reduceAdd, G.upd, if_true, if_false, ↓reduceIte, s0, s1, s2, s3, s4, s5] at ha
      subst ha
      have z0 := SA.out.c0
      have z1 := SA.out.c1
      have z2 := SA.out.c2
      have g0 := SA.out.fr 0
      have g1 := SA.out.fr 1
      have g2 := SA.out.fr 2
      refine skip_ (w1 := ?_) (by rfl) rfl ?_ ?_
      rotate_left
      · go_simp
        rfl
      refine hK.out undef _ ?_
      clear hK K
      clear z0 z1 z2 g0 g1 g2
      have SB := Aside0.mk (((SB.out.far (Ne.symm hd4_5) 0 (.int .i64 A0)).far (Ne.symm hd4_5) 1 (.int .i64 A1)).far (Ne.symm hd4_5) 2 (.int .i64 2))
      have BC := Aside0.mk (((BC.out.far (show c ≠ b4 by omega) 0 (.int .i64 A0)).far (show c ≠ b4 by omega) 1 (.int .i64 A1)).far (show c ≠ b4 by omega) 2 (.int .i64 2))
      have BD := Aside0.mk (((BD.out.far (show d ≠ b4 by omega) 0 (.int .i64 A0)).far (show d ≠ b4 by omega) 1 (.int .i64 A1)).far (show d ≠ b4 by omega) 2 (.int .i64 2))
      have SA := Aside0.mk (SA.out.put A0 A1 2)
      have HB := Aside0.mk (sput_below (b := b4) HB.out (by omega) (.int .i64 A0) (.int .i64 A1) (.int .i64 2))
      refine G.tail_succ (i := 7) (o := _) (N := none) (by rfl) rfl rfl ?_
      intro a' ha K hK
      simp (decide := true) only [G.putAll, Act.put, List.setIfInBounds_toArray, List.set_cons_zero, List.set_cons_succ, Nat.reduceAdd, G.upd, if_true, if_false, ↓reduceIte, s0, s1, s2, s3, s4, s5] at ha
      subst ha
      have z0 := SB.out.c0
      have z1 := SB.out.c1
      have z2 := SB.out.c2
      have g0 := SB.out.fr 0
      have g1 := SB.out.fr 1
      have g2 := SB.out.fr 2
      refine skip_ (w1 := ?_) (by rfl) rfl ?_ ?_
      rotate_left
      · go_simp
        rfl
      refine hK.out undef _ ?_
      clear hK K
      clear z0 z1 z2 g0 g1 g2
      have SA := Aside0.mk (((SA.out.far hd4_5 0 (.int .i64 B0)).far hd4_5 1 (.int .i64 B1)).far hd4_5 2 (.int .i64 2))
      have BC := Aside0.mk (((BC.out.far (show c ≠ b5 by omega) 0 (.int .i64 B0)).far (show c ≠ b5 by omega) 1 (.int .i64 B1)).far (show c ≠ b5 by omega) 2 (.int .i64 2))
      have BD := Aside0.mk (((BD.out.far (show d ≠ b5 by omega) 0 (.int .i64 B0)).far (show d ≠ b5 by omega) 1 (.int .i64 B1)).far (show d ≠ b5 by omega) 2 (.int .i64 2))
      have SB := Aside0.mk (SB.out.put B0 B1 2)
      have HB := Aside0.mk (sput_below (b := b5) HB.out (by omega) (.int .i64 B0) (.int .i64 B1) (.int .i64 2))
      refine G.tail_zero ?_
      intro a' ha
      simp (decide := true) only [G.putAll, Act.put, List.setIfInBounds_toArray, List.set_cons_zero, List.set_cons_succ, Nat.reduceAdd, G.upd, if_true, if_false, ↓reduceIte, s0, s1, s2, s3, s4, s5] at ha
      subst ha
      clear s0 s1 s2 s3 s4 s5 x
      generalize (((((w'.setCell ⟨b4, 0, none⟩ (.int .i64 A0)).setCell ⟨b4, 1, none⟩ (.int .i64 A1)).setCell ⟨b4, 2, none⟩ (.int .i64 2)).setCell ⟨b5, 0, none⟩ (.int .i64 B0)).setCell ⟨b5, 1, none⟩ (.int .i64 B1)).setCell ⟨b5, 2, none⟩ (.int .i64 2) = WE at *
      have a0 := SA.out.c0
      have a1 := SA.out.c1
      have a2 := SA.out.c2
      have b0 := SB.out.c0
      have b1 := SB.out.c1
      have b2 := SB.out.c2
      have q0 := BC.out.c0
      have q1 := BC.out.c1
      have q2 := BC.out.c2
      have q3 := BC.out.c3
      have q4 := BC.out.c4
      have x0 := BD.out.c0
      have x1 := BD.out.c1
      have x2 := BD.out.c2
      have x3 := BD.out.c3
      have x4 := BD.out.c4
      have f0 := BC.out.fr 0
      have f1 := BC.out.fr 1
      have f2 := BC.out.fr 2
      have f3 := BC.out.fr 3
      have f4 := BC.out.fr 4
      have BC := Aside0.mk (BC.out.put T' R' false 0 0)
      have HB := Aside0.mk (put_below (b := c) HB.out hle (.int .i64 T') (.int .i64 R') (.bool false) (.int .i64 0) (.int .i64 0))
      have t1 : decide (B0 < A0) = false := by simp; omega
      have t2 : decide (A1 < 0) = false := by simp; omega
      have t3 : decide (16777216 ≤ A1) = false := by simp; omega
      have t4 : (A0 == T / 1000000 % 4294967296) = true := by have := H3.out; simpa using this
      have t4' : (A0 != T / 1000000 % 4294967296) = false := by simp [H3.out]
      clear H3
      by_cases hab : B0 = A0
      · have t5 : (B0 == A0) = true := by simpa using hab
        have t6 : decide (B1 < A1) = false := by have := h2 hab.symm; simp; omega
        clear hab h2
        go_wp2_with fail
        go_roundw
        case rel => exact ⟨k + 1, by omega, by go_num, T', R', by omega, by omega, g3, g4, BC, HB⟩
        case measure => simp [intOf]; omega
      · have t5 : (B0 == A0) = false := by simpa using hab
        clear hab h2
        go_wp2_with fail
        go_roundw
        case rel => exact ⟨k + 1, by omega, by go_num, T', R', by omega, by omega, g3, g4, BC, HB⟩
        case measure => simp [intOf]; omega
    · obtain rfl : (k : Int) = n := by omega
      go_wp2_with fail
      go_ret
      exact ⟨rfl, HB.out⟩
end Go.Proofs.Ytpnkeealojgpcaa.A
