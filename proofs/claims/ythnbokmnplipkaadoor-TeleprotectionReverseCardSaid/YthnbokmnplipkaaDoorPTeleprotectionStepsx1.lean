-- PRINTED BY print.sh 35421559b90ae4d0a3588c463048766b98c2df88dd9212a6774a882060cdf62d: not written by this session
import Derived.Test.YthnbokmnplipkaaDoorPTeleprotectionStepsx0
namespace Go.Proofs.YthnbokmnplipkaaDoor.PTeleprotectionSteps
open Go.RowKit Go.Proofs.YthnbokmnplipkaaDoorW.PrintWords Go.Proofs.YthnbokmnplipkaaDoorW.PrintLast Go.Proofs.YthnbokmnplipkaaDoorW.PrintMore
attribute [local go_sem] max2_int min2_int max_two min_two max_three min_three max_four min_four   -- for this text's walks alone
set_option linter.unusedVariables false
set_option linter.unusedSimpArgs false

-- NOT PRINTED: function 17 (teleprotection_usable)

-- NOT PRINTED: function 11 (teleprotection_Valid)

/-- A state of type 23 at block g of W; what its slices lead to came in by w0. -/
def IsS23 (w0 W : World) (g : Nat) (f0 : Int) (f1 : Int) : Prop := W.heap[g]? = some (.cells #[.int .i64 f0, .int .i64 f1] 23 (0, 0)) ∧ w0.heap.size ≤ g
theorem IsS23.grown {w0 W : World} {g : Nat} {f0 : Int} {f1 : Int} {W1 : World} {row : Option Nat} (h : IsS23 w0 W g f0 f1) (hw : W.grownBy W1 row) (hne : some g ≠ row) : IsS23 w0 W1 g f0 f1 := by
  obtain ⟨hb, hg⟩ := h
  exact ⟨blk_grown hb hw hne, hg⟩
theorem IsS23.own_neN {w0 W : World} {g : Nat} {f0 : Int} {f1 : Int} {α : Type} {d : Kd α} {e : Nat} {base : Nat} {ok : Nat → Prop} {v : Value} {xs : List α} (h : IsS23 w0 W g f0 f1) (ho : Kd.N d e W base ok v xs) (ht : e ≠ 23) : some g ≠ v.ownBlock := by
  obtain ⟨hb, hg⟩ := h
  exact Kd.N_ne ho hb ht
theorem IsS23.fresh {w0 W : World} {g : Nat} {f0 : Int} {f1 : Int} (h : IsS23 w0 W g f0 f1) : ∀ k, W.heap.size ≤ k → k ≠ g := by
  obtain ⟨hb, hg⟩ := h
  exact Kd.freshB hb
theorem IsS23.kept {w0 W : World} {g : Nat} {f0 : Int} {f1 : Int} {W1 : World} {S : Nat → Prop} (h : IsS23 w0 W g f0 f1) (hk : Kept W W1 S) (hne : ¬ S g) : IsS23 w0 W1 g f0 f1 := by
  obtain ⟨hb, hg⟩ := h
  exact ⟨blk_kept hb hk hne, hg⟩
theorem IsS23.below {w0 W : World} {g : Nat} {f0 : Int} {f1 : Int} {W1 : World} (h : IsS23 w0 W g f0 f1) (hw : Below W.heap.size W W1) : IsS23 w0 W1 g f0 f1 := h.grown (grown_of_below hw none) (by simp)
theorem IsS23.alloc {w0 W : World} {g : Nat} {f0 : Int} {f1 : Int} (h : IsS23 w0 W g f0 f1) (o : Obj) : IsS23 w0 (W.alloc o) g f0 f1 := h.below (below_alloc (Below.refl _ _) o)
theorem IsS23.drewN {w0 W : World} {g : Nat} {f0 : Int} {f1 : Int} (h : IsS23 w0 W g f0 f1) (m : Nat) : IsS23 w0 (W.drewN m) g f0 f1 := h
theorem IsS23.drew {w0 W : World} {g : Nat} {f0 : Int} {f1 : Int} (h : IsS23 w0 W g f0 f1) : IsS23 w0 W.drew g f0 f1 := h
theorem IsS23.at_ {w0 W : World} {g : Nat} {f0 : Int} {f1 : Int} {w' : World} {m : Nat} (hq : W.drewN m = w') (h : IsS23 w0 W g f0 f1) : IsS23 w0 w' g f0 f1 := by subst hq; exact IsS23.drewN h m
theorem IsS23.apart {w0 W : World} {g : Nat} {f0 : Int} {f1 : Int} {α : Type} {d : Kd α} {e : Nat} {base : Nat} {ok : Nat → Prop} {v : Value} {xs : List α} (h : IsS23 w0 W g f0 f1) (ho : d.R e W base ok v xs) (ht : ∀ q, q ∈ e :: d.E → q ≠ 23) : d.R e W base (fun k => ok k ∧ k ≠ g) v xs := by
  obtain ⟨hb, hg⟩ := h
  exact Kd.R_types ho hb ht
theorem IsS23.own_ne {w0 W : World} {g : Nat} {f0 : Int} {f1 : Int} {α : Type} {d : Kd α} {e : Nat} {base : Nat} {ok : Nat → Prop} {v : Value} {xs : List α} (h : IsS23 w0 W g f0 f1) (ho : d.R e W base ok v xs) (ht : e ≠ 23) : some g ≠ v.ownBlock := by
  obtain ⟨hb, hg⟩ := h
  exact Kd.R_ne ho hb ht
theorem IsS23.apartQ {w0 W : World} {g : Nat} {f0 : Int} {f1 : Int} {α : Type} {d : Kd α} {e : Nat} {base : Nat} {ok : Nat → Prop} {v : Value} {xs : List α} (h : IsS23 w0 W g f0 f1) (ho : d.Q e W base ok v xs) (ht : ∀ q, q ∈ e :: d.E → q ≠ 23) : d.Q e W base (fun k => ok k ∧ k ≠ g) v xs := by
  obtain ⟨hb, hg⟩ := h
  exact Kd.Q_types ho hb ht
theorem IsS23.own_neQ {w0 W : World} {g : Nat} {f0 : Int} {f1 : Int} {α : Type} {d : Kd α} {e : Nat} {base : Nat} {ok : Nat → Prop} {v : Value} {xs : List α} (h : IsS23 w0 W g f0 f1) (ho : d.Q e W base ok v xs) (ht : e ≠ 23) : some g ≠ v.ownBlock := by
  obtain ⟨hb, hg⟩ := h
  exact Kd.Q_ne ho hb ht
theorem IsS23.apartS {w0 W : World} {g : Nat} {f0 : Int} {f1 : Int} {α : Type} {d : Kd α} {e : Nat} {base : Nat} {ok : Nat → Prop} {v : Value} {xs : List α} (h : IsS23 w0 W g f0 f1) (ho : d.S e W base ok v xs) (ht : ∀ q, q ∈ e :: d.E → q ≠ 23) : d.S e W base (fun k => ok k ∧ k ≠ g) v xs := by
  obtain ⟨hb, hg⟩ := h
  exact Kd.S_types ho hb ht
theorem IsS23.own_neS {w0 W : World} {g : Nat} {f0 : Int} {f1 : Int} {α : Type} {d : Kd α} {e : Nat} {base : Nat} {ok : Nat → Prop} {v : Value} {xs : List α} (h : IsS23 w0 W g f0 f1) (ho : d.S e W base ok v xs) (ht : e ≠ 23) : some g ≠ v.ownBlock := by
  obtain ⟨hb, hg⟩ := h
  exact Kd.S_ne ho hb ht
theorem IsS23.lt {w0 W : World} {g : Nat} {f0 : Int} {f1 : Int} (h : IsS23 w0 W g f0 f1) : g < W.heap.size := by
  obtain ⟨hb, hg⟩ := h
  exact blk_lt hb
theorem IsS23.ge {w0 W : World} {g : Nat} {f0 : Int} {f1 : Int} (h : IsS23 w0 W g f0 f1) : w0.heap.size ≤ g := by
  obtain ⟨hb, hg⟩ := h
  exact hg
theorem IsS23.ne_blk {w0 W : World} {g : Nat} {f0 : Int} {f1 : Int} {a : Nat} {cs : Array Value} {t : TypeId} {fr : Nat × Nat} (h : IsS23 w0 W g f0 f1) (hb2 : W.heap[a]? = some (.cells cs t fr)) (ht : t ≠ 23) : g ≠ a := by
  obtain ⟨hb, hg⟩ := h
  rintro rfl
  rw [hb] at hb2
  injection hb2 with hb2
  injection hb2 with _ ht2
  exact ht ht2.symm
theorem IsS23.far {w0 W : World} {g : Nat} {f0 : Int} {f1 : Int} {p : Addr} (h : IsS23 w0 W g f0 f1) (hne : g ≠ p.block) (u : Value) : IsS23 w0 (W.setCell p u) g f0 f1 := by
  obtain ⟨hb, hg⟩ := h
  exact ⟨blk_far hb hne u, hg⟩
theorem cellS23_0 {W : World} {g : Nat} {f0 : Int} {f1 : Int} (h : W.heap[g]? = some (.cells #[.int .i64 f0, .int .i64 f1] 23 (0, 0))) : W.cell? ⟨g, 0, none⟩ = some (.int .i64 f0) := (blk_cell h 0).trans rfl
theorem IsS23.set_0 {w0 W : World} {g : Nat} {f0 : Int} {f1 : Int} (h : IsS23 w0 W g f0 f1) (x : Int) : IsS23 w0 (W.setCell ⟨g, 0, none⟩ (.int .i64 x)) g x f1 := by
  obtain ⟨hb, hg⟩ := h
  exact ⟨by simpa using blk_set hb 0 (.int .i64 x), hg⟩
theorem cellS23_1 {W : World} {g : Nat} {f0 : Int} {f1 : Int} (h : W.heap[g]? = some (.cells #[.int .i64 f0, .int .i64 f1] 23 (0, 0))) : W.cell? ⟨g, 1, none⟩ = some (.int .i64 f1) := (blk_cell h 1).trans rfl
theorem IsS23.set_1 {w0 W : World} {g : Nat} {f0 : Int} {f1 : Int} (h : IsS23 w0 W g f0 f1) (x : Int) : IsS23 w0 (W.setCell ⟨g, 1, none⟩ (.int .i64 x)) g f0 x := by
  obtain ⟨hb, hg⟩ := h
  exact ⟨by simpa using blk_set hb 1 (.int .i64 x), hg⟩
theorem IsS23.new (w0 W : World) (f0 : Int) (f1 : Int) (hB : Below w0.heap.size w0 W) : IsS23 w0 (W.alloc (.cells #[.int .i64 f0, .int .i64 f1] 23)) W.heap.size f0 f1 := ⟨by simpa using heap_alloc_new W _, hB.size⟩

/-! ### teleprotection_guarded: function 15 -/
def teleprotection_guarded.f (s0_0 : Int) (s0_1 : Int) (a1 : Int) (a2 : Bool) : Option (Bool × Int × Int) := if a2 = true then (some (decide ((wrap64 (a1 + 1)) > 0), wrap64 (a1 + 1), s0_1)) else (some (decide ((mx (wrap64 (s0_0 - 1)) 0) > 0), mx (wrap64 (s0_0 - 1)) 0, s0_1))
set_option maxHeartbeats 8000000 in
set_option maxRecDepth 100000 in
theorem teleprotection_guarded.calls (g : Nat) (s0_0 : Int) (s0_1 : Int) (a1 : Int) (a2 : Bool) (r1 : Bool) (r2 : Int) (r3 : Int) (w0 w : World) (hI : IsS23 w0 w g s0_0 s0_1) (hB : Below w0.heap.size w0 w) (h : teleprotection_guarded.f s0_0 s0_1 a1 a2 = some (r1, r2, r3)) :
    Calls Tryd.prog 15 #[.pointer (some ⟨g, 0, none⟩), .int .i64 a1, .bool a2] w fun e w' => e = .returned (.bool r1) ∧ IsS23 w0 w' g r2 r3 ∧ Below w0.heap.size w0 w' ∧ KeepBut w w' g none := by
  have HI0 := Aside0.mk hI
  have HK := Aside0.mk (KeepBut.refl w g none)
  have HL := Aside0.mk hB.size
  clear hI
  have HW0 := Aside0.mk hB.size
  have HB := Aside0.mk hB
  clear hB
  have H : (if a2 = true then (some (decide ((wrap64 (a1 + 1)) > 0), wrap64 (a1 + 1), s0_1)) else (some (decide ((mx (wrap64 (s0_0 - 1)) 0) > 0), mx (wrap64 (s0_0 - 1)) 0, s0_1))) = some (r1, r2, r3) := h
  clear h
  by_cases c4 : a2 = true
  · subst c4
    have H1 : (some (decide ((wrap64 (a1 + 1)) > 0), wrap64 (a1 + 1), s0_1)) = some (r1, r2, r3) := by rw [if_pos rfl] at H; exact H
    clear H
    have H := H1
    clear H1
    simp only [Option.some.injEq, Prod.mk.injEq] at H
    obtain ⟨rfl, rfl, rfl⟩ := H
    obtain ⟨HGz5, hgz5⟩ := HI0.out
    have hcz5_0 := cellS23_0 HGz5
    have hcz5_1 := cellS23_1 HGz5
    have hfz5_0 := blk_frozen HGz5 0
    have hfz5_1 := blk_frozen HGz5 1
    clear HGz5 hgz5
    go_enter Tryd.func15, Tryd.ntmps15
    go_wp2
    go_ret
    exact ⟨by first | rfl | (simp [errW_none, errW_some] <;> rfl) | (simp [*, errW_none, errW_some] <;> rfl), by repeat (first | (with_reducible first | exact HI0.out | apply IsS23.alloc | apply IsS23.drewN | apply IsS23.drew | apply IsS23.set_0 | apply IsS23.set_1) | exact HI0.out), by repeat (first | (with_reducible first | exact HB.out | apply below_alloc | apply pw_below_drewN | apply below_drew1 | refine below_set ?_ (IsS23.ge HI0.out)) | exact HB.out), by repeat (first | (with_reducible first | exact HK.out | apply KeepBut.set_ | apply keep_drewN | apply keep_drew | apply keep_alloc) | exact HK.out)⟩
  · replace c4 := Bool.eq_false_iff.mpr c4
    subst c4
    have H1 : (some (decide ((mx (wrap64 (s0_0 - 1)) 0) > 0), mx (wrap64 (s0_0 - 1)) 0, s0_1)) = some (r1, r2, r3) := by rw [if_neg (show ¬ (false = true) by decide)] at H; exact H
    clear H
    have H := H1
    clear H1
    obtain ⟨ji6, hji6⟩ : ∃ j_ : Int, (mx (wrap64 (s0_0 - 1)) 0) = j_ := ⟨_, rfl⟩
    replace H : (some (decide ((ji6) > 0), ji6, s0_1)) = some (r1, r2, r3) := by first | (rw [hji6] at H; exact H) | (simp only [hji6] at H ⊢; exact H)
    (try (have hji6l : 0 ≤ ji6 := by (rw [← hji6]; unfold mx; (repeat' split) <;> omega)))
    (try (have hji6m : 0 ≤ ji6 := by omega))
    have hji6_ : (if (wrap64 (s0_0 - 1)) < 0 then 0 else (wrap64 (s0_0 - 1))) = ji6 := hji6
    simp only [Option.some.injEq, Prod.mk.injEq] at H
    obtain ⟨rfl, rfl, rfl⟩ := H
    obtain ⟨HGz7, hgz7⟩ := HI0.out
    have hcz7_0 := cellS23_0 HGz7
    have hcz7_1 := cellS23_1 HGz7
    have hfz7_0 := blk_frozen HGz7 0
    have hfz7_1 := blk_frozen HGz7 1
    clear HGz7 hgz7
    go_enter Tryd.func15, Tryd.ntmps15
    go_wp2
    go_ret
    exact ⟨by first | rfl | (simp [errW_none, errW_some] <;> rfl) | (simp only [← hji6]; first | rfl | (simp [errW_none, errW_some] <;> rfl)) | (simp [*, errW_none, errW_some] <;> rfl), by repeat (first | (with_reducible first | exact HI0.out | apply IsS23.alloc | apply IsS23.drewN | apply IsS23.drew | apply IsS23.set_0 | apply IsS23.set_1) | exact HI0.out), by repeat (first | (with_reducible first | exact HB.out | apply below_alloc | apply pw_below_drewN | apply below_drew1 | refine below_set ?_ (IsS23.ge HI0.out)) | exact HB.out), by repeat (first | (with_reducible first | exact HK.out | apply KeepBut.set_ | apply keep_drewN | apply keep_drew | apply keep_alloc) | exact HK.out)⟩

/-! ### teleprotection_block: function 16 -/
def teleprotection_block.f (s0_0 : Int) (s0_1 : Int) (a1 : Int) (a2_0 : Bool) (a2_1 : Bool) (a2_2 : Bool) (a2_3 : Bool) (a3 : Bool) : Option (Bool × Int × Int) := if a2_1 = true then (if a2_3 = true then (some (decide (0 > a1), s0_0, 0)) else (if a3 = true then (some (decide (0 > a1), s0_0, 0)) else (some (decide ((mn (wrap64 (s0_1 + 1)) (wrap64 (a1 + 1))) > a1), s0_0, mn (wrap64 (s0_1 + 1)) (wrap64 (a1 + 1)))))) else (some (decide (0 > a1), s0_0, 0))
set_option maxHeartbeats 8000000 in
set_option maxRecDepth 100000 in
theorem teleprotection_block.calls (g : Nat) (s0_0 : Int) (s0_1 : Int) (a1 : Int) (a2_0 : Bool) (a2_1 : Bool) (a2_2 : Bool) (a2_3 : Bool) (a3 : Bool) (r1 : Bool) (r2 : Int) (r3 : Int) (w0 w : World) (hI : IsS23 w0 w g s0_0 s0_1) (hB : Below w0.heap.size w0 w) (h : teleprotection_block.f s0_0 s0_1 a1 a2_0 a2_1 a2_2 a2_3 a3 = some (r1, r2, r3)) :
    Calls Tryd.prog 16 #[.pointer (some ⟨g, 0, none⟩), .int .i64 a1, .agg #[.bool a2_0, .bool a2_1, .bool a2_2, .bool a2_3], .bool a3] w fun e w' => e = .returned (.bool r1) ∧ IsS23 w0 w' g r2 r3 ∧ Below w0.heap.size w0 w' ∧ KeepBut w w' g none := by
  have hu29 := Tryd.underlying29
  have HI0 := Aside0.mk hI
  have HK := Aside0.mk (KeepBut.refl w g none)
  have HL := Aside0.mk hB.size
  clear hI
  have HW0 := Aside0.mk hB.size
  have HB := Aside0.mk hB
  clear hB
  have H : (if a2_1 = true then (if a2_3 = true then (some (decide (0 > a1), s0_0, 0)) else (if a3 = true then (some (decide (0 > a1), s0_0, 0)) else (some (decide ((mn (wrap64 (s0_1 + 1)) (wrap64 (a1 + 1))) > a1), s0_0, mn (wrap64 (s0_1 + 1)) (wrap64 (a1 + 1)))))) else (some (decide (0 > a1), s0_0, 0))) = some (r1, r2, r3) := h
  clear h
  by_cases c5 : a2_1 = true
  · subst c5
    have H1 : (if a2_3 = true then (some (decide (0 > a1), s0_0, 0)) else (if a3 = true then (some (decide (0 > a1), s0_0, 0)) else (some (decide ((mn (wrap64 (s0_1 + 1)) (wrap64 (a1 + 1))) > a1), s0_0, mn (wrap64 (s0_1 + 1)) (wrap64 (a1 + 1)))))) = some (r1, r2, r3) := by rw [if_pos rfl] at H; exact H
    clear H
    have H := H1
    clear H1
    by_cases c6 : a2_3 = true
    · subst c6
      have H1 : (some (decide (0 > a1), s0_0, 0)) = some (r1, r2, r3) := by rw [if_pos rfl] at H; exact H
      clear H
      have H := H1
      clear H1
      simp only [Option.some.injEq, Prod.mk.injEq] at H
      obtain ⟨rfl, rfl, rfl⟩ := H
      go_enter Tryd.func16, Tryd.ntmps16
      go_wp2_with (first | ((with_reducible refine gate_dst (N := 6) rfl ?_); refine box_event ?hg (N := 6) ?hd (cs := #[.bool a2_0, .bool true, .bool a2_2, .bool true]) (t := 29) ?hr ?_; (case hd => rfl); (case hg => rfl); (case hr => first | (go_simp; done) | (go_simp; rfl)); intro gb102 hg w7 hbox hb; have n0_ := Aside0.mk (IsS23.below (by repeat (first | (with_reducible first | exact HI0.out | apply IsS23.alloc | apply IsS23.drewN | apply IsS23.drew | apply IsS23.set_0 | apply IsS23.set_1) | exact HI0.out)) hb); have n1_ := Aside0.mk (KeepBut.trans (by repeat (first | (with_reducible first | exact HK.out | apply KeepBut.set_ | apply keep_drewN | apply keep_drew | apply keep_alloc) | exact HK.out)) (KeepBut.of_below hb g none) (.inl rfl)); have n2_ := Aside0.mk (below_step (by repeat (first | (with_reducible first | exact HB.out | apply below_alloc | apply pw_below_drewN | apply below_drew1 | refine below_set ?_ (IsS23.ge HI0.out)) | exact HB.out)) hb); have n3_ := Aside0.mk (hbox); have n4_ := Aside0.mk ((by rw [hg]; exact (keep_size (w := w) (g := g) (row := none) (by repeat (first | (with_reducible first | exact HK.out | apply KeepBut.set_ | apply keep_drewN | apply keep_drew | apply keep_alloc) | exact HK.out))) : w.heap.size ≤ gb102)); have n5_ := Aside0.mk ((Nat.le_trans HW0.out (by rw [hg]; exact (keep_size (w := w) (g := g) (row := none) (by repeat (first | (with_reducible first | exact HK.out | apply KeepBut.set_ | apply keep_drewN | apply keep_drew | apply keep_alloc) | exact HK.out))) : w.heap.size ≤ gb102) : w0.heap.size ≤ gb102)); have n6_ := Aside0.mk ((by rw [hg]; exact Nat.ne_of_lt (IsS23.lt (show IsS23 w0 _ g s0_0 s0_1 from by repeat (first | (with_reducible first | exact HI0.out | apply IsS23.alloc | apply IsS23.drewN | apply IsS23.drew | apply IsS23.set_0 | apply IsS23.set_1) | exact HI0.out))) : g ≠ gb102)); have n7_ := Aside0.mk ((by rw [hg]; exact Nat.ne_of_gt (IsS23.lt (show IsS23 w0 _ g s0_0 s0_1 from by repeat (first | (with_reducible first | exact HI0.out | apply IsS23.alloc | apply IsS23.drewN | apply IsS23.drew | apply IsS23.set_0 | apply IsS23.set_1) | exact HI0.out))) : gb102 ≠ g)); clear HI0; clear HK; clear HB; have HI0 := n0_; have HK := n1_; have HB := n2_; have BK102 := n3_; have GW102 := n4_; have GE102 := n5_; have NB0_102 := n6_; have NB102_0 := n7_; clear n0_ n1_ n2_ n3_ n4_ n5_ n6_ n7_; clear hb hbox hg; have hnb8 := NB102_0.out; have hnc8 := NB0_102.out; have hcz9_0 : w7.cell? ⟨gb102, 0, none⟩ = some (.bool a2_0) := (blk_cell BK102.out 0).trans rfl; have hcz9_1 : w7.cell? ⟨gb102, 1, none⟩ = some (.bool true) := (blk_cell BK102.out 1).trans rfl; have hcz9_2 : w7.cell? ⟨gb102, 2, none⟩ = some (.bool a2_2) := (blk_cell BK102.out 2).trans rfl; have hcz9_3 : w7.cell? ⟨gb102, 3, none⟩ = some (.bool true) := (blk_cell BK102.out 3).trans rfl; have hfz9_0 := blk_frozen BK102.out 0; have hfz9_1 := blk_frozen BK102.out 1; have hfz9_2 := blk_frozen BK102.out 2; have hfz9_3 := blk_frozen BK102.out 3; obtain ⟨HGz10, hgz10⟩ := HI0.out; have hcz10_0 := cellS23_0 HGz10; have hcz10_1 := cellS23_1 HGz10; have hfz10_0 := blk_frozen HGz10 0; have hfz10_1 := blk_frozen HGz10 1; clear HGz10 hgz10))
      go_ret
      exact ⟨by first | rfl | (simp [errW_none, errW_some] <;> rfl) | (simp [*, errW_none, errW_some] <;> rfl), by repeat (first | (with_reducible first | exact HI0.out | apply IsS23.alloc | apply IsS23.drewN | apply IsS23.drew | apply IsS23.set_0 | apply IsS23.set_1 | refine IsS23.far ?_ NB0_102.out _) | exact HI0.out), by repeat (first | (with_reducible first | exact HB.out | apply below_alloc | apply pw_below_drewN | apply below_drew1 | refine below_set ?_ (IsS23.ge HI0.out) | refine below_set ?_ GE102.out) | exact HB.out), by repeat (first | (with_reducible first | exact HK.out | apply KeepBut.set_ | apply keep_drewN | apply keep_drew | apply keep_alloc | refine keep_far ?_ GW102.out _) | exact HK.out)⟩
    · replace c6 := Bool.eq_false_iff.mpr c6
      subst c6
      have H1 : (if a3 = true then (some (decide (0 > a1), s0_0, 0)) else (some (decide ((mn (wrap64 (s0_1 + 1)) (wrap64 (a1 + 1))) > a1), s0_0, mn (wrap64 (s0_1 + 1)) (wrap64 (a1 + 1))))) = some (r1, r2, r3) := by rw [if_neg (show ¬ (false = true) by decide)] at H; exact H
      clear H
      have H := H1
      clear H1
      by_cases c11 : a3 = true
      · subst c11
        have H1 : (some (decide (0 > a1), s0_0, 0)) = some (r1, r2, r3) := by rw [if_pos rfl] at H; exact H
        clear H
        have H := H1
        clear H1
        simp only [Option.some.injEq, Prod.mk.injEq] at H
        obtain ⟨rfl, rfl, rfl⟩ := H
        go_enter Tryd.func16, Tryd.ntmps16
        go_wp2_with (first | ((with_reducible refine gate_dst (N := 6) rfl ?_); refine box_event ?hg (N := 6) ?hd (cs := #[.bool a2_0, .bool true, .bool a2_2, .bool false]) (t := 29) ?hr ?_; (case hd => rfl); (case hg => rfl); (case hr => first | (go_simp; done) | (go_simp; rfl)); intro gb102 hg w12 hbox hb; have n0_ := Aside0.mk (IsS23.below (by repeat (first | (with_reducible first | exact HI0.out | apply IsS23.alloc | apply IsS23.drewN | apply IsS23.drew | apply IsS23.set_0 | apply IsS23.set_1) | exact HI0.out)) hb); have n1_ := Aside0.mk (KeepBut.trans (by repeat (first | (with_reducible first | exact HK.out | apply KeepBut.set_ | apply keep_drewN | apply keep_drew | apply keep_alloc) | exact HK.out)) (KeepBut.of_below hb g none) (.inl rfl)); have n2_ := Aside0.mk (below_step (by repeat (first | (with_reducible first | exact HB.out | apply below_alloc | apply pw_below_drewN | apply below_drew1 | refine below_set ?_ (IsS23.ge HI0.out)) | exact HB.out)) hb); have n3_ := Aside0.mk (hbox); have n4_ := Aside0.mk ((by rw [hg]; exact (keep_size (w := w) (g := g) (row := none) (by repeat (first | (with_reducible first | exact HK.out | apply KeepBut.set_ | apply keep_drewN | apply keep_drew | apply keep_alloc) | exact HK.out))) : w.heap.size ≤ gb102)); have n5_ := Aside0.mk ((Nat.le_trans HW0.out (by rw [hg]; exact (keep_size (w := w) (g := g) (row := none) (by repeat (first | (with_reducible first | exact HK.out | apply KeepBut.set_ | apply keep_drewN | apply keep_drew | apply keep_alloc) | exact HK.out))) : w.heap.size ≤ gb102) : w0.heap.size ≤ gb102)); have n6_ := Aside0.mk ((by rw [hg]; exact Nat.ne_of_lt (IsS23.lt (show IsS23 w0 _ g s0_0 s0_1 from by repeat (first | (with_reducible first | exact HI0.out | apply IsS23.alloc | apply IsS23.drewN | apply IsS23.drew | apply IsS23.set_0 | apply IsS23.set_1) | exact HI0.out))) : g ≠ gb102)); have n7_ := Aside0.mk ((by rw [hg]; exact Nat.ne_of_gt (IsS23.lt (show IsS23 w0 _ g s0_0 s0_1 from by repeat (first | (with_reducible first | exact HI0.out | apply IsS23.alloc | apply IsS23.drewN | apply IsS23.drew | apply IsS23.set_0 | apply IsS23.set_1) | exact HI0.out))) : gb102 ≠ g)); clear HI0; clear HK; clear HB; have HI0 := n0_; have HK := n1_; have HB := n2_; have BK102 := n3_; have GW102 := n4_; have GE102 := n5_; have NB0_102 := n6_; have NB102_0 := n7_; clear n0_ n1_ n2_ n3_ n4_ n5_ n6_ n7_; clear hb hbox hg; have hnb13 := NB102_0.out; have hnc13 := NB0_102.out; have hcz14_0 : w12.cell? ⟨gb102, 0, none⟩ = some (.bool a2_0) := (blk_cell BK102.out 0).trans rfl; have hcz14_1 : w12.cell? ⟨gb102, 1, none⟩ = some (.bool true) := (blk_cell BK102.out 1).trans rfl; have hcz14_2 : w12.cell? ⟨gb102, 2, none⟩ = some (.bool a2_2) := (blk_cell BK102.out 2).trans rfl; have hcz14_3 : w12.cell? ⟨gb102, 3, none⟩ = some (.bool false) := (blk_cell BK102.out 3).trans rfl; have hfz14_0 := blk_frozen BK102.out 0; have hfz14_1 := blk_frozen BK102.out 1; have hfz14_2 := blk_frozen BK102.out 2; have hfz14_3 := blk_frozen BK102.out 3; obtain ⟨HGz15, hgz15⟩ := HI0.out; have hcz15_0 := cellS23_0 HGz15; have hcz15_1 := cellS23_1 HGz15; have hfz15_0 := blk_frozen HGz15 0; have hfz15_1 := blk_frozen HGz15 1; clear HGz15 hgz15))
        go_ret
        exact ⟨by first | rfl | (simp [errW_none, errW_some] <;> rfl) | (simp [*, errW_none, errW_some] <;> rfl), by repeat (first | (with_reducible first | exact HI0.out | apply IsS23.alloc | apply IsS23.drewN | apply IsS23.drew | apply IsS23.set_0 | apply IsS23.set_1 | refine IsS23.far ?_ NB0_102.out _) | exact HI0.out), by repeat (first | (with_reducible first | exact HB.out | apply below_alloc | apply pw_below_drewN | apply below_drew1 | refine below_set ?_ (IsS23.ge HI0.out) | refine below_set ?_ GE102.out) | exact HB.out), by repeat (first | (with_reducible first | exact HK.out | apply KeepBut.set_ | apply keep_drewN | apply keep_drew | apply keep_alloc | refine keep_far ?_ GW102.out _) | exact HK.out)⟩
      · replace c11 := Bool.eq_false_iff.mpr c11
        subst c11
        have H1 : (some (decide ((mn (wrap64 (s0_1 + 1)) (wrap64 (a1 + 1))) > a1), s0_0, mn (wrap64 (s0_1 + 1)) (wrap64 (a1 + 1)))) = some (r1, r2, r3) := by rw [if_neg (show ¬ (false = true) by decide)] at H; exact H
        clear H
        have H := H1
        clear H1
        obtain ⟨ji16, hji16⟩ : ∃ j_ : Int, (mn (wrap64 (s0_1 + 1)) (wrap64 (a1 + 1))) = j_ := ⟨_, rfl⟩
        replace H : (some (decide ((ji16) > a1), s0_0, ji16)) = some (r1, r2, r3) := by first | (rw [hji16] at H; exact H) | (simp only [hji16] at H ⊢; exact H)
        have hji16_ : (if (wrap64 (a1 + 1)) < (wrap64 (s0_1 + 1)) then (wrap64 (a1 + 1)) else (wrap64 (s0_1 + 1))) = ji16 := hji16
        simp only [Option.some.injEq, Prod.mk.injEq] at H
        obtain ⟨rfl, rfl, rfl⟩ := H
        go_enter Tryd.func16, Tryd.ntmps16
        go_wp2_with (first | ((with_reducible refine gate_dst (N := 6) rfl ?_); refine box_event ?hg (N := 6) ?hd (cs := #[.bool a2_0, .bool true, .bool a2_2, .bool false]) (t := 29) ?hr ?_; (case hd => rfl); (case hg => rfl); (case hr => first | (go_simp; done) | (go_simp; rfl)); intro gb102 hg w17 hbox hb; have n0_ := Aside0.mk (IsS23.below (by repeat (first | (with_reducible first | exact HI0.out | apply IsS23.alloc | apply IsS23.drewN | apply IsS23.drew | apply IsS23.set_0 | apply IsS23.set_1) | exact HI0.out)) hb); have n1_ := Aside0.mk (KeepBut.trans (by repeat (first | (with_reducible first | exact HK.out | apply KeepBut.set_ | apply keep_drewN | apply keep_drew | apply keep_alloc) | exact HK.out)) (KeepBut.of_below hb g none) (.inl rfl)); have n2_ := Aside0.mk (below_step (by repeat (first | (with_reducible first | exact HB.out | apply below_alloc | apply pw_below_drewN | apply below_drew1 | refine below_set ?_ (IsS23.ge HI0.out)) | exact HB.out)) hb); have n3_ := Aside0.mk (hbox); have n4_ := Aside0.mk ((by rw [hg]; exact (keep_size (w := w) (g := g) (row := none) (by repeat (first | (with_reducible first | exact HK.out | apply KeepBut.set_ | apply keep_drewN | apply keep_drew | apply keep_alloc) | exact HK.out))) : w.heap.size ≤ gb102)); have n5_ := Aside0.mk ((Nat.le_trans HW0.out (by rw [hg]; exact (keep_size (w := w) (g := g) (row := none) (by repeat (first | (with_reducible first | exact HK.out | apply KeepBut.set_ | apply keep_drewN | apply keep_drew | apply keep_alloc) | exact HK.out))) : w.heap.size ≤ gb102) : w0.heap.size ≤ gb102)); have n6_ := Aside0.mk ((by rw [hg]; exact Nat.ne_of_lt (IsS23.lt (show IsS23 w0 _ g s0_0 s0_1 from by repeat (first | (with_reducible first | exact HI0.out | apply IsS23.alloc | apply IsS23.drewN | apply IsS23.drew | apply IsS23.set_0 | apply IsS23.set_1) | exact HI0.out))) : g ≠ gb102)); have n7_ := Aside0.mk ((by rw [hg]; exact Nat.ne_of_gt (IsS23.lt (show IsS23 w0 _ g s0_0 s0_1 from by repeat (first | (with_reducible first | exact HI0.out | apply IsS23.alloc | apply IsS23.drewN | apply IsS23.drew | apply IsS23.set_0 | apply IsS23.set_1) | exact HI0.out))) : gb102 ≠ g)); clear HI0; clear HK; clear HB; have HI0 := n0_; have HK := n1_; have HB := n2_; have BK102 := n3_; have GW102 := n4_; have GE102 := n5_; have NB0_102 := n6_; have NB102_0 := n7_; clear n0_ n1_ n2_ n3_ n4_ n5_ n6_ n7_; clear hb hbox hg; have hnb18 := NB102_0.out; have hnc18 := NB0_102.out; have hcz19_0 : w17.cell? ⟨gb102, 0, none⟩ = some (.bool a2_0) := (blk_cell BK102.out 0).trans rfl; have hcz19_1 : w17.cell? ⟨gb102, 1, none⟩ = some (.bool true) := (blk_cell BK102.out 1).trans rfl; have hcz19_2 : w17.cell? ⟨gb102, 2, none⟩ = some (.bool a2_2) := (blk_cell BK102.out 2).trans rfl; have hcz19_3 : w17.cell? ⟨gb102, 3, none⟩ = some (.bool false) := (blk_cell BK102.out 3).trans rfl; have hfz19_0 := blk_frozen BK102.out 0; have hfz19_1 := blk_frozen BK102.out 1; have hfz19_2 := blk_frozen BK102.out 2; have hfz19_3 := blk_frozen BK102.out 3; obtain ⟨HGz20, hgz20⟩ := HI0.out; have hcz20_0 := cellS23_0 HGz20; have hcz20_1 := cellS23_1 HGz20; have hfz20_0 := blk_frozen HGz20 0; have hfz20_1 := blk_frozen HGz20 1; clear HGz20 hgz20))
        go_ret
        exact ⟨by first | rfl | (simp [errW_none, errW_some] <;> rfl) | (simp only [← hji16]; first | rfl | (simp [errW_none, errW_some] <;> rfl)) | (simp [*, errW_none, errW_some] <;> rfl), by repeat (first | (with_reducible first | exact HI0.out | apply IsS23.alloc | apply IsS23.drewN | apply IsS23.drew | apply IsS23.set_0 | apply IsS23.set_1 | refine IsS23.far ?_ NB0_102.out _) | exact HI0.out), by repeat (first | (with_reducible first | exact HB.out | apply below_alloc | apply pw_below_drewN | apply below_drew1 | refine below_set ?_ (IsS23.ge HI0.out) | refine below_set ?_ GE102.out) | exact HB.out), by repeat (first | (with_reducible first | exact HK.out | apply KeepBut.set_ | apply keep_drewN | apply keep_drew | apply keep_alloc | refine keep_far ?_ GW102.out _) | exact HK.out)⟩
  · replace c5 := Bool.eq_false_iff.mpr c5
    subst c5
    have H1 : (some (decide (0 > a1), s0_0, 0)) = some (r1, r2, r3) := by rw [if_neg (show ¬ (false = true) by decide)] at H; exact H
    clear H
    have H := H1
    clear H1
    simp only [Option.some.injEq, Prod.mk.injEq] at H
    obtain ⟨rfl, rfl, rfl⟩ := H
    go_enter Tryd.func16, Tryd.ntmps16
    go_wp2_with (first | ((with_reducible refine gate_dst (N := 6) rfl ?_); refine box_event ?hg (N := 6) ?hd (cs := #[.bool a2_0, .bool false, .bool a2_2, .bool a2_3]) (t := 29) ?hr ?_; (case hd => rfl); (case hg => rfl); (case hr => first | (go_simp; done) | (go_simp; rfl)); intro gb102 hg w21 hbox hb; have n0_ := Aside0.mk (IsS23.below (by repeat (first | (with_reducible first | exact HI0.out | apply IsS23.alloc | apply IsS23.drewN | apply IsS23.drew | apply IsS23.set_0 | apply IsS23.set_1) | exact HI0.out)) hb); have n1_ := Aside0.mk (KeepBut.trans (by repeat (first | (with_reducible first | exact HK.out | apply KeepBut.set_ | apply keep_drewN | apply keep_drew | apply keep_alloc) | exact HK.out)) (KeepBut.of_below hb g none) (.inl rfl)); have n2_ := Aside0.mk (below_step (by repeat (first | (with_reducible first | exact HB.out | apply below_alloc | apply pw_below_drewN | apply below_drew1 | refine below_set ?_ (IsS23.ge HI0.out)) | exact HB.out)) hb); have n3_ := Aside0.mk (hbox); have n4_ := Aside0.mk ((by rw [hg]; exact (keep_size (w := w) (g := g) (row := none) (by repeat (first | (with_reducible first | exact HK.out | apply KeepBut.set_ | apply keep_drewN | apply keep_drew | apply keep_alloc) | exact HK.out))) : w.heap.size ≤ gb102)); have n5_ := Aside0.mk ((Nat.le_trans HW0.out (by rw [hg]; exact (keep_size (w := w) (g := g) (row := none) (by repeat (first | (with_reducible first | exact HK.out | apply KeepBut.set_ | apply keep_drewN | apply keep_drew | apply keep_alloc) | exact HK.out))) : w.heap.size ≤ gb102) : w0.heap.size ≤ gb102)); have n6_ := Aside0.mk ((by rw [hg]; exact Nat.ne_of_lt (IsS23.lt (show IsS23 w0 _ g s0_0 s0_1 from by repeat (first | (with_reducible first | exact HI0.out | apply IsS23.alloc | apply IsS23.drewN | apply IsS23.drew | apply IsS23.set_0 | apply IsS23.set_1) | exact HI0.out))) : g ≠ gb102)); have n7_ := Aside0.mk ((by rw [hg]; exact Nat.ne_of_gt (IsS23.lt (show IsS23 w0 _ g s0_0 s0_1 from by repeat (first | (with_reducible first | exact HI0.out | apply IsS23.alloc | apply IsS23.drewN | apply IsS23.drew | apply IsS23.set_0 | apply IsS23.set_1) | exact HI0.out))) : gb102 ≠ g)); clear HI0; clear HK; clear HB; have HI0 := n0_; have HK := n1_; have HB := n2_; have BK102 := n3_; have GW102 := n4_; have GE102 := n5_; have NB0_102 := n6_; have NB102_0 := n7_; clear n0_ n1_ n2_ n3_ n4_ n5_ n6_ n7_; clear hb hbox hg; have hnb22 := NB102_0.out; have hnc22 := NB0_102.out; have hcz23_0 : w21.cell? ⟨gb102, 0, none⟩ = some (.bool a2_0) := (blk_cell BK102.out 0).trans rfl; have hcz23_1 : w21.cell? ⟨gb102, 1, none⟩ = some (.bool false) := (blk_cell BK102.out 1).trans rfl; have hcz23_2 : w21.cell? ⟨gb102, 2, none⟩ = some (.bool a2_2) := (blk_cell BK102.out 2).trans rfl; have hcz23_3 : w21.cell? ⟨gb102, 3, none⟩ = some (.bool a2_3) := (blk_cell BK102.out 3).trans rfl; have hfz23_0 := blk_frozen BK102.out 0; have hfz23_1 := blk_frozen BK102.out 1; have hfz23_2 := blk_frozen BK102.out 2; have hfz23_3 := blk_frozen BK102.out 3; obtain ⟨HGz24, hgz24⟩ := HI0.out; have hcz24_0 := cellS23_0 HGz24; have hcz24_1 := cellS23_1 HGz24; have hfz24_0 := blk_frozen HGz24 0; have hfz24_1 := blk_frozen HGz24 1; clear HGz24 hgz24))
    go_ret
    exact ⟨by first | rfl | (simp [errW_none, errW_some] <;> rfl) | (simp [*, errW_none, errW_some] <;> rfl), by repeat (first | (with_reducible first | exact HI0.out | apply IsS23.alloc | apply IsS23.drewN | apply IsS23.drew | apply IsS23.set_0 | apply IsS23.set_1 | refine IsS23.far ?_ NB0_102.out _) | exact HI0.out), by repeat (first | (with_reducible first | exact HB.out | apply below_alloc | apply pw_below_drewN | apply below_drew1 | refine below_set ?_ (IsS23.ge HI0.out) | refine below_set ?_ GE102.out) | exact HB.out), by repeat (first | (with_reducible first | exact HK.out | apply KeepBut.set_ | apply keep_drewN | apply keep_drew | apply keep_alloc | refine keep_far ?_ GW102.out _) | exact HK.out)⟩

-- NOT PRINTED: function 9 (teleprotection_Step)

-- NOT PRINTED: function 10 (substationlaw31_known)

/-! ### substationref29_ValidTele: function 13 -/
mutual
def substationref29_ValidTele.j0 : Nat → Int → Int → Int → Bool → Int → Int → Option (Bool)
  | 0, _, _, _, _, _, _ => none
  | k + 1, x0, x1, x2, x32, x108000, x108001 => if x32 = true then (some false) else (if ((x0 == 3) != (decide (x1 > 0))) = true then (substationref29_ValidTele.j1 k x0 x1 x2 true x108000 x108001) else (if x0 = 0 then (substationref29_ValidTele.j1 k x0 x1 x2 (x2 != 0) x108000 x108001) else (substationref29_ValidTele.j1 k x0 x1 x2 false x108000 x108001)))
def substationref29_ValidTele.j1 : Nat → Int → Int → Int → Bool → Int → Int → Option (Bool)
  | 0, _, _, _, _, _, _ => none
  | k + 1, x0, x1, x2, x45, x108000, x108001 => if x45 = true then (some false) else (if x0 = 0 then (if x0 = 3 then (if x108000 ≥ 0 then (if x108000 ≤ 0 then (if x108001 ≥ 0 then (some (decide (x108001 ≤ (wrap64 (x1 + 1))))) else (some false)) else (some false)) else (some false)) else (if x108000 ≥ 0 then (if x108000 ≤ 0 then (if x108001 ≥ 0 then (some (decide (x108001 ≤ 0))) else (some false)) else (some false)) else (some false))) else (if x0 = 3 then (if x108000 ≥ 0 then (if x108000 ≤ (wrap64 (x2 + 1)) then (if x108001 ≥ 0 then (some (decide (x108001 ≤ (wrap64 (x1 + 1))))) else (some false)) else (some false)) else (some false)) else (if x108000 ≥ 0 then (if x108000 ≤ (wrap64 (x2 + 1)) then (if x108001 ≥ 0 then (some (decide (x108001 ≤ 0))) else (some false)) else (some false)) else (some false))))
end
def substationref29_ValidTele.f (k : Nat) (a0 : Int) (a1 : Int) (a2 : Int) (a3_0 : Int) (a3_1 : Int) : Option (Bool) := if a0 < 0 then (substationref29_ValidTele.j0 k a0 a1 a2 true a3_0 a3_1) else (if a0 > 3 then (substationref29_ValidTele.j0 k a0 a1 a2 true a3_0 a3_1) else (if a2 < 0 then (substationref29_ValidTele.j0 k a0 a1 a2 true a3_0 a3_1) else (if a2 > 50 then (substationref29_ValidTele.j0 k a0 a1 a2 true a3_0 a3_1) else (if a1 < 0 then (substationref29_ValidTele.j0 k a0 a1 a2 true a3_0 a3_1) else (substationref29_ValidTele.j0 k a0 a1 a2 (decide (a1 > 50)) a3_0 a3_1)))))
theorem substationref29_ValidTele.mono_l : ∀ k, (∀ y0 y1 y2 y3 y4 y5, LeO (substationref29_ValidTele.j0 k y0 y1 y2 y3 y4 y5) (substationref29_ValidTele.j0 (k + 1) y0 y1 y2 y3 y4 y5)) ∧ (∀ y0 y1 y2 y3 y4 y5, LeO (substationref29_ValidTele.j1 k y0 y1 y2 y3 y4 y5) (substationref29_ValidTele.j1 (k + 1) y0 y1 y2 y3 y4 y5))
  | 0 => ⟨fun _ _ _ _ _ _ r h => by simp [substationref29_ValidTele.j0] at h, fun _ _ _ _ _ _ r h => by simp [substationref29_ValidTele.j1] at h⟩
  | k + 1 => by
    obtain ⟨ih0, ih1⟩ := substationref29_ValidTele.mono_l k
    refine ⟨?_, ?_⟩
    · intro y0 y1 y2 y3 y4 y5
      unfold substationref29_ValidTele.j0
      repeat' first
      | (with_reducible exact ih0 _ _ _ _ _ _)
      | (with_reducible exact ih1 _ _ _ _ _ _)
      | (with_reducible exact LeO.refl _)
      | (with_reducible exact LeO.none _)
      | (with_reducible refine LeO.ite ?_ ?_)
      | (with_reducible refine LeO.bind ?_ (fun _ => ?_))
      | exact ih0 _ _ _ _ _ _
      | exact ih1 _ _ _ _ _ _
      | exact LeO.none _
      | refine LeO.ite ?_ ?_
      | refine LeO.bind ?_ (fun _ => ?_)
    · intro y0 y1 y2 y3 y4 y5
      unfold substationref29_ValidTele.j1
      repeat' first
      | (with_reducible exact ih0 _ _ _ _ _ _)
      | (with_reducible exact ih1 _ _ _ _ _ _)
      | (with_reducible exact LeO.refl _)
      | (with_reducible exact LeO.none _)
      | (with_reducible refine LeO.ite ?_ ?_)
      | (with_reducible refine LeO.bind ?_ (fun _ => ?_))
      | exact ih0 _ _ _ _ _ _
      | exact ih1 _ _ _ _ _ _
      | exact LeO.none _
      | refine LeO.ite ?_ ?_
      | refine LeO.bind ?_ (fun _ => ?_)
theorem substationref29_ValidTele.mono : ∀ a0 a1 a2 a3 a4 k, LeO (substationref29_ValidTele.f k a0 a1 a2 a3 a4) (substationref29_ValidTele.f (k + 1) a0 a1 a2 a3 a4) := by
  intro a0 a1 a2 a3 a4 k
  obtain ⟨ih0, ih1⟩ := substationref29_ValidTele.mono_l k
  unfold substationref29_ValidTele.f
  repeat' first
      | (with_reducible exact ih0 _ _ _ _ _ _)
      | (with_reducible exact ih1 _ _ _ _ _ _)
      | (with_reducible exact LeO.refl _)
      | (with_reducible exact LeO.none _)
      | (with_reducible refine LeO.ite ?_ ?_)
      | (with_reducible refine LeO.bind ?_ (fun _ => ?_))
      | exact ih0 _ _ _ _ _ _
      | exact ih1 _ _ _ _ _ _
      | exact LeO.none _
      | refine LeO.ite ?_ ?_
      | refine LeO.bind ?_ (fun _ => ?_)
set_option maxHeartbeats 8000000 in
set_option maxRecDepth 100000 in
theorem substationref29_ValidTele.calls (k : Nat) (a0 : Int) (a1 : Int) (a2 : Int) (a3_0 : Int) (a3_1 : Int) (r : Bool) (w : World) (h : substationref29_ValidTele.f k a0 a1 a2 a3_0 a3_1 = some r) :
    Calls Tryd.prog 13 #[.int .i64 a0, .int .i64 a1, .int .i64 a2, .agg #[.int .i64 a3_0, .int .i64 a3_1]] w fun e w' => e = .returned (.bool r) ∧ Below w.heap.size w w' := by
  have hu23 := Tryd.underlying23
  have HB := Aside0.mk (Below.refl w.heap.size w)
  have H : (if a0 < 0 then (substationref29_ValidTele.j0 k a0 a1 a2 true a3_0 a3_1) else (if a0 > 3 then (substationref29_ValidTele.j0 k a0 a1 a2 true a3_0 a3_1) else (if a2 < 0 then (substationref29_ValidTele.j0 k a0 a1 a2 true a3_0 a3_1) else (if a2 > 50 then (substationref29_ValidTele.j0 k a0 a1 a2 true a3_0 a3_1) else (if a1 < 0 then (substationref29_ValidTele.j0 k a0 a1 a2 true a3_0 a3_1) else (substationref29_ValidTele.j0 k a0 a1 a2 (decide (a1 > 50)) a3_0 a3_1)))))) = some r := h
  clear h
  have HC5 := Aside0.mk H
  clear H
  go_enter Tryd.func13, Tryd.ntmps13
  go_upto_region 1 with (first | ((with_reducible refine gate_dst (N := 7) rfl ?_); refine box_event ?hg (N := 7) ?hd (cs := #[.int .i64 a3_0, .int .i64 a3_1]) (t := 23) ?hr ?_; (case hd => rfl); (case hg => rfl); (case hr => first | (go_simp; done) | (go_simp; rfl)); intro gb107 hg w6 hbox hb; have n0_ := Aside0.mk (below_step (by repeat (first | (with_reducible first | exact HB.out | apply below_alloc | apply pw_below_drewN | apply below_drew1) | exact HB.out)) hb); have n1_ := Aside0.mk (hbox); have n2_ := Aside0.mk ((by rw [hg]; exact (below_size (by repeat (first | (with_reducible first | exact HB.out | apply below_alloc | apply pw_below_drewN | apply below_drew1) | exact HB.out))) : w.heap.size ≤ gb107)); have n3_ := Aside0.mk ((by rw [hg]; exact (below_size (by repeat (first | (with_reducible first | exact HB.out | apply below_alloc | apply pw_below_drewN | apply below_drew1) | exact HB.out))) : w.heap.size ≤ gb107)); clear HB; have HB := n0_; have BK107 := n1_; have GW107 := n2_; have GE107 := n3_; clear n0_ n1_ n2_ n3_; clear hb hbox hg))
  (try simp only [Act.put, List.setIfInBounds_toArray, List.set_cons_zero, List.set_cons_succ])
  go_cut [32] (fun v32 wc => ∃ (kq : Nat) (x32_4 : Bool), v32 = .bool x32_4 ∧ Aside0 (substationref29_ValidTele.j0 kq a0 a1 a2 x32_4 a3_0 a3_1 = some r) ∧ Aside0 (kq ≤ k) ∧ Aside0 (wc.heap[gb107]? = some (.cells #[.int .i64 a3_0, .int .i64 a3_1] 23 (0, 0))) ∧ Aside0 (Below w.heap.size w wc))
  case first =>
    have H := HC5.out
    clear HC5
    by_cases c7 : a0 < 0
    · rw [if_pos c7] at H
      have c7b0 : decide (a0 < 0) = true := decide_eq_true c7
      clear c7
      (first | rw [c7b0] | (simp only [i64_w, i32_w]; rw [c7b0]) | skip)
      have H' := Aside0.mk H
      clear H
      go_wp2
      go_meet
      case rel => exact ⟨_, (true), (by first | rfl | (simp; done) | (simp [*]; done)), H', ⟨by first | omega | exact Nat.le_refl _⟩, ⟨by (with_reducible repeat (first | refine blk_drewN ?_ _ | refine blk_drew ?_ | refine blk_alloc ?_ _)); exact BK107.out⟩, ⟨by repeat (first | (with_reducible first | exact HB.out | apply below_alloc | apply pw_below_drewN | apply below_drew1 | refine below_set ?_ GE107.out) | exact HB.out)⟩⟩
    · rw [if_neg c7] at H
      have c7b0 : decide (a0 < 0) = false := decide_eq_false c7
      clear c7
      (first | rw [c7b0] | (simp only [i64_w, i32_w]; rw [c7b0]) | skip)
      by_cases c8 : a0 > 3
      · rw [if_pos c8] at H
        have c8b0 : decide (3 < a0) = true := decide_eq_true c8
        clear c8
        have H' := Aside0.mk H
        clear H
        go_wp2
        go_meet
        case rel => exact ⟨_, (true), (by first | rfl | (simp; done) | (simp [*]; done)), H', ⟨by first | omega | exact Nat.le_refl _⟩, ⟨by (with_reducible repeat (first | refine blk_drewN ?_ _ | refine blk_drew ?_ | refine blk_alloc ?_ _)); exact BK107.out⟩, ⟨by repeat (first | (with_reducible first | exact HB.out | apply below_alloc | apply pw_below_drewN | apply below_drew1 | refine below_set ?_ GE107.out) | exact HB.out)⟩⟩
      · rw [if_neg c8] at H
        have c8b0 : decide (3 < a0) = false := decide_eq_false c8
        clear c8
        by_cases c9 : a2 < 0
        · rw [if_pos c9] at H
          have c9b0 : decide (a2 < 0) = true := decide_eq_true c9
          clear c9
          have H' := Aside0.mk H
          clear H
          go_wp2
          go_meet
          case rel => exact ⟨_, (true), (by first | rfl | (simp; done) | (simp [*]; done)), H', ⟨by first | omega | exact Nat.le_refl _⟩, ⟨by (with_reducible repeat (first | refine blk_drewN ?_ _ | refine blk_drew ?_ | refine blk_alloc ?_ _)); exact BK107.out⟩, ⟨by repeat (first | (with_reducible first | exact HB.out | apply below_alloc | apply pw_below_drewN | apply below_drew1 | refine below_set ?_ GE107.out) | exact HB.out)⟩⟩
        · rw [if_neg c9] at H
          have c9b0 : decide (a2 < 0) = false := decide_eq_false c9
          clear c9
          by_cases c10 : a2 > 50
          · rw [if_pos c10] at H
            have c10b0 : decide (50 < a2) = true := decide_eq_true c10
            clear c10
            have H' := Aside0.mk H
            clear H
            go_wp2
            go_meet
            case rel => exact ⟨_, (true), (by first | rfl | (simp; done) | (simp [*]; done)), H', ⟨by first | omega | exact Nat.le_refl _⟩, ⟨by (with_reducible repeat (first | refine blk_drewN ?_ _ | refine blk_drew ?_ | refine blk_alloc ?_ _)); exact BK107.out⟩, ⟨by repeat (first | (with_reducible first | exact HB.out | apply below_alloc | apply pw_below_drewN | apply below_drew1 | refine below_set ?_ GE107.out) | exact HB.out)⟩⟩
          · rw [if_neg c10] at H
            have c10b0 : decide (50 < a2) = false := decide_eq_false c10
            clear c10
            by_cases c11 : a1 < 0
            · rw [if_pos c11] at H
              have c11b0 : decide (a1 < 0) = true := decide_eq_true c11
              clear c11
              have H' := Aside0.mk H
              clear H
              go_wp2
              go_meet
              case rel => exact ⟨_, (true), (by first | rfl | (simp; done) | (simp [*]; done)), H', ⟨by first | omega | exact Nat.le_refl _⟩, ⟨by (with_reducible repeat (first | refine blk_drewN ?_ _ | refine blk_drew ?_ | refine blk_alloc ?_ _)); exact BK107.out⟩, ⟨by repeat (first | (with_reducible first | exact HB.out | apply below_alloc | apply pw_below_drewN | apply below_drew1 | refine below_set ?_ GE107.out) | exact HB.out)⟩⟩
            · rw [if_neg c11] at H
              have c11b0 : decide (a1 < 0) = false := decide_eq_false c11
              clear c11
              have H' := Aside0.mk H
              clear H
              go_wp2
              go_meet
              case rel => exact ⟨_, (decide (a1 > 50)), (by first | rfl | (simp; done) | (simp [*]; done)), H', ⟨by first | omega | exact Nat.le_refl _⟩, ⟨by (with_reducible repeat (first | refine blk_drewN ?_ _ | refine blk_drew ?_ | refine blk_alloc ?_ _)); exact BK107.out⟩, ⟨by repeat (first | (with_reducible first | exact HB.out | apply below_alloc | apply pw_below_drewN | apply below_drew1 | refine below_set ?_ GE107.out) | exact HB.out)⟩⟩
  case rest =>
    clear HC5
    try clear c1
    try clear p2
    try clear c7
    try clear c7b0
    try clear c8
    try clear c8b0
    try clear c9
    try clear c9b0
    try clear c10
    try clear c10b0
    try clear c11
    try clear c11b0
    obtain ⟨kq, x32_4, rfl, HA, HJ4, BK107, HB⟩ := hcut
    cases kq with
    | zero => exact absurd HA.out (by simp [substationref29_ValidTele.j0])
    | succ kj4 =>
      have H := HA.out
      clear HA
      simp only [substationref29_ValidTele.j0] at H
      by_cases c12 : x32_4 = true
      · subst c12
        have H1 : (some false) = some r := by rw [if_pos rfl] at H; exact H
        clear H
        have H := H1
        clear H1
        obtain rfl := Option.some.inj H
        go_wp2
        go_ret
        exact ⟨by first | rfl | (simp [errW_none, errW_some] <;> rfl) | (simp [*, errW_none, errW_some] <;> rfl), by repeat (first | (with_reducible first | exact HB.out | apply below_alloc | apply pw_below_drewN | apply below_drew1 | refine below_set ?_ GE107.out) | exact HB.out)⟩
      · replace c12 := Bool.eq_false_iff.mpr c12
        subst c12
        have H1 : (if ((a0 == 3) != (decide (a1 > 0))) = true then (substationref29_ValidTele.j1 kj4 a0 a1 a2 true a3_0 a3_1) else (if a0 = 0 then (substationref29_ValidTele.j1 kj4 a0 a1 a2 (a2 != 0) a3_0 a3_1) else (substationref29_ValidTele.j1 kj4 a0 a1 a2 false a3_0 a3_1))) = some r := by rw [if_neg (show ¬ (false = true) by decide)] at H; exact H
        clear H
        have H := H1
        clear H1
        have HC13 := Aside0.mk H
        clear H
        go_upto_region 3 with (fail)
        go_cut [45] (fun v45 wc => ∃ (kq : Nat) (x45_12 : Bool), v45 = .bool x45_12 ∧ Aside0 (substationref29_ValidTele.j1 kq a0 a1 a2 x45_12 a3_0 a3_1 = some r) ∧ Aside0 (kq ≤ kj4) ∧ Aside0 (wc.heap[gb107]? = some (.cells #[.int .i64 a3_0, .int .i64 a3_1] 23 (0, 0))) ∧ Aside0 (Below w.heap.size w wc))
        case first =>
          have H := HC13.out
          clear HC13
          by_cases c14 : ((a0 == 3) != (decide (a1 > 0))) = true
          · rw [if_pos c14] at H
            have c14b0 : ((a0 == 3) != (decide (a1 > 0))) = true := c14
            (try (have c14b1 : decide ((a0 == 3) = (decide (a1 > 0))) = false := by simpa using c14))
            (try (have c14b2 : ((a0 == 3) == (decide (a1 > 0))) = false := by simpa using c14))
            (try (have c14b3 : ¬ ((a0 == 3) = (decide (a1 > 0))) := by simpa using c14))
            clear c14
            (first | rw [c14b0] | (simp only [i64_w, i32_w]; rw [c14b0]) | skip)
            have H' := Aside0.mk H
            clear H
            go_wp2
            go_meet
            case rel => exact ⟨_, (true), (by first | rfl | (simp; done) | (simp [*]; done)), H', ⟨by have := HJ4.out; first | omega | exact Nat.le_refl _⟩, ⟨by (with_reducible repeat (first | refine blk_drewN ?_ _ | refine blk_drew ?_ | refine blk_alloc ?_ _)); exact BK107.out⟩, ⟨by repeat (first | (with_reducible first | exact HB.out | apply below_alloc | apply pw_below_drewN | apply below_drew1 | refine below_set ?_ GE107.out) | exact HB.out)⟩⟩
          · rw [if_neg c14] at H
            have c14b0 : ((a0 == 3) != (decide (a1 > 0))) = false := by simpa using c14
            (try (have c14b1 : decide ((a0 == 3) = (decide (a1 > 0))) = true := by simpa using c14))
            (try (have c14b2 : ((a0 == 3) == (decide (a1 > 0))) = true := by simpa using c14))
            clear c14
            (first | rw [c14b0] | (simp only [i64_w, i32_w]; rw [c14b0]) | skip)
            by_cases c15 : a0 = 0
            · rw [if_pos c15] at H
              have c15b0 : (a0 == 0) = true := beq_iff_eq.mpr c15
              have c15b1 : (a0 != 0) = false := bne_eq_false_iff_eq.mpr c15
              clear c15
              have H' := Aside0.mk H
              clear H
              go_wp2
              go_meet
              case rel => exact ⟨_, ((a2 != 0)), (by first | rfl | (simp; done) | (simp [*]; done)), H', ⟨by have := HJ4.out; first | omega | exact Nat.le_refl _⟩, ⟨by (with_reducible repeat (first | refine blk_drewN ?_ _ | refine blk_drew ?_ | refine blk_alloc ?_ _)); exact BK107.out⟩, ⟨by repeat (first | (with_reducible first | exact HB.out | apply below_alloc | apply pw_below_drewN | apply below_drew1 | refine below_set ?_ GE107.out) | exact HB.out)⟩⟩
            · rw [if_neg c15] at H
              have c15b0 : (a0 == 0) = false := beq_eq_false_iff_ne.mpr c15
              have c15b1 : (a0 != 0) = true := bne_iff_ne.mpr c15
              have H' := Aside0.mk H
              clear H
              go_wp2
              go_meet
              case rel => exact ⟨_, (false), (by first | rfl | (simp; done) | (simp [*]; done)), H', ⟨by have := HJ4.out; first | omega | exact Nat.le_refl _⟩, ⟨by (with_reducible repeat (first | refine blk_drewN ?_ _ | refine blk_drew ?_ | refine blk_alloc ?_ _)); exact BK107.out⟩, ⟨by repeat (first | (with_reducible first | exact HB.out | apply below_alloc | apply pw_below_drewN | apply below_drew1 | refine below_set ?_ GE107.out) | exact HB.out)⟩⟩
        case rest =>
          clear HC13
          try clear c1
          try clear p2
          try clear c7
          try clear c7b0
          try clear c8
          try clear c8b0
          try clear c9
          try clear c9b0
          try clear c10
          try clear c10b0
          try clear c11
          try clear c11b0
          try clear c12
          try clear c13
          try clear c14
          try clear c14b0
          try clear c14b1
          try clear c14b2
          try clear c15
          try clear c15b0
          try clear c15b1
          try clear p2
          obtain ⟨kq, x45_12, rfl, HA, HJ12, BK107, HB⟩ := hcut
          cases kq with
          | zero => exact absurd HA.out (by simp [substationref29_ValidTele.j1])
          | succ kj12 =>
            have H := HA.out
            clear HA
            simp only [substationref29_ValidTele.j1] at H
            by_cases c16 : x45_12 = true
            · subst c16
              have H1 : (some false) = some r := by rw [if_pos rfl] at H; exact H
              clear H
              have H := H1
              clear H1
              obtain rfl := Option.some.inj H
              go_wp2
              go_ret
              exact ⟨by first | rfl | (simp [errW_none, errW_some] <;> rfl) | (simp [*, errW_none, errW_some] <;> rfl), by repeat (first | (with_reducible first | exact HB.out | apply below_alloc | apply pw_below_drewN | apply below_drew1 | refine below_set ?_ GE107.out) | exact HB.out)⟩
            · replace c16 := Bool.eq_false_iff.mpr c16
              subst c16
              have H1 : (if a0 = 0 then (if a0 = 3 then (if a3_0 ≥ 0 then (if a3_0 ≤ 0 then (if a3_1 ≥ 0 then (some (decide (a3_1 ≤ (wrap64 (a1 + 1))))) else (some false)) else (some false)) else (some false)) else (if a3_0 ≥ 0 then (if a3_0 ≤ 0 then (if a3_1 ≥ 0 then (some (decide (a3_1 ≤ 0))) else (some false)) else (some false)) else (some false))) else (if a0 = 3 then (if a3_0 ≥ 0 then (if a3_0 ≤ (wrap64 (a2 + 1)) then (if a3_1 ≥ 0 then (some (decide (a3_1 ≤ (wrap64 (a1 + 1))))) else (some false)) else (some false)) else (some false)) else (if a3_0 ≥ 0 then (if a3_0 ≤ (wrap64 (a2 + 1)) then (if a3_1 ≥ 0 then (some (decide (a3_1 ≤ 0))) else (some false)) else (some false)) else (some false)))) = some r := by rw [if_neg (show ¬ (false = true) by decide)] at H; exact H
              clear H
              have H := H1
              clear H1
              by_cases c17 : a0 = 0
              · rw [if_pos c17] at H
                have c17b0 : (a0 == 0) = true := beq_iff_eq.mpr c17
                have c17b1 : (a0 != 0) = false := bne_eq_false_iff_eq.mpr c17
                clear c17
                by_cases c18 : a0 = 3
                · rw [if_pos c18] at H
                  have c18b0 : (a0 == 3) = true := beq_iff_eq.mpr c18
                  have c18b1 : (a0 != 3) = false := bne_eq_false_iff_eq.mpr c18
                  clear c18
                  by_cases c19 : a3_0 ≥ 0
                  · rw [if_pos c19] at H
                    have c19b0 : decide (0 ≤ a3_0) = true := decide_eq_true c19
                    clear c19
                    by_cases c20 : a3_0 ≤ 0
                    · rw [if_pos c20] at H
                      have c20b0 : decide (a3_0 ≤ 0) = true := decide_eq_true c20
                      clear c20
                      by_cases c21 : a3_1 ≥ 0
                      · rw [if_pos c21] at H
                        have c21b0 : decide (0 ≤ a3_1) = true := decide_eq_true c21
                        clear c21
                        obtain rfl := Option.some.inj H
                        have hcz22_0 : wc.cell? ⟨gb107, 0, none⟩ = some (.int .i64 a3_0) := (blk_cell BK107.out 0).trans rfl
                        have hcz22_1 : wc.cell? ⟨gb107, 1, none⟩ = some (.int .i64 a3_1) := (blk_cell BK107.out 1).trans rfl
                        have hfz22_0 := blk_frozen BK107.out 0
                        have hfz22_1 := blk_frozen BK107.out 1
                        go_wp2
                        go_ret
                        exact ⟨by first | rfl | (simp [errW_none, errW_some] <;> rfl) | (simp [*, errW_none, errW_some] <;> rfl), by repeat (first | (with_reducible first | exact HB.out | apply below_alloc | apply pw_below_drewN | apply below_drew1 | refine below_set ?_ GE107.out) | exact HB.out)⟩
                      · rw [if_neg c21] at H
                        have c21b0 : decide (0 ≤ a3_1) = false := decide_eq_false c21
                        clear c21
                        obtain rfl := Option.some.inj H
                        have hcz23_0 : wc.cell? ⟨gb107, 0, none⟩ = some (.int .i64 a3_0) := (blk_cell BK107.out 0).trans rfl
                        have hcz23_1 : wc.cell? ⟨gb107, 1, none⟩ = some (.int .i64 a3_1) := (blk_cell BK107.out 1).trans rfl
                        have hfz23_0 := blk_frozen BK107.out 0
                        have hfz23_1 := blk_frozen BK107.out 1
                        go_wp2
                        go_ret
                        exact ⟨by first | rfl | (simp [errW_none, errW_some] <;> rfl) | (simp [*, errW_none, errW_some] <;> rfl), by repeat (first | (with_reducible first | exact HB.out | apply below_alloc | apply pw_below_drewN | apply below_drew1 | refine below_set ?_ GE107.out) | exact HB.out)⟩
                    · rw [if_neg c20] at H
                      have c20b0 : decide (a3_0 ≤ 0) = false := decide_eq_false c20
                      clear c20
                      obtain rfl := Option.some.inj H
                      have hcz24_0 : wc.cell? ⟨gb107, 0, none⟩ = some (.int .i64 a3_0) := (blk_cell BK107.out 0).trans rfl
                      have hcz24_1 : wc.cell? ⟨gb107, 1, none⟩ = some (.int .i64 a3_1) := (blk_cell BK107.out 1).trans rfl
                      have hfz24_0 := blk_frozen BK107.out 0
                      have hfz24_1 := blk_frozen BK107.out 1
                      go_wp2
                      go_ret
                      exact ⟨by first | rfl | (simp [errW_none, errW_some] <;> rfl) | (simp [*, errW_none, errW_some] <;> rfl), by repeat (first | (with_reducible first | exact HB.out | apply below_alloc | apply pw_below_drewN | apply below_drew1 | refine below_set ?_ GE107.out) | exact HB.out)⟩
                  · rw [if_neg c19] at H
                    have c19b0 : decide (0 ≤ a3_0) = false := decide_eq_false c19
                    clear c19
                    obtain rfl := Option.some.inj H
                    have hcz25_0 : wc.cell? ⟨gb107, 0, none⟩ = some (.int .i64 a3_0) := (blk_cell BK107.out 0).trans rfl
                    have hcz25_1 : wc.cell? ⟨gb107, 1, none⟩ = some (.int .i64 a3_1) := (blk_cell BK107.out 1).trans rfl
                    have hfz25_0 := blk_frozen BK107.out 0
                    have hfz25_1 := blk_frozen BK107.out 1
                    go_wp2
                    go_ret
                    exact ⟨by first | rfl | (simp [errW_none, errW_some] <;> rfl) | (simp [*, errW_none, errW_some] <;> rfl), by repeat (first | (with_reducible first | exact HB.out | apply below_alloc | apply pw_below_drewN | apply below_drew1 | refine below_set ?_ GE107.out) | exact HB.out)⟩
                · rw [if_neg c18] at H
                  have c18b0 : (a0 == 3) = false := beq_eq_false_iff_ne.mpr c18
                  have c18b1 : (a0 != 3) = true := bne_iff_ne.mpr c18
                  by_cases c26 : a3_0 ≥ 0
                  · rw [if_pos c26] at H
                    have c26b0 : decide (0 ≤ a3_0) = true := decide_eq_true c26
                    clear c26
                    by_cases c27 : a3_0 ≤ 0
                    · rw [if_pos c27] at H
                      have c27b0 : decide (a3_0 ≤ 0) = true := decide_eq_true c27
                      clear c27
                      by_cases c28 : a3_1 ≥ 0
                      · rw [if_pos c28] at H
                        have c28b0 : decide (0 ≤ a3_1) = true := decide_eq_true c28
                        clear c28
                        obtain rfl := Option.some.inj H
                        have hcz29_0 : wc.cell? ⟨gb107, 0, none⟩ = some (.int .i64 a3_0) := (blk_cell BK107.out 0).trans rfl
                        have hcz29_1 : wc.cell? ⟨gb107, 1, none⟩ = some (.int .i64 a3_1) := (blk_cell BK107.out 1).trans rfl
                        have hfz29_0 := blk_frozen BK107.out 0
                        have hfz29_1 := blk_frozen BK107.out 1
                        go_wp2
                        go_ret
                        exact ⟨by first | rfl | (simp [errW_none, errW_some] <;> rfl) | (simp [*, errW_none, errW_some] <;> rfl), by repeat (first | (with_reducible first | exact HB.out | apply below_alloc | apply pw_below_drewN | apply below_drew1 | refine below_set ?_ GE107.out) | exact HB.out)⟩
                      · rw [if_neg c28] at H
                        have c28b0 : decide (0 ≤ a3_1) = false := decide_eq_false c28
                        clear c28
                        obtain rfl := Option.some.inj H
                        have hcz30_0 : wc.cell? ⟨gb107, 0, none⟩ = some (.int .i64 a3_0) := (blk_cell BK107.out 0).trans rfl
                        have hcz30_1 : wc.cell? ⟨gb107, 1, none⟩ = some (.int .i64 a3_1) := (blk_cell BK107.out 1).trans rfl
                        have hfz30_0 := blk_frozen BK107.out 0
                        have hfz30_1 := blk_frozen BK107.out 1
                        go_wp2
                        go_ret
                        exact ⟨by first | rfl | (simp [errW_none, errW_some] <;> rfl) | (simp [*, errW_none, errW_some] <;> rfl), by repeat (first | (with_reducible first | exact HB.out | apply below_alloc | apply pw_below_drewN | apply below_drew1 | refine below_set ?_ GE107.out) | exact HB.out)⟩
                    · rw [if_neg c27] at H
                      have c27b0 : decide (a3_0 ≤ 0) = false := decide_eq_false c27
                      clear c27
                      obtain rfl := Option.some.inj H
                      have hcz31_0 : wc.cell? ⟨gb107, 0, none⟩ = some (.int .i64 a3_0) := (blk_cell BK107.out 0).trans rfl
                      have hcz31_1 : wc.cell? ⟨gb107, 1, none⟩ = some (.int .i64 a3_1) := (blk_cell BK107.out 1).trans rfl
                      have hfz31_0 := blk_frozen BK107.out 0
                      have hfz31_1 := blk_frozen BK107.out 1
                      go_wp2
                      go_ret
                      exact ⟨by first | rfl | (simp [errW_none, errW_some] <;> rfl) | (simp [*, errW_none, errW_some] <;> rfl), by repeat (first | (with_reducible first | exact HB.out | apply below_alloc | apply pw_below_drewN | apply below_drew1 | refine below_set ?_ GE107.out) | exact HB.out)⟩
                  · rw [if_neg c26] at H
                    have c26b0 : decide (0 ≤ a3_0) = false := decide_eq_false c26
                    clear c26
                    obtain rfl := Option.some.inj H
                    have hcz32_0 : wc.cell? ⟨gb107, 0, none⟩ = some (.int .i64 a3_0) := (blk_cell BK107.out 0).trans rfl
                    have hcz32_1 : wc.cell? ⟨gb107, 1, none⟩ = some (.int .i64 a3_1) := (blk_cell BK107.out 1).trans rfl
                    have hfz32_0 := blk_frozen BK107.out 0
                    have hfz32_1 := blk_frozen BK107.out 1
                    go_wp2
                    go_ret
                    exact ⟨by first | rfl | (simp [errW_none, errW_some] <;> rfl) | (simp [*, errW_none, errW_some] <;> rfl), by repeat (first | (with_reducible first | exact HB.out | apply below_alloc | apply pw_below_drewN | apply below_drew1 | refine below_set ?_ GE107.out) | exact HB.out)⟩
              · rw [if_neg c17] at H
                have c17b0 : (a0 == 0) = false := beq_eq_false_iff_ne.mpr c17
                have c17b1 : (a0 != 0) = true := bne_iff_ne.mpr c17
                by_cases c33 : a0 = 3
                · rw [if_pos c33] at H
                  have c33b0 : (a0 == 3) = true := beq_iff_eq.mpr c33
                  have c33b1 : (a0 != 3) = false := bne_eq_false_iff_eq.mpr c33
                  clear c33
                  by_cases c34 : a3_0 ≥ 0
                  · rw [if_pos c34] at H
                    have c34b0 : decide (0 ≤ a3_0) = true := decide_eq_true c34
                    clear c34
                    by_cases c35 : a3_0 ≤ (wrap64 (a2 + 1))
                    · rw [if_pos c35] at H
                      have c35b0 : decide (a3_0 ≤ (wrap64 (a2 + 1))) = true := decide_eq_true c35
                      clear c35
                      by_cases c36 : a3_1 ≥ 0
                      · rw [if_pos c36] at H
                        have c36b0 : decide (0 ≤ a3_1) = true := decide_eq_true c36
                        clear c36
                        obtain rfl := Option.some.inj H
                        have hcz37_0 : wc.cell? ⟨gb107, 0, none⟩ = some (.int .i64 a3_0) := (blk_cell BK107.out 0).trans rfl
                        have hcz37_1 : wc.cell? ⟨gb107, 1, none⟩ = some (.int .i64 a3_1) := (blk_cell BK107.out 1).trans rfl
                        have hfz37_0 := blk_frozen BK107.out 0
                        have hfz37_1 := blk_frozen BK107.out 1
                        go_wp2
                        go_ret
                        exact ⟨by first | rfl | (simp [errW_none, errW_some] <;> rfl) | (simp [*, errW_none, errW_some] <;> rfl), by repeat (first | (with_reducible first | exact HB.out | apply below_alloc | apply pw_below_drewN | apply below_drew1 | refine below_set ?_ GE107.out) | exact HB.out)⟩
                      · rw [if_neg c36] at H
                        have c36b0 : decide (0 ≤ a3_1) = false := decide_eq_false c36
                        clear c36
                        obtain rfl := Option.some.inj H
                        have hcz38_0 : wc.cell? ⟨gb107, 0, none⟩ = some (.int .i64 a3_0) := (blk_cell BK107.out 0).trans rfl
                        have hcz38_1 : wc.cell? ⟨gb107, 1, none⟩ = some (.int .i64 a3_1) := (blk_cell BK107.out 1).trans rfl
                        have hfz38_0 := blk_frozen BK107.out 0
                        have hfz38_1 := blk_frozen BK107.out 1
                        go_wp2
                        go_ret
                        exact ⟨by first | rfl | (simp [errW_none, errW_some] <;> rfl) | (simp [*, errW_none, errW_some] <;> rfl), by repeat (first | (with_reducible first | exact HB.out | apply below_alloc | apply pw_below_drewN | apply below_drew1 | refine below_set ?_ GE107.out) | exact HB.out)⟩
                    · rw [if_neg c35] at H
                      have c35b0 : decide (a3_0 ≤ (wrap64 (a2 + 1))) = false := decide_eq_false c35
                      clear c35
                      obtain rfl := Option.some.inj H
                      have hcz39_0 : wc.cell? ⟨gb107, 0, none⟩ = some (.int .i64 a3_0) := (blk_cell BK107.out 0).trans rfl
                      have hcz39_1 : wc.cell? ⟨gb107, 1, none⟩ = some (.int .i64 a3_1) := (blk_cell BK107.out 1).trans rfl
                      have hfz39_0 := blk_frozen BK107.out 0
                      have hfz39_1 := blk_frozen BK107.out 1
                      go_wp2
                      go_ret
                      exact ⟨by first | rfl | (simp [errW_none, errW_some] <;> rfl) | (simp [*, errW_none, errW_some] <;> rfl), by repeat (first | (with_reducible first | exact HB.out | apply below_alloc | apply pw_below_drewN | apply below_drew1 | refine below_set ?_ GE107.out) | exact HB.out)⟩
                  · rw [if_neg c34] at H
                    have c34b0 : decide (0 ≤ a3_0) = false := decide_eq_false c34
                    clear c34
                    obtain rfl := Option.some.inj H
                    have hcz40_0 : wc.cell? ⟨gb107, 0, none⟩ = some (.int .i64 a3_0) := (blk_cell BK107.out 0).trans rfl
                    have hcz40_1 : wc.cell? ⟨gb107, 1, none⟩ = some (.int .i64 a3_1) := (blk_cell BK107.out 1).trans rfl
                    have hfz40_0 := blk_frozen BK107.out 0
                    have hfz40_1 := blk_frozen BK107.out 1
                    go_wp2
                    go_ret
                    exact ⟨by first | rfl | (simp [errW_none, errW_some] <;> rfl) | (simp [*, errW_none, errW_some] <;> rfl), by repeat (first | (with_reducible first | exact HB.out | apply below_alloc | apply pw_below_drewN | apply below_drew1 | refine below_set ?_ GE107.out) | exact HB.out)⟩
                · rw [if_neg c33] at H
                  have c33b0 : (a0 == 3) = false := beq_eq_false_iff_ne.mpr c33
                  have c33b1 : (a0 != 3) = true := bne_iff_ne.mpr c33
                  by_cases c41 : a3_0 ≥ 0
                  · rw [if_pos c41] at H
                    have c41b0 : decide (0 ≤ a3_0) = true := decide_eq_true c41
                    clear c41
                    by_cases c42 : a3_0 ≤ (wrap64 (a2 + 1))
                    · rw [if_pos c42] at H
                      have c42b0 : decide (a3_0 ≤ (wrap64 (a2 + 1))) = true := decide_eq_true c42
                      clear c42
                      by_cases c43 : a3_1 ≥ 0
                      · rw [if_pos c43] at H
                        have c43b0 : decide (0 ≤ a3_1) = true := decide_eq_true c43
                        clear c43
                        obtain rfl := Option.some.inj H
                        have hcz44_0 : wc.cell? ⟨gb107, 0, none⟩ = some (.int .i64 a3_0) := (blk_cell BK107.out 0).trans rfl
                        have hcz44_1 : wc.cell? ⟨gb107, 1, none⟩ = some (.int .i64 a3_1) := (blk_cell BK107.out 1).trans rfl
                        have hfz44_0 := blk_frozen BK107.out 0
                        have hfz44_1 := blk_frozen BK107.out 1
                        go_wp2
                        go_ret
                        exact ⟨by first | rfl | (simp [errW_none, errW_some] <;> rfl) | (simp [*, errW_none, errW_some] <;> rfl), by repeat (first | (with_reducible first | exact HB.out | apply below_alloc | apply pw_below_drewN | apply below_drew1 | refine below_set ?_ GE107.out) | exact HB.out)⟩
                      · rw [if_neg c43] at H
                        have c43b0 : decide (0 ≤ a3_1) = false := decide_eq_false c43
                        clear c43
                        obtain rfl := Option.some.inj H
                        have hcz45_0 : wc.cell? ⟨gb107, 0, none⟩ = some (.int .i64 a3_0) := (blk_cell BK107.out 0).trans rfl
                        have hcz45_1 : wc.cell? ⟨gb107, 1, none⟩ = some (.int .i64 a3_1) := (blk_cell BK107.out 1).trans rfl
                        have hfz45_0 := blk_frozen BK107.out 0
                        have hfz45_1 := blk_frozen BK107.out 1
                        go_wp2
                        go_ret
                        exact ⟨by first | rfl | (simp [errW_none, errW_some] <;> rfl) | (simp [*, errW_none, errW_some] <;> rfl), by repeat (first | (with_reducible first | exact HB.out | apply below_alloc | apply pw_below_drewN | apply below_drew1 | refine below_set ?_ GE107.out) | exact HB.out)⟩
                    · rw [if_neg c42] at H
                      have c42b0 : decide (a3_0 ≤ (wrap64 (a2 + 1))) = false := decide_eq_false c42
                      clear c42
                      obtain rfl := Option.some.inj H
                      have hcz46_0 : wc.cell? ⟨gb107, 0, none⟩ = some (.int .i64 a3_0) := (blk_cell BK107.out 0).trans rfl
                      have hcz46_1 : wc.cell? ⟨gb107, 1, none⟩ = some (.int .i64 a3_1) := (blk_cell BK107.out 1).trans rfl
                      have hfz46_0 := blk_frozen BK107.out 0
                      have hfz46_1 := blk_frozen BK107.out 1
                      go_wp2
                      go_ret
                      exact ⟨by first | rfl | (simp [errW_none, errW_some] <;> rfl) | (simp [*, errW_none, errW_some] <;> rfl), by repeat (first | (with_reducible first | exact HB.out | apply below_alloc | apply pw_below_drewN | apply below_drew1 | refine below_set ?_ GE107.out) | exact HB.out)⟩
                  · rw [if_neg c41] at H
                    have c41b0 : decide (0 ≤ a3_0) = false := decide_eq_false c41
                    clear c41
                    obtain rfl := Option.some.inj H
                    have hcz47_0 : wc.cell? ⟨gb107, 0, none⟩ = some (.int .i64 a3_0) := (blk_cell BK107.out 0).trans rfl
                    have hcz47_1 : wc.cell? ⟨gb107, 1, none⟩ = some (.int .i64 a3_1) := (blk_cell BK107.out 1).trans rfl
                    have hfz47_0 := blk_frozen BK107.out 0
                    have hfz47_1 := blk_frozen BK107.out 1
                    go_wp2
                    go_ret
                    exact ⟨by first | rfl | (simp [errW_none, errW_some] <;> rfl) | (simp [*, errW_none, errW_some] <;> rfl), by repeat (first | (with_reducible first | exact HB.out | apply below_alloc | apply pw_below_drewN | apply below_drew1 | refine below_set ?_ GE107.out) | exact HB.out)⟩

end Go.Proofs.YthnbokmnplipkaaDoor.PTeleprotectionSteps
