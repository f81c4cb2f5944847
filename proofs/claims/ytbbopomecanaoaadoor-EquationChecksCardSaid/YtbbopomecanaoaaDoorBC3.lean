import Derived.Test.YtbbopomecanaoaaDoorBC2
import Derived.Defers
import Derived.Recover
import Derived.Laws.Pointers
import Derived.Laws.Strings
import Derived.Laws.DeepStrings4
/- The texts that the law's proof stands on, merged and pruned by program. No condition. -/
namespace Go.Proofs.YtbbopomecanaoaaDoor.A
open Go.RowKit Go.Proofs.YtbbopomecanaoaaDoorW.PrintWords Go.Proofs.YtbbopomecanaoaaDoorW.PrintLast Go.Proofs.YtbbopomecanaoaaDoorW.PrintMore Go.Proofs.YtbbopomecanaoaaDoor.XK
open Go.Proofs.YtbbopomecanaoaaDoor
attribute [local go_sem] max2_int min2_int max_two min_two max_three min_three max_four min_four fld1 fld3
set_option linter.unusedVariables false
set_option linter.unusedSimpArgs false
theorem isome {c : Prop} [Decidable c] {a : Bool} {o : Option Bool} (h : o.isSome = true) : (if c then some a else o).isSome = true := by
  split
  · rfl
  · exact h
theorem reserved_f (s : ByteArray) : equation_reserved.f s = some (resB s) := by
  have h : (equation_reserved.f s).isSome = true := by
    unfold equation_reserved.f
    repeat' (with_reducible refine isome ?_)
    rfl
  obtain ⟨b, hb⟩ := Option.isSome_iff_exists.1 h
  unfold resB
  rw [hb]
  rfl
theorem PS.wrd {X : Cx} {w : World} {i : Nat} {l : Int} (h : PS X w i l) (h2 : (pk X.ts X.en i).f0 = 1) : i + 1 ≤ X.ts.length := by
  unfold pk at h2
  split at h2
  · omega
  · exact absurd h2 (show ¬ ((0 : Int) = 1) by decide)
theorem fnOp_ne {s : ByteArray} (h : fnOp s ≠ 0) : s.toList ≠ [] := fun e => h (by unfold fnOp; rw [e]; rfl)
structure Sp (X : Cx) (w : World) (ob tb : Nat) (t : Tk) (i : Nat) (l : Int) (wr : World) : Prop where
  bo : wr.heap[ob]? = some (.cells zE 24 (0, 0))
  bt : wr.heap[tb]? = some (.cells #[.int .i64 t.f0, .int .i64 t.f1, .int .i64 t.f2, .string t.f3] 88 (0, 0))
  gb : w.grownBy wr (some X.pb)
  ps : PS X wr i l
  lo : X.pb < w.heap.size
  ho : w.heap.size ≤ ob
  ht : w.heap.size ≤ tb
section
variable {X : Cx} {w wr w1 : World} {ob tb : Nat} {t : Tk} {i : Nat} {l : Int}
theorem Sp.grown (h : Sp X w ob tb t i l wr) {i' : Nat} {l' : Int} (hg : wr.grownBy w1 (some X.pb)) (hp : PS X w1 i' l') : Sp X w ob tb t i' l' w1 :=
  ⟨(hg.block _ (blk_lt h.bo) (by have := h.lo; have := h.ho; intro e; injection e with e; omega)).trans h.bo, (hg.block _ (blk_lt h.bt) (by have := h.lo; have := h.ht; intro e; injection e with e; omega)).trans h.bt,
   World.grownBy.trans h.gb hg, hp, h.lo, h.ho, h.ht⟩
theorem Sp.below (h : Sp X w ob tb t i l wr) (hb : Below wr.heap.size wr w1) : Sp X w ob tb t i l w1 :=
  h.grown (grown_of_below hb _) (h.ps.below hb)
theorem Sp.move2 (h : Sp X w ob tb t i l wr) (hi : i + 1 ≤ X.ts.length) : Sp X w ob tb t (i + 1) l (wr.setCell ⟨X.pb, 1, none⟩ (.int .i64 ((i : Int) + 1))) :=
  h.grown (grown_set _ _ _ _) (h.ps.move (i + 1) hi)
theorem Sp.move (h : Sp X w ob tb t i l wr) (hi : i + 1 ≤ X.ts.length) : Sp X w ob tb t (i + 1) l (wr.setCell ⟨X.pb, 1, none⟩ (.int .i64 ((i + 1 : Nat) : Int))) :=
  h.grown (grown_set _ _ _ _) (h.ps.move (i + 1) hi)
end
set_option maxRecDepth 100000 in
set_option maxHeartbeats 3000000 in
theorem primary_calls (X : Cx) (ex : Nat → Int → Option Res) (hg : OpdF X 61 ex) : OpdF X 127 (primP X.ts X.en ex) := ⟨fun i l r hr w hs => by
  have HG := Aside0.mk hg
  clear hg
  have HS := Aside0.mk hs
  have HS0 := Aside0.mk hs
  have hplt := hs.lt
  have HR := Aside0.mk hr
  clear hs hr
  have HA := below_alloc (Below.refl w.heap.size w) (.cells zE 24)
  have HO := Aside0.mk (heap_alloc_new w (.cells zE 24))
  replace HS := Aside0.mk (HS.out.below HA)
  have HB := Aside0.mk (grown_of_below HA (some X.pb))
  have hsz : w.heap.size < (w.alloc (.cells zE 24)).heap.size := by simp only [World.size_alloc]; omega
  clear HA
  go_enter Tryd.func127, Tryd.ntmps127
  go_wp2_with fail
  generalize w.alloc (.cells zE 24) = W1 at *
  have hob1 : w.heap.size ≤ w.heap.size := Nat.le_refl _
  obtain ⟨ob, hob'⟩ : ∃ ob, w.heap.size = ob := ⟨_, rfl⟩
  replace hob1 : w.heap.size ≤ ob := by omega
  have hob : ob ≠ X.pb := by omega
  have hsz' : ob < W1.heap.size := by omega
  rw [hob'] at HO ⊢
  clear hsz hob'
  have hr := HR.out
  unfold primP at hr
  clear HR
  obtain ⟨tk, ta, tn, tt, hpk⟩ := pk_open X i
  rw [hpk] at hr
  dsimp only at hr
  have HPK := Aside0.mk hpk
  clear hpk
  have hfun := function_f tt
  have hres := reserved_f tt
  with_reducible refine (peek_is HPK.out HS.out).mono ?_
  rintro e w2 ⟨rfl, HB1⟩
  have HT : Aside0 (Sp X w ob w2.heap.size ⟨tk, ta, tn, tt⟩ i l (w2.alloc (.cells #[.int .i64 tk, .int .i64 ta, .int .i64 tn, .string tt] 88))) := ⟨by
    have h2 := below_alloc (Below.refl _ w2) (.cells #[.int .i64 tk, .int .i64 ta, .int .i64 tn, .string tt] 88)
    have hz := HB.out.size
    have hz2 := HB1.size
    exact ⟨blk_below (blk_below HO.out HB1) h2, heap_alloc_new w2 (.cells #[.int .i64 tk, .int .i64 ta, .int .i64 tn, .string tt] 88), World.grownBy.trans HB.out (World.grownBy.trans (grown_of_below HB1 _) (grown_of_below h2 _)), (HS.out.below HB1).below h2, hplt, hob1, by omega⟩⟩
  clear HB HO HS HB1 hob hob1 hsz'
  by_cases hk : tk = 2
  case pos =>
    subst hk
    rw [if_pos rfl] at hr
    obtain rfl := Option.some.inj hr
    have y0 : (w2.alloc (.cells #[.int .i64 2, .int .i64 ta, .int .i64 tn, .string tt] 88)).cell? ⟨w2.heap.size, 0, none⟩ = some (.int .i64 2) := blk_cell HT.out.bt 0
    have hi1 := PS.num HT.out.ps (by rw [HPK.out])
    have p0 := HT.out.ps.c1
    have p1 := HT.out.ps.fr 1
    have hfew := HT.out.ps.few
    have hle := HT.out.ps.le
    replace HT := Aside0.mk (HT.out.move2 hi1)
    clear hi1
    have z2 := blk_cell HT.out.bt 2
    simp at z2
    have HO := Aside0.mk HT.out.bo
    have HB := Aside0.mk HT.out.gb
    have HS := Aside0.mk HT.out.ps
    have hob1 := HT.out.ho
    have HX : Aside0 (RX ((w2.alloc (.cells #[.int .i64 2, .int .i64 ta, .int .i64 tn, .string tt] 88)).setCell ⟨X.pb, 1, none⟩ (.int .i64 ((i : Int) + 1))) w.heap.size (fun k => w.heap.size ≤ k ∧ k ≠ ob) (.slice none 0 0) (⟨2, tn, ⟨#[]⟩, []⟩ : E).f3) := ⟨Kd.R_nil _ _ _ _ _⟩
    clear HT
    have HE := Aside0.mk (Post.laid (x := ⟨2, tn, ⟨#[]⟩, []⟩) HS0.out hob1 HB.out HS.out HX.out (.int .i64 2) (.int .i64 tn) (.string (⟨#[]⟩ : ByteArray)) (.slice none 0 0))
    have HZ := Aside0.mk (put4_blk HO.out (.int .i64 2) (.int .i64 tn) (.string (⟨#[]⟩ : ByteArray)) (.slice none 0 0))
    have o0 := blk_cell HO.out 0
    have o1 := blk_cell HO.out 1
    have o2 := blk_cell HO.out 2
    have o3 := blk_cell HO.out 3
    have f0 := blk_frozen HO.out 0
    have f1 := blk_frozen HO.out 1
    have f2 := blk_frozen HO.out 2
    have f3 := blk_frozen HO.out 3
    simp at o0 o1 o2 o3
    go_wp2_with fail
    refine bodyPost_ret (v := .agg #[.int .i64 2, .int .i64 tn, .string (⟨#[]⟩ : ByteArray), .slice none 0 0]) ?_ rfl HE.out
    clear o0 o1 o2 o3 f0 f1 f2 f3
    have o0 := blk_cell HZ.out 0
    have o1 := blk_cell HZ.out 1
    have o2 := blk_cell HZ.out 2
    have o3 := blk_cell HZ.out 3
    simp at o0 o1 o2 o3
    simp [results, Tryd.results127, go_sem, o0, o1, o2, o3]
  have y0 : (w2.alloc (.cells #[.int .i64 tk, .int .i64 ta, .int .i64 tn, .string tt] 88)).cell? ⟨w2.heap.size, 0, none⟩ = some (.int .i64 tk) := blk_cell HT.out.bt 0
  have bk : (tk == 2) = false := by simpa using hk
  rw [if_neg hk] at hr
  clear hk
  go_wp2_with fail
  clear y0 bk
  generalize (w2.alloc (.cells #[.int .i64 tk, .int .i64 ta, .int .i64 tn, .string tt] 88)) = W2 at *
  generalize w2.heap.size = tb at *
  by_cases hw : tt.toList = [116, 114, 117, 101]
  case pos =>
    rw [if_pos hw] at hr
    with_reducible refine (take_yes (s := bs [116, 114, 117, 101]) HT.out.ps (by rw [bs_list]; decide) ((HPK.out ▸ hw : (pk X.ts X.en i).f3.toList = [116, 114, 117, 101]).trans (bs_list [116, 114, 117, 101]).symm)).mono ?_
    clear hw
    rintro e w3 ⟨rfl, HB1, HS1⟩
    replace HT := Aside0.mk (HT.out.grown HB1 HS1)
    clear HB1 HS1
    obtain rfl := Option.some.inj hr
    have HO := Aside0.mk HT.out.bo
    have HB := Aside0.mk HT.out.gb
    have HS := Aside0.mk HT.out.ps
    have hob1 := HT.out.ho
    have HX : Aside0 (RX w3 w.heap.size (fun k => w.heap.size ≤ k ∧ k ≠ ob) (.slice none 0 0) (⟨1, 1, ⟨#[]⟩, []⟩ : E).f3) := ⟨Kd.R_nil _ _ _ _ _⟩
    clear HT
    have HE := Aside0.mk (Post.laid (x := ⟨1, 1, ⟨#[]⟩, []⟩) HS0.out hob1 HB.out HS.out HX.out (.int .i64 1) (.int .i64 1) (.string (⟨#[]⟩ : ByteArray)) (.slice none 0 0))
    have HZ := Aside0.mk (put4_blk HO.out (.int .i64 1) (.int .i64 1) (.string (⟨#[]⟩ : ByteArray)) (.slice none 0 0))
    have o0 := blk_cell HO.out 0
    have o1 := blk_cell HO.out 1
    have o2 := blk_cell HO.out 2
    have o3 := blk_cell HO.out 3
    have f0 := blk_frozen HO.out 0
    have f1 := blk_frozen HO.out 1
    have f2 := blk_frozen HO.out 2
    have f3 := blk_frozen HO.out 3
    simp at o0 o1 o2 o3
    go_wp2_with fail
    refine bodyPost_ret (v := .agg #[.int .i64 1, .int .i64 1, .string (⟨#[]⟩ : ByteArray), .slice none 0 0]) ?_ rfl HE.out
    clear o0 o1 o2 o3 f0 f1 f2 f3
    have o0 := blk_cell HZ.out 0
    have o1 := blk_cell HZ.out 1
    have o2 := blk_cell HZ.out 2
    have o3 := blk_cell HZ.out 3
    simp at o0 o1 o2 o3
    simp [results, Tryd.results127, go_sem, o0, o1, o2, o3]
  rw [if_neg hw] at hr
  with_reducible refine (take_no (s := bs [116, 114, 117, 101]) HT.out.ps (fun e => absurd ((congrArg (fun t : Tk => t.f3.toList) HPK.out).symm.trans (e.trans (bs_list [116, 114, 117, 101]))) hw)).mono ?_
  clear hw
  rintro e w3 ⟨rfl, HB1⟩
  replace HT := Aside0.mk (HT.out.below HB1)
  clear HB1
  go_wp2_with fail
  by_cases hw : tt.toList = [102, 97, 108, 115, 101]
  case pos =>
    rw [if_pos hw] at hr
    with_reducible refine (take_yes (s := bs [102, 97, 108, 115, 101]) HT.out.ps (by rw [bs_list]; decide) ((HPK.out ▸ hw : (pk X.ts X.en i).f3.toList = [102, 97, 108, 115, 101]).trans (bs_list [102, 97, 108, 115, 101]).symm)).mono ?_
    clear hw
    rintro e w4 ⟨rfl, HB1, HS1⟩
    replace HT := Aside0.mk (HT.out.grown HB1 HS1)
    clear HB1 HS1
    obtain rfl := Option.some.inj hr
    have HO := Aside0.mk HT.out.bo
    have HB := Aside0.mk HT.out.gb
    have HS := Aside0.mk HT.out.ps
    have hob1 := HT.out.ho
    have HX : Aside0 (RX w4 w.heap.size (fun k => w.heap.size ≤ k ∧ k ≠ ob) (.slice none 0 0) (⟨1, 0, ⟨#[]⟩, []⟩ : E).f3) := ⟨Kd.R_nil _ _ _ _ _⟩
    clear HT
    have HE := Aside0.mk (Post.laid (x := ⟨1, 0, ⟨#[]⟩, []⟩) HS0.out hob1 HB.out HS.out HX.out (.int .i64 1) (.int .i64 0) (.string (⟨#[]⟩ : ByteArray)) (.slice none 0 0))
    have HZ := Aside0.mk (put4_blk HO.out (.int .i64 1) (.int .i64 0) (.string (⟨#[]⟩ : ByteArray)) (.slice none 0 0))
    have o0 := blk_cell HO.out 0
    have o1 := blk_cell HO.out 1
    have o2 := blk_cell HO.out 2
    have o3 := blk_cell HO.out 3
    have f0 := blk_frozen HO.out 0
    have f1 := blk_frozen HO.out 1
    have f2 := blk_frozen HO.out 2
    have f3 := blk_frozen HO.out 3
    simp at o0 o1 o2 o3
    go_wp2_with fail
    refine bodyPost_ret (v := .agg #[.int .i64 1, .int .i64 0, .string (⟨#[]⟩ : ByteArray), .slice none 0 0]) ?_ rfl HE.out
    clear o0 o1 o2 o3 f0 f1 f2 f3
    have o0 := blk_cell HZ.out 0
    have o1 := blk_cell HZ.out 1
    have o2 := blk_cell HZ.out 2
    have o3 := blk_cell HZ.out 3
    simp at o0 o1 o2 o3
    simp [results, Tryd.results127, go_sem, o0, o1, o2, o3]
  rw [if_neg hw] at hr
  with_reducible refine (take_no (s := bs [102, 97, 108, 115, 101]) HT.out.ps (fun e => absurd ((congrArg (fun t : Tk => t.f3.toList) HPK.out).symm.trans (e.trans (bs_list [102, 97, 108, 115, 101]))) hw)).mono ?_
  clear hw
  rintro e w4 ⟨rfl, HB1⟩
  replace HT := Aside0.mk (HT.out.below HB1)
  clear HB1
  go_wp2_with fail
  by_cases hw : tt.toList = [40]
  case pos =>
    rw [if_pos hw] at hr
    with_reducible refine (take_yes (s := bs [40]) HT.out.ps (by rw [bs_list]; decide) ((HPK.out ▸ hw : (pk X.ts X.en i).f3.toList = [40]).trans (bs_list [40]).symm)).mono ?_
    clear hw
    rintro e w5 ⟨rfl, HB1, HS1⟩
    replace HT := Aside0.mk (HT.out.grown HB1 HS1)
    clear HB1 HS1
    obtain ⟨r1, hr1⟩ : ∃ r1, ex (i + 1) l = some r1 := by
      cases ho : ex (i + 1) l with
      | none => rw [ho] at hr; cases hr
      | some r1 => exact ⟨r1, rfl⟩
    rw [hr1] at hr
    have HR1 := Aside0.mk hr1
    clear hr1
    go_wp2_with fail
    with_reducible refine (HG.out.calls _ _ _ HR1.out _ HT.out.ps).mono ?_
    clear HR1
    cases r1 with
    | fail a =>
      obtain rfl : Res.fail a = r := Option.some.inj hr
      rintro e w6 ⟨rfl, HB1⟩
      exact ⟨rfl, rfl, World.grownBy.trans HT.out.gb HB1⟩
    | ok x i' l' =>
      dsimp only at hr
      rintro e w6 ⟨v3, rfl, hx, HB1, HS1⟩
      obtain ⟨A3, c3, rfl⟩ := Kd.R_slice hx
      have hlo : ob < w5.heap.size := blk_lt HT.out.bo
      have hz5 := HT.out.gb.size
      replace HT := Aside0.mk (HT.out.grown HB1 HS1)
      have HA := below_alloc (Below.refl w6.heap.size w6) (.cells (cE x (.slice A3 x.f3.length c3)) 24)
      have BX := Aside0.mk (heap_alloc_new w6 (.cells (cE x (.slice A3 x.f3.length c3)) 24))
      have hxp : w6.heap.size ≠ X.pb := by have := HS1.lt; omega
      have HX : Aside0 (RX (w6.alloc (.cells (cE x (.slice A3 x.f3.length c3)) 24)) w.heap.size (fun k => w.heap.size ≤ k ∧ k ≠ ob) (.slice A3 x.f3.length c3) x.f3) := ⟨by
        refine RX.grown (pb := X.pb) (RX.weak (ok := fun k => w5.heap.size ≤ k) hx (by omega) ?_) (grown_of_below HA _) (fun k hk => by have := hk.1; omega)
        intro k h1 h2 h3
        exact ⟨by omega, by omega⟩⟩
      replace HT := Aside0.mk (HT.out.below HA)
      clear HB1 HS1 hx HA hz5
      go_wp2_with fail
      generalize w6.alloc (.cells (cE x (.slice A3 x.f3.length c3)) 24) = W6 at *
      generalize w6.heap.size = xb at *
      by_cases hw : (pk X.ts X.en i').f3.toList = [41]
      case neg =>
        rw [if_neg hw] at hr
        obtain rfl := Option.some.inj hr
        with_reducible refine (want_no (s := bs [41]) HT.out.ps (fun e => absurd (e.trans (bs_list [41])) hw)).mono ?_
        rintro e w7 ⟨rfl, HB1⟩
        exact ⟨rfl, rfl, World.grownBy.trans HT.out.gb (grown_of_below HB1 _)⟩
      rw [if_pos hw] at hr
      obtain rfl := Option.some.inj hr
      with_reducible refine (want_yes (s := bs [41]) HT.out.ps (by rw [bs_list]; decide) (hw.trans (bs_list [41]).symm)).mono ?_
      clear hw
      rintro e w7 ⟨rfl, HB1, HS1⟩
      replace HT := Aside0.mk (HT.out.grown HB1 HS1)
      replace BX := Aside0.mk ((HB1.block _ (blk_lt BX.out) (by intro e; injection e with e; exact hxp e)).trans BX.out)
      have HX1 := Aside0.mk (HX.out.grown HB1 (fun k hk => by have := hk.1; omega))
      clear HB1 HS1 HX
      have x0 := blk_cell BX.out 0
      have x1 := blk_cell BX.out 1
      have x2 := blk_cell BX.out 2
      have x3 := blk_cell BX.out 3
      simp at x0 x1 x2 x3
      have HO := Aside0.mk HT.out.bo
      have HB := Aside0.mk HT.out.gb
      have HS := Aside0.mk HT.out.ps
      have hob1 := HT.out.ho
      have HX : Aside0 (RX w7 w.heap.size (fun k => w.heap.size ≤ k ∧ k ≠ ob) (.slice A3 x.f3.length c3) (x : E).f3) := ⟨HX1.out⟩
      clear HT
      have HE := Aside0.mk (Post.laid (x := x) HS0.out hob1 HB.out HS.out HX.out (.int .i64 x.f0) (.int .i64 x.f1) (.string x.f2) (.slice A3 x.f3.length c3))
      have HZ := Aside0.mk (put4_blk HO.out (.int .i64 x.f0) (.int .i64 x.f1) (.string x.f2) (.slice A3 x.f3.length c3))
      have o0 := blk_cell HO.out 0
      have o1 := blk_cell HO.out 1
      have o2 := blk_cell HO.out 2
      have o3 := blk_cell HO.out 3
      have f0 := blk_frozen HO.out 0
      have f1 := blk_frozen HO.out 1
      have f2 := blk_frozen HO.out 2
      have f3 := blk_frozen HO.out 3
      simp at o0 o1 o2 o3
      go_wp2_with fail
      refine bodyPost_ret (v := .agg #[.int .i64 x.f0, .int .i64 x.f1, .string x.f2, .slice A3 x.f3.length c3]) ?_ rfl HE.out
      clear o0 o1 o2 o3 f0 f1 f2 f3
      have o0 := blk_cell HZ.out 0
      have o1 := blk_cell HZ.out 1
      have o2 := blk_cell HZ.out 2
      have o3 := blk_cell HZ.out 3
      simp at o0 o1 o2 o3
      simp [results, Tryd.results127, go_sem, o0, o1, o2, o3]
  rw [if_neg hw] at hr
  with_reducible refine (take_no (s := bs [40]) HT.out.ps (fun e => absurd ((congrArg (fun t : Tk => t.f3.toList) HPK.out).symm.trans (e.trans (bs_list [40]))) hw)).mono ?_
  clear hw
  rintro e w5 ⟨rfl, HB1⟩
  replace HT := Aside0.mk (HT.out.below HB1)
  clear HB1
  have y3 : w5.cell? ⟨tb, 3, none⟩ = some (.string tt) := blk_cell HT.out.bt 3
  have y0 : w5.cell? ⟨tb, 0, none⟩ = some (.int .i64 tk) := blk_cell HT.out.bt 0
  have HC := Aside0.mk (equation_function.calls 11 tt _ w5 hfun)
  have HCR := Aside0.mk hres
  have hrange := @fnOp_range tt
  have hne := @fnOp_ne tt
  clear hfun hres
  generalize fnOp tt = o at *
  go_wp2_with fail
  with_reducible refine HC.out.mono ?_
  clear HC y3 y0
  rintro e w6 ⟨rfl, HD⟩
  replace HT := Aside0.mk (HT.out.below HD.below)
  clear HD
  by_cases ho : o = 0
  case neg =>
    rw [if_pos ho] at hr
    obtain ⟨h13, h22⟩ := hrange ho
    have bo : (o != 0) = true := by simpa using ho
    have HCC := Aside0.mk (fun w1 hs1 => call_calls X ex HG.out o h13 h22 (i + 1) l r hr w1 hs1)
    have hne' := hne ho
    clear hrange hne hr
    have hi1 := HT.out.ps.word (by rw [HPK.out]; exact hne')
    have p0 := HT.out.ps.c1
    have p1 := HT.out.ps.fr 1
    have hfew := HT.out.ps.few
    have hle := HT.out.ps.le
    replace HT := Aside0.mk (HT.out.move hi1)
    clear hi1
    go_wp2_with fail
    clear p0 p1 bo
    rw [show ((i : Int) + 1) = ((i + 1 : Nat) : Int) by omega]
    generalize w6.setCell ⟨X.pb, 1, none⟩ (.int .i64 ((i + 1 : Nat) : Int)) = W5 at *
    with_reducible refine (HCC.out _ HT.out.ps).mono ?_
    clear HCC HG
    have hlo : ob < W5.heap.size := blk_lt HT.out.bo
    have hz5 := HT.out.gb.size
    cases r with
    | fail a =>
      rintro e w7 ⟨rfl, HB1⟩
      exact ⟨rfl, rfl, World.grownBy.trans HT.out.gb HB1⟩
    | ok x i' l' =>
      rintro e w7 ⟨v3, rfl, hx, HB1, HS1⟩
      obtain ⟨A3, c3, rfl⟩ := Kd.R_slice hx
      replace HT := Aside0.mk (HT.out.grown HB1 HS1)
      have HX1 := Aside0.mk (RX.of_post hx HT.out.ho hlo)
      clear HB1 HS1 hx hz5 hlo
      have HO := Aside0.mk HT.out.bo
      have HB := Aside0.mk HT.out.gb
      have HS := Aside0.mk HT.out.ps
      have hob1 := HT.out.ho
      have HX : Aside0 (RX w7 w.heap.size (fun k => w.heap.size ≤ k ∧ k ≠ ob) (.slice A3 x.f3.length c3) (x : E).f3) := ⟨HX1.out⟩
      clear HT
      have HE := Aside0.mk (Post.laid (x := x) HS0.out hob1 HB.out HS.out HX.out (.int .i64 x.f0) (.int .i64 x.f1) (.string x.f2) (.slice A3 x.f3.length c3))
      have HZ := Aside0.mk (put4_blk HO.out (.int .i64 x.f0) (.int .i64 x.f1) (.string x.f2) (.slice A3 x.f3.length c3))
      have o0 := blk_cell HO.out 0
      have o1 := blk_cell HO.out 1
      have o2 := blk_cell HO.out 2
      have o3 := blk_cell HO.out 3
      have f0 := blk_frozen HO.out 0
      have f1 := blk_frozen HO.out 1
      have f2 := blk_frozen HO.out 2
      have f3 := blk_frozen HO.out 3
      simp at o0 o1 o2 o3
      go_wp2_with fail
      refine bodyPost_ret (v := .agg #[.int .i64 x.f0, .int .i64 x.f1, .string x.f2, .slice A3 x.f3.length c3]) ?_ rfl HE.out
      clear o0 o1 o2 o3 f0 f1 f2 f3
      have o0 := blk_cell HZ.out 0
      have o1 := blk_cell HZ.out 1
      have o2 := blk_cell HZ.out 2
      have o3 := blk_cell HZ.out 3
      simp at o0 o1 o2 o3
      simp [results, Tryd.results127, go_sem, o0, o1, o2, o3]
  subst ho
  rw [if_neg (fun h => h rfl)] at hr
  clear hrange hne HG
  have y3 : w6.cell? ⟨tb, 3, none⟩ = some (.string tt) := blk_cell HT.out.bt 3
  have y0 : w6.cell? ⟨tb, 0, none⟩ = some (.int .i64 tk) := blk_cell HT.out.bt 0
  by_cases hk : tk = 1
  case neg =>
    rw [if_pos (Or.inl hk)] at hr
    obtain rfl := Option.some.inj hr
    have bk : (tk != 1) = true := by simpa using hk
    clear hr hk
    go_wp2_with fail
    have hp := HPK.out
    with_reducible refine (fail_calls X i l _ HT.out.ps).mono ?_
    rw [hp]
    rintro e w7 ⟨rfl, HB1⟩
    exact ⟨rfl, rfl, World.grownBy.trans HT.out.gb (grown_of_below HB1 _)⟩
  subst hk
  have HC := Aside0.mk (equation_reserved.calls tt _ w6 HCR.out)
  clear HCR
  generalize resB tt = rb at *
  go_wp2_with fail
  with_reducible refine HC.out.mono ?_
  clear HC y3 y0
  rintro e w7 ⟨rfl, HD⟩
  replace HT := Aside0.mk (HT.out.below HD.below)
  clear HD
  cases rb with
  | true =>
    rw [if_pos (Or.inr rfl)] at hr
    obtain rfl := Option.some.inj hr
    clear hr
    go_wp2_with fail
    have hp := HPK.out
    with_reducible refine (fail_calls X i l _ HT.out.ps).mono ?_
    rw [hp]
    rintro e w8 ⟨rfl, HB1⟩
    exact ⟨rfl, rfl, World.grownBy.trans HT.out.gb (grown_of_below HB1 _)⟩
  | false =>
    rw [if_neg (by simp)] at hr
    obtain rfl := Option.some.inj hr
    have hi1 := PS.wrd HT.out.ps (by rw [HPK.out])
    have p0 := HT.out.ps.c1
    have p1 := HT.out.ps.fr 1
    have hfew := HT.out.ps.few
    have hle := HT.out.ps.le
    replace HT := Aside0.mk (HT.out.move2 hi1)
    clear hi1
    have z3 := blk_cell HT.out.bt 3
    simp at z3
    have HO := Aside0.mk HT.out.bo
    have HB := Aside0.mk HT.out.gb
    have HS := Aside0.mk HT.out.ps
    have hob1 := HT.out.ho
    have HX : Aside0 (RX (w7.setCell ⟨X.pb, 1, none⟩ (.int .i64 ((i : Int) + 1))) w.heap.size (fun k => w.heap.size ≤ k ∧ k ≠ ob) (.slice none 0 0) (⟨3, 0, tt, []⟩ : E).f3) := ⟨Kd.R_nil _ _ _ _ _⟩
    clear HT
    have HE := Aside0.mk (Post.laid (x := ⟨3, 0, tt, []⟩) HS0.out hob1 HB.out HS.out HX.out (.int .i64 3) (.int .i64 0) (.string tt) (.slice none 0 0))
    have HZ := Aside0.mk (put4_blk HO.out (.int .i64 3) (.int .i64 0) (.string tt) (.slice none 0 0))
    have o0 := blk_cell HO.out 0
    have o1 := blk_cell HO.out 1
    have o2 := blk_cell HO.out 2
    have o3 := blk_cell HO.out 3
    have f0 := blk_frozen HO.out 0
    have f1 := blk_frozen HO.out 1
    have f2 := blk_frozen HO.out 2
    have f3 := blk_frozen HO.out 3
    simp at o0 o1 o2 o3
    go_wp2_with fail
    refine bodyPost_ret (v := .agg #[.int .i64 3, .int .i64 0, .string tt, .slice none 0 0]) ?_ rfl HE.out
    clear o0 o1 o2 o3 f0 f1 f2 f3
    have o0 := blk_cell HZ.out 0
    have o1 := blk_cell HZ.out 1
    have o2 := blk_cell HZ.out 2
    have o3 := blk_cell HZ.out 3
    simp at o0 o1 o2 o3
    simp [results, Tryd.results127, go_sem, o0, o1, o2, o3]⟩
end Go.Proofs.YtbbopomecanaoaaDoor.A
namespace Go.Proofs.YtbbopomecanaoaaDoor.A
open Go.RowKit Go.Proofs.YtbbopomecanaoaaDoorW.PrintWords Go.Proofs.YtbbopomecanaoaaDoorW.PrintLast Go.Proofs.YtbbopomecanaoaaDoorW.PrintMore Go.Proofs.YtbbopomecanaoaaDoor.XK
open Go.Proofs.YtbbopomecanaoaaDoor
attribute [local go_sem] max2_int min2_int max_two min_two max_three min_three max_four min_four fld1 fld3
set_option linter.unusedVariables false
set_option linter.unusedSimpArgs false
def lvF : Lv → Nat
  | .or => 61
  | .xor => 83
  | .and => 93
  | .not => 104
  | .rel => 117
  | .sum => 123
  | .prim => 127
theorem P_calls (X : Cx) : ∀ (k : Nat) (lv : Lv), OpdF X (lvF lv) (P X.ts X.en k lv)
  | 0, _ => ⟨fun i l r hr => by rw [P] at hr; cases hr⟩
  | k + 1, .or => expr_calls X k _ (P_calls X k .xor)
  | k + 1, .xor => xor_calls X k _ (P_calls X k .and)
  | k + 1, .and => and_calls X k _ (P_calls X k .not)
  | k + 1, .not => not_calls X _ _ (P_calls X k .not) (P_calls X k .rel)
  | k + 1, .rel => relation_calls X _ (P_calls X k .sum)
  | k + 1, .sum => sum_calls X k _ (P_calls X k .prim)
  | k + 1, .prim => primary_calls X _ (P_calls X k .or)
end Go.Proofs.YtbbopomecanaoaaDoor.A
namespace Go.Proofs.YtbbopomecanaoaaDoor.A
open Go.RowKit Go.Proofs.YtbbopomecanaoaaDoorW.PrintWords Go.Proofs.YtbbopomecanaoaaDoorW.PrintLast Go.Proofs.YtbbopomecanaoaaDoorW.PrintMore Go.Proofs.YtbbopomecanaoaaDoor.XK
open Go.Proofs.YtbbopomecanaoaaDoor
attribute [local go_sem] max2_int min2_int max_two min_two max_three min_three max_four min_four fld1 fld3
set_option linter.unusedVariables false
set_option linter.unusedSimpArgs false
set_option maxRecDepth 100000 in
set_option maxHeartbeats 1000000 in
theorem catch_panics (ob ab eb : Nat) (p0 p1 p2 p3 : Value) (a : Int) (w : World) (n1 : ¬ ab = ob) (n2 : ¬ eb = ob) (n3 : ¬ eb = ab) (hO : w.heap[ob]? = some (.cells #[p0, p1, p2, p3] 24 (0, 0))) (hA : w.heap[ab]? = some (.cells #[.int .i64 0] 3 (0, 0))) (hE : w.heap[eb]? = some (.cells #[.int .i64 0] 29 (0, 0))) :
    CallsD Tryd.prog 60 #[.pointer (some ⟨ob, 0, none⟩), .pointer (some ⟨ab, 0, none⟩), .pointer (some ⟨eb, 0, none⟩)] (.panicking (wrongE a)) w fun e u' w' =>
      e = .returned (.tuple #[]) ∧ u' = .panicking [{ v := .iface 91 (.int .i64 a), recovered := true }] ∧ w' = ((put4 w ob (.int .i64 0) (.int .i64 0) (.string (⟨#[]⟩ : ByteArray)) (.slice none 0 0)).setCell ⟨ab, 0, none⟩ (.int .i64 a)).setCell ⟨eb, 0, none⟩ (.int .i64 6) := by
  have hta : ∀ w : World, (Instr.typeAssert (.iface 91 (.int .i64 a)) 20 91 true).run Tryd.prog w = .ok (.tuple #[.int .i64 a, .bool true]) w := fun _ => by kernel_rfl
  refine callsD_of_wpS Tryd.func60 rfl fun c₀ cs hu => ?_
  have o0 := blk_cell hO 0
  have o1 := blk_cell hO 1
  have o2 := blk_cell hO 2
  have o3 := blk_cell hO 3
  have f0 := blk_frozen hO 0
  have f1 := blk_frozen hO 1
  have f2 := blk_frozen hO 2
  have f3 := blk_frozen hO 3
  simp at o0 o1 o2 o3
  have a0 : w.cell? ⟨ab, 0, none⟩ = some (.int .i64 0) := blk_cell hA 0
  have a1 := blk_frozen hA 0
  have e0 : w.cell? ⟨eb, 0, none⟩ = some (.int .i64 0) := blk_cell hE 0
  have e1 := blk_frozen hE 0
  apply wpS_seq
  apply wpS_region
  simp [wpOpsS, go_sem, recoverD, hu, Tryd.ntmps60, Exit.thenS]
  apply wpS_seq
  apply wpS_seq
  apply wpS_region
  simp [wpOpsS, go_sem, Exit.thenS]
  refine wpS_cond (t := false) (by simp [Act.eval, Array.replicate]) ?_
  simp only [Bool.false_eq_true, if_false]
  refine wpS_of_wp (wp_skip ?_)
  simp only [Exit.thenS]
  apply wpS_seq
  apply wpS_region
  simp [wpOpsS, go_sem, Exit.thenS, hta]
  apply wpS_seq
  apply wpS_seq
  apply wpS_region
  simp [wpOpsS, go_sem, Exit.thenS]
  refine wpS_cond (t := false) (by simp [Act.eval, Array.replicate]) ?_
  simp only [Bool.false_eq_true, if_false]
  refine wpS_of_wp (wp_skip ?_)
  simp only [Exit.thenS]
  apply wpS_region
  simp [wpOpsS, go_sem, o0, o1, o2, o3, f0, f1, f2, f3, a0, a1, e0, e1, n1, n2, n3, bodyPostS, results, Tryd.results60]
set_option maxRecDepth 100000 in
set_option maxHeartbeats 1000000 in
theorem catch_idle (ob ab eb : Nat) (w : World) :
    CallsD Tryd.prog 60 #[.pointer (some ⟨ob, 0, none⟩), .pointer (some ⟨ab, 0, none⟩), .pointer (some ⟨eb, 0, none⟩)] .returning w fun e u' w' => e = .returned (.tuple #[]) ∧ u' = .returning ∧ w' = w := by
  refine callsD_of_wpS Tryd.func60 rfl fun c₀ cs hu => ?_
  apply wpS_seq
  apply wpS_region
  simp [wpOpsS, go_sem, recoverD, hu, Tryd.ntmps60, Exit.thenS]
  apply wpS_seq
  apply wpS_seq
  apply wpS_region
  simp [wpOpsS, go_sem, Exit.thenS]
  refine wpS_cond (t := true) (by simp [Act.eval, Array.replicate]) ?_
  simp only [if_true]
  refine wpS_of_wp (wp_ret ?_)
  cases c₀
  simp_all [Exit.thenS, bodyPostS, results, Tryd.results60]
structure Sw (X : Cx) (w : World) (ob ab eb : Nat) (p0 p1 p2 p3 : Value) (i : Nat) (l : Int) (wr : World) : Prop where
  bo : wr.heap[ob]? = some (.cells #[p0, p1, p2, p3] 24 (0, 0))
  ba : wr.heap[ab]? = some (.cells #[.int .i64 0] 3 (0, 0))
  be : wr.heap[eb]? = some (.cells #[.int .i64 0] 29 (0, 0))
  gb : w.grownBy wr (some X.pb)
  ps : PS X wr i l
  lo : X.pb < w.heap.size
  ho : w.heap.size ≤ ob
  ha : w.heap.size ≤ ab
  he : w.heap.size ≤ eb
  n1 : ¬ ab = ob
  n2 : ¬ eb = ob
  n3 : ¬ eb = ab
section
variable {X : Cx} {w wr w1 : World} {ob ab eb : Nat} {p0 p1 p2 p3 : Value} {i : Nat} {l : Int}
theorem Sw.grown (h : Sw X w ob ab eb p0 p1 p2 p3 i l wr) {i' : Nat} {l' : Int} (hg : wr.grownBy w1 (some X.pb)) (hp : PS X w1 i' l') : Sw X w ob ab eb p0 p1 p2 p3 i' l' w1 :=
  ⟨(hg.block _ (blk_lt h.bo) (by have := h.lo; have := h.ho; intro e; injection e with e; omega)).trans h.bo, (hg.block _ (blk_lt h.ba) (by have := h.lo; have := h.ha; intro e; injection e with e; omega)).trans h.ba, (hg.block _ (blk_lt h.be) (by have := h.lo; have := h.he; intro e; injection e with e; omega)).trans h.be,
   World.grownBy.trans h.gb hg, hp, h.lo, h.ho, h.ha, h.he, h.n1, h.n2, h.n3⟩
theorem Sw.below (h : Sw X w ob ab eb p0 p1 p2 p3 i l wr) (hb : Below wr.heap.size wr w1) : Sw X w ob ab eb p0 p1 p2 p3 i l w1 := h.grown (grown_of_below hb _) (h.ps.below hb)
theorem Sw.put (h : Sw X w ob ab eb p0 p1 p2 p3 i l wr) (h0 : ∃ i0 l0, PS X w i0 l0) (a b c d : Value) : Sw X w ob ab eb a b c d i l (put4 wr ob a b c d) := by
  obtain ⟨i0, l0, h0⟩ := h0
  have n1 := h.n1
  have n2 := h.n2
  refine ⟨put4_blk h.bo a b c d, ?_, ?_, grown_new (grown_new (grown_new (grown_new h.gb h.ho 0 a) h.ho 1 b) h.ho 2 c) h.ho 3 d, (((h.ps.far h0 h.ho 0 a).far h0 h.ho 1 b).far h0 h.ho 2 c).far h0 h.ho 3 d, h.lo, h.ho, h.ha, h.he, h.n1, h.n2, h.n3⟩
  · exact blk_far (p := ⟨ob, 3, none⟩) (blk_far (p := ⟨ob, 2, none⟩) (blk_far (p := ⟨ob, 1, none⟩) (blk_far (p := ⟨ob, 0, none⟩) h.ba n1 a) n1 b) n1 c) n1 d
  · exact blk_far (p := ⟨ob, 3, none⟩) (blk_far (p := ⟨ob, 2, none⟩) (blk_far (p := ⟨ob, 1, none⟩) (blk_far (p := ⟨ob, 0, none⟩) h.be n2 a) n2 b) n2 c) n2 d
theorem Sw.made (hs : PS X w i l) : Sw X w w.heap.size (w.heap.size + 1) (w.heap.size + 1 + 1) (.int .i64 0) (.int .i64 0) (.string (⟨#[]⟩ : ByteArray)) (.slice none 0 0) i l (((w.alloc (.cells zE 24)).alloc (.cells #[.int .i64 0] 3)).alloc (.cells #[.int .i64 0] 29)) := by
  have h1 := below_alloc (Below.refl w.heap.size w) (.cells zE 24)
  have h2 := below_alloc (Below.refl _ (w.alloc (.cells zE 24))) (.cells #[.int .i64 0] 3)
  have h3 := below_alloc (Below.refl _ ((w.alloc (.cells zE 24)).alloc (.cells #[.int .i64 0] 3))) (.cells #[.int .i64 0] 29)
  have ha := heap_alloc_new (w.alloc (.cells zE 24)) (.cells #[.int .i64 0] 3)
  have he := heap_alloc_new ((w.alloc (.cells zE 24)).alloc (.cells #[.int .i64 0] 3)) (.cells #[.int .i64 0] 29)
  rw [World.size_alloc] at ha
  rw [World.size_alloc, World.size_alloc] at he
  exact ⟨blk_below (blk_below (heap_alloc_new w (.cells zE 24)) h2) h3, blk_below ha h3, he, World.grownBy.trans (World.grownBy.trans (grown_of_below h1 _) (grown_of_below h2 _)) (grown_of_below h3 _), ((hs.below h1).below h2).below h3, hs.lt, Nat.le_refl _, by omega, by omega, by omega, by omega, by omega⟩
end
theorem laid3 {w wr : World} {row : Option Nat} {ob ab eb : Nat} {p0 p1 p2 p3 : Value} (bo : wr.heap[ob]? = some (.cells #[p0, p1, p2, p3] 24 (0, 0))) (ba : wr.heap[ab]? = some (.cells #[.int .i64 0] 3 (0, 0))) (be : wr.heap[eb]? = some (.cells #[.int .i64 0] 29 (0, 0)))
    (gb : w.grownBy wr row) (ho : w.heap.size ≤ ob) (ha : w.heap.size ≤ ab) (he : w.heap.size ≤ eb) (n1 : ¬ ab = ob) (n2 : ¬ eb = ob) (n3 : ¬ eb = ab) (a b c d va ve : Value) :
    w.grownBy (((put4 wr ob a b c d).setCell ⟨ab, 0, none⟩ va).setCell ⟨eb, 0, none⟩ ve) row ∧
    (((put4 wr ob a b c d).setCell ⟨ab, 0, none⟩ va).setCell ⟨eb, 0, none⟩ ve).heap[ob]? = some (.cells #[a, b, c, d] 24 (0, 0)) ∧
    (((put4 wr ob a b c d).setCell ⟨ab, 0, none⟩ va).setCell ⟨eb, 0, none⟩ ve).heap[ab]? = some (.cells #[va] 3 (0, 0)) ∧
    (((put4 wr ob a b c d).setCell ⟨ab, 0, none⟩ va).setCell ⟨eb, 0, none⟩ ve).heap[eb]? = some (.cells #[ve] 29 (0, 0)) := by
  have hp := put4_blk bo a b c d
  have hg := grown_new (grown_new (grown_new (grown_new gb ho 0 a) ho 1 b) ho 2 c) ho 3 d
  have ha1 := blk_far (p := ⟨ob, 3, none⟩) (blk_far (p := ⟨ob, 2, none⟩) (blk_far (p := ⟨ob, 1, none⟩) (blk_far (p := ⟨ob, 0, none⟩) ba n1 a) n1 b) n1 c) n1 d
  have he1 := blk_far (p := ⟨ob, 3, none⟩) (blk_far (p := ⟨ob, 2, none⟩) (blk_far (p := ⟨ob, 1, none⟩) (blk_far (p := ⟨ob, 0, none⟩) be n2 a) n2 b) n2 c) n2 d
  exact ⟨grown_new (grown_new hg ha 0 _) he 0 _, blk_far (p := ⟨eb, 0, none⟩) (blk_far (p := ⟨ab, 0, none⟩) hp (Ne.symm n1) _) (Ne.symm n2) _,
    blk_far (p := ⟨eb, 0, none⟩) (blk_put ha1 0 _ rfl) (Ne.symm n3) _, blk_put (blk_far (p := ⟨ab, 0, none⟩) he1 n3 _) 0 _ rfl⟩
def WPost (X : Cx) (w : World) : Res → Ending → World → Prop
  | .fail a, e, w' => e = .returned (.tuple #[.agg zE, .int .i64 a, .int .i64 6]) ∧ w.grownBy w' (some X.pb)
  | .ok x i l, e, w' =>
    if i < X.ts.length then e = .returned (.tuple #[.agg zE, .int .i64 (pk X.ts X.en i).f1, .int .i64 6]) ∧ w.grownBy w' (some X.pb)
    else ∃ v3, e = .returned (.tuple #[.agg (cE x v3), .int .i64 0, .int .i64 0]) ∧ RX w' w.heap.size (fun k => w.heap.size ≤ k) v3 x.f3 ∧ w.grownBy w' (some X.pb) ∧ PS X w' i l
set_option maxRecDepth 100000 in
set_option maxHeartbeats 3000000 in
theorem whole_calls (X : Cx) (k : Nat) (i : Nat) (l : Int) (r : Res) (hr : P X.ts X.en k .or i l = some r) (w : World) (hs : PS X w i l) : Calls Tryd.prog 36 #[ptr X] w fun e w' => WPost X w r e w' := by
  have HS0 := Aside0.mk hs
  have HT := Aside0.mk (Sw.made hs)
  have HC := Aside0.mk ((show OpdF X 61 (P X.ts X.en k .or) from P_calls X k .or).calls i l r hr _ HT.out.ps)
  clear hs hr
  have hmf := makeFunc_run
  go_enter_defers Tryd.func36, Tryd.ntmps36
  go_wp2_with fail
  generalize ((w.alloc (.cells zE 24)).alloc (.cells #[.int .i64 0] 3)).alloc (.cells #[.int .i64 0] 29) = W1 at *
  generalize w.heap.size + 1 + 1 = eb at *
  generalize w.heap.size + 1 = ab at *
  generalize hob : w.heap.size = ob at HT ⊢
  clear hob
  with_reducible refine HC.out.mono ?_
  clear HC
  cases r with
  | fail a =>
    rintro e w2 ⟨rfl, HB1⟩
    have HZ := Aside0.mk (by
      have h := HT.out
      have bo := (HB1.block _ (blk_lt h.bo) (by have := h.lo; have := h.ho; intro e; injection e with e; omega)).trans h.bo
      have ba := (HB1.block _ (blk_lt h.ba) (by have := h.lo; have := h.ha; intro e; injection e with e; omega)).trans h.ba
      have be := (HB1.block _ (blk_lt h.be) (by have := h.lo; have := h.he; intro e; injection e with e; omega)).trans h.be
      exact And.intro bo (And.intro ba (And.intro be (And.intro (laid3 bo ba be (World.grownBy.trans h.gb HB1) h.ho h.ha h.he h.n1 h.n2 h.n3 (.int .i64 0) (.int .i64 0) (.string (⟨#[]⟩ : ByteArray)) (.slice none 0 0) (.int .i64 a) (.int .i64 6)) (And.intro h.n1 (And.intro h.n2 h.n3))))))
    clear HS0 HT
    refine leaves_cons (f := 60) (args := #[.pointer (some ⟨ob, 0, none⟩), .pointer (some ⟨ab, 0, none⟩), .pointer (some ⟨eb, 0, none⟩)]) (by simp) (by simp [go_sem]) ?_
    with_reducible refine (catch_panics ob ab eb _ _ _ _ (a) _ HZ.out.2.2.2.2.1 HZ.out.2.2.2.2.2.1 HZ.out.2.2.2.2.2.2 HZ.out.1 HZ.out.2.1 HZ.out.2.2.1).mono ?_
    rintro e u' w9 ⟨rfl, rfl, rfl⟩
    obtain ⟨hgb, hbo, hba, hbe⟩ := HZ.out.2.2.2.1
    clear HZ
    have z0 := blk_cell hbo 0
    have z1 := blk_cell hbo 1
    have z2 := blk_cell hbo 2
    have z3 := blk_cell hbo 3
    have za := blk_cell hba 0
    have ze := blk_cell hbe 0
    simp at z0 z1 z2 z3 za ze
    replace hgb := Aside0.mk hgb
    clear hbo hba hbe
    simp [Leaves, settle, results, Tryd.results36, go_sem, z0, z1, z2, z3, za, ze]
    exact ⟨rfl, hgb.out⟩
  | ok x i l =>
    rintro e w2 ⟨v3, rfl, hx, HB1, HS1⟩
    obtain ⟨A3, c3, rfl⟩ := Kd.R_slice hx
    have hz1 := HT.out.gb.size
    have hb1 := blk_lt HT.out.bo
    have hb2 := blk_lt HT.out.ba
    have hb3 := blk_lt HT.out.be
    have HX := Aside0.mk (RX.weak (ok := fun k => W1.heap.size ≤ k) (B' := w.heap.size) (ok' := fun k => w.heap.size ≤ k ∧ k ≠ ob ∧ k ≠ ab ∧ k ≠ eb) hx hz1 (fun k h1 _ _ => ⟨by omega, by omega, by omega, by omega⟩))
    clear hz1 hb1 hb2 hb3
    replace HT := Aside0.mk (HT.out.grown HB1 HS1)
    clear HB1 HS1 hx
    have o0 := blk_cell HT.out.bo 0
    have o1 := blk_cell HT.out.bo 1
    have o2 := blk_cell HT.out.bo 2
    have o3 := blk_cell HT.out.bo 3
    have f0 := blk_frozen HT.out.bo 0
    have f1 := blk_frozen HT.out.bo 1
    have f2 := blk_frozen HT.out.bo 2
    have f3 := blk_frozen HT.out.bo 3
    simp at o0 o1 o2 o3
    replace HT := Aside0.mk (HT.out.put ⟨_, _, HS0.out⟩ (.int .i64 x.f0) (.int .i64 x.f1) (.string x.f2) (.slice A3 x.f3.length c3))
    replace HX := Aside0.mk ((((HX.out.far (g := ob) (fun k hk => hk.2.1) 0 (.int .i64 x.f0)).far (g := ob) (fun k hk => hk.2.1) 1 (.int .i64 x.f1)).far (g := ob) (fun k hk => hk.2.1) 2 (.string x.f2)).far (g := ob) (fun k hk => hk.2.1) 3 (.slice A3 x.f3.length c3))
    simp only [put4] at HT
    go_wp2_with fail
    clear o0 o1 o2 o3 f0 f1 f2 f3
    generalize (((w2.setCell ⟨ob, 0, none⟩ (.int .i64 x.f0)).setCell ⟨ob, 1, none⟩ (.int .i64 x.f1)).setCell ⟨ob, 2, none⟩ (.string x.f2)).setCell ⟨ob, 3, none⟩ (.slice A3 x.f3.length c3) = W2 at *
    have q0 := HT.out.ps.c0
    have q1 := HT.out.ps.c1
    have hfew := HT.out.ps.few
    have hle := HT.out.ps.le
    by_cases hlt : i < X.ts.length
    · have t0 : decide ((i : Int) < (X.ts.length : Int)) = true := by simp; omega
      refine Q.q_start (by kernel_rfl) (by kernel_rfl) ?_
      refine Q.q_value (N := some 8) (v := ?_) (a' := ?_) rfl (by rfl) ?_ ?_ ?_
      rotate_left
      · intro w' hb
        clear hb
        go_simp
        with_reducible rfl
      rotate_left
      · simp only [Act.put, List.setIfInBounds_toArray, List.set_cons_zero, List.set_cons_succ, i64_w, i32_w]
        rfl
      refine Q.q_value (N := some 9) (v := ?_) (a' := ?_) rfl (by rfl) ?_ ?_ ?_
      rotate_left
      · intro w' hb
        clear hb
        go_simp
        with_reducible rfl
      rotate_left
      · simp only [Act.put, List.setIfInBounds_toArray, List.set_cons_zero, List.set_cons_succ, i64_w, i32_w]
        rfl
      refine Q.q_value (N := some 10) (v := ?_) (a' := ?_) rfl (by rfl) ?_ ?_ ?_
      rotate_left
      · intro w' hb
        clear hb
        go_simp
        with_reducible rfl
      rotate_left
      · simp only [Act.put, List.setIfInBounds_toArray, List.set_cons_zero, List.set_cons_succ, i64_w, i32_w]
        rfl
      refine Q.q_value (N := some 11) (v := ?_) (a' := ?_) rfl (by rfl) ?_ ?_ ?_
      rotate_left
      · intro w' hb
        have s0 := pw_cell_below hb q1
        clear hb
        go_simp
        with_reducible rfl
      rotate_left
      · simp only [Act.put, List.setIfInBounds_toArray, List.set_cons_zero, List.set_cons_succ, i64_w, i32_w]
        rfl
      refine Q.q_value (N := some 12) (v := ?_) (a' := ?_) rfl (by rfl) ?_ ?_ ?_
      rotate_left
      · intro w' hb
        clear hb
        go_simp
        with_reducible rfl
      rotate_left
      · simp only [Act.put, List.setIfInBounds_toArray, List.set_cons_zero, List.set_cons_succ, i64_w, i32_w]
        rfl
      refine Q.q_value (N := some 13) (v := ?_) (a' := ?_) rfl (by rfl) ?_ ?_ ?_
      rotate_left
      · intro w' hb
        clear hb
        go_simp
        with_reducible rfl
      rotate_left
      · simp only [Act.put, List.setIfInBounds_toArray, List.set_cons_zero, List.set_cons_succ, i64_w, i32_w]
        rfl
      refine Q.q_value (N := some 14) (v := ?_) (a' := ?_) rfl (by rfl) ?_ ?_ ?_
      rotate_left
      · intro w' hb
        clear hb
        go_simp
        with_reducible rfl
      rotate_left
      · simp only [Act.put, List.setIfInBounds_toArray, List.set_cons_zero, List.set_cons_succ, i64_w, i32_w]
        rfl
      refine Q.q_value (N := some 15) (v := ?_) (a' := ?_) rfl (by rfl) ?_ ?_ ?_
      rotate_left
      · intro w' hb
        have s0 := pw_cell_below hb q0
        clear hb
        go_simp
        with_reducible rfl
      rotate_left
      · simp only [Act.put, List.setIfInBounds_toArray, List.set_cons_zero, List.set_cons_succ, i64_w, i32_w]
        rfl
      refine Q.q_value (N := some 16) (v := ?_) (a' := ?_) rfl (by rfl) ?_ ?_ ?_
      rotate_left
      · intro w' hb
        clear hb
        go_simp
        with_reducible rfl
      rotate_left
      · simp only [Act.put, List.setIfInBounds_toArray, List.set_cons_zero, List.set_cons_succ, i64_w, i32_w]
        rfl
      refine Q.q_value (N := some 17) (v := ?_) (a' := ?_) rfl (by rfl) ?_ ?_ ?_
      rotate_left
      · intro w' hb
        clear hb
        go_simp
        with_reducible rfl
      rotate_left
      · simp only [Act.put, List.setIfInBounds_toArray, List.set_cons_zero, List.set_cons_succ, i64_w, i32_w]
        rfl
      refine wpQuiet_nil ?_
      intro w3 HB1
      clear q0 q1
      replace HT := Aside0.mk (HT.out.below HB1)
      clear HB1
      go_wp2_with fail
      with_reducible refine (fail_calls X i l _ HT.out.ps).mono ?_
      rintro e w4 ⟨rfl, HB1⟩
      replace HT := Aside0.mk (HT.out.below HB1)
      clear HB1 hmf HX
      have HZ := Aside0.mk (by
        have h := HT.out
        exact And.intro h.bo (And.intro h.ba (And.intro h.be (And.intro (laid3 h.bo h.ba h.be h.gb h.ho h.ha h.he h.n1 h.n2 h.n3 (.int .i64 0) (.int .i64 0) (.string (⟨#[]⟩ : ByteArray)) (.slice none 0 0) (.int .i64 (pk X.ts X.en i).f1) (.int .i64 6)) (And.intro h.n1 (And.intro h.n2 h.n3))))))
      clear HS0 HT
      refine leaves_cons (f := 60) (args := #[.pointer (some ⟨ob, 0, none⟩), .pointer (some ⟨ab, 0, none⟩), .pointer (some ⟨eb, 0, none⟩)]) (by simp) (by simp [go_sem]) ?_
      with_reducible refine (catch_panics ob ab eb _ _ _ _ ((pk X.ts X.en i).f1) _ HZ.out.2.2.2.2.1 HZ.out.2.2.2.2.2.1 HZ.out.2.2.2.2.2.2 HZ.out.1 HZ.out.2.1 HZ.out.2.2.1).mono ?_
      rintro e u' w9 ⟨rfl, rfl, rfl⟩
      obtain ⟨hgb, hbo, hba, hbe⟩ := HZ.out.2.2.2.1
      clear HZ
      have z0 := blk_cell hbo 0
      have z1 := blk_cell hbo 1
      have z2 := blk_cell hbo 2
      have z3 := blk_cell hbo 3
      have za := blk_cell hba 0
      have ze := blk_cell hbe 0
      simp at z0 z1 z2 z3 za ze
      replace hgb := Aside0.mk hgb
      clear hbo hba hbe
      simp [Leaves, settle, results, Tryd.results36, go_sem, z0, z1, z2, z3, za, ze]
      show (if i < X.ts.length then _ else _)
      rw [if_pos hlt]
      exact ⟨rfl, hgb.out⟩
    · have t0 : decide ((i : Int) < (X.ts.length : Int)) = false := by simp; omega
      refine Q.q_start (by kernel_rfl) (by kernel_rfl) ?_
      refine Q.q_value (N := some 8) (v := ?_) (a' := ?_) rfl (by rfl) ?_ ?_ ?_
      rotate_left
      · intro w' hb
        clear hb
        go_simp
        with_reducible rfl
      rotate_left
      · simp only [Act.put, List.setIfInBounds_toArray, List.set_cons_zero, List.set_cons_succ, i64_w, i32_w]
        rfl
      refine Q.q_value (N := some 9) (v := ?_) (a' := ?_) rfl (by rfl) ?_ ?_ ?_
      rotate_left
      · intro w' hb
        clear hb
        go_simp
        with_reducible rfl
      rotate_left
      · simp only [Act.put, List.setIfInBounds_toArray, List.set_cons_zero, List.set_cons_succ, i64_w, i32_w]
        rfl
      refine Q.q_value (N := some 10) (v := ?_) (a' := ?_) rfl (by rfl) ?_ ?_ ?_
      rotate_left
      · intro w' hb
        clear hb
        go_simp
        with_reducible rfl
      rotate_left
      · simp only [Act.put, List.setIfInBounds_toArray, List.set_cons_zero, List.set_cons_succ, i64_w, i32_w]
        rfl
      refine Q.q_value (N := some 11) (v := ?_) (a' := ?_) rfl (by rfl) ?_ ?_ ?_
      rotate_left
      · intro w' hb
        have s0 := pw_cell_below hb q1
        clear hb
        go_simp
        with_reducible rfl
      rotate_left
      · simp only [Act.put, List.setIfInBounds_toArray, List.set_cons_zero, List.set_cons_succ, i64_w, i32_w]
        rfl
      refine Q.q_value (N := some 12) (v := ?_) (a' := ?_) rfl (by rfl) ?_ ?_ ?_
      rotate_left
      · intro w' hb
        clear hb
        go_simp
        with_reducible rfl
      rotate_left
      · simp only [Act.put, List.setIfInBounds_toArray, List.set_cons_zero, List.set_cons_succ, i64_w, i32_w]
        rfl
      refine Q.q_value (N := some 13) (v := ?_) (a' := ?_) rfl (by rfl) ?_ ?_ ?_
      rotate_left
      · intro w' hb
        clear hb
        go_simp
        with_reducible rfl
      rotate_left
      · simp only [Act.put, List.setIfInBounds_toArray, List.set_cons_zero, List.set_cons_succ, i64_w, i32_w]
        rfl
      refine Q.q_value (N := some 14) (v := ?_) (a' := ?_) rfl (by rfl) ?_ ?_ ?_
      rotate_left
      · intro w' hb
        clear hb
        go_simp
        with_reducible rfl
      rotate_left
      · simp only [Act.put, List.setIfInBounds_toArray, List.set_cons_zero, List.set_cons_succ, i64_w, i32_w]
        rfl
      refine Q.q_value (N := some 15) (v := ?_) (a' := ?_) rfl (by rfl) ?_ ?_ ?_
      rotate_left
      · intro w' hb
        have s0 := pw_cell_below hb q0
        clear hb
        go_simp
        with_reducible rfl
      rotate_left
      · simp only [Act.put, List.setIfInBounds_toArray, List.set_cons_zero, List.set_cons_succ, i64_w, i32_w]
        rfl
      refine Q.q_value (N := some 16) (v := ?_) (a' := ?_) rfl (by rfl) ?_ ?_ ?_
      rotate_left
      · intro w' hb
        clear hb
        go_simp
        with_reducible rfl
      rotate_left
      · simp only [Act.put, List.setIfInBounds_toArray, List.set_cons_zero, List.set_cons_succ, i64_w, i32_w]
        rfl
      refine Q.q_value (N := some 17) (v := ?_) (a' := ?_) rfl (by rfl) ?_ ?_ ?_
      rotate_left
      · intro w' hb
        clear hb
        go_simp
        with_reducible rfl
      rotate_left
      · simp only [Act.put, List.setIfInBounds_toArray, List.set_cons_zero, List.set_cons_succ, i64_w, i32_w]
        rfl
      refine wpQuiet_nil ?_
      intro w3 HB1
      clear q0 q1
      replace HT := Aside0.mk (HT.out.below HB1)
      have HX2 := Aside0.mk (HX.out.grown (grown_of_below HB1 (some X.pb)) (fun k hk => by have := hk.1; have := HT.out.lo; omega))
      clear HB1 HX
      have o0 := blk_cell HT.out.bo 0
      have o1 := blk_cell HT.out.bo 1
      have o2 := blk_cell HT.out.bo 2
      have o3 := blk_cell HT.out.bo 3
      have f0 := blk_frozen HT.out.bo 0
      have f1 := blk_frozen HT.out.bo 1
      have f2 := blk_frozen HT.out.bo 2
      have f3 := blk_frozen HT.out.bo 3
      simp at o0 o1 o2 o3
      have a0 : w3.cell? ⟨ab, 0, none⟩ = some (.int .i64 0) := blk_cell HT.out.ba 0
      have a1 := blk_frozen HT.out.ba 0
      have e0 : w3.cell? ⟨eb, 0, none⟩ = some (.int .i64 0) := blk_cell HT.out.be 0
      have e1 := blk_frozen HT.out.be 0
      have n1 := HT.out.n1
      have n2 := HT.out.n2
      have n3 := HT.out.n3
      have hE := Aside0.mk (laid3 HT.out.bo HT.out.ba HT.out.be HT.out.gb HT.out.ho HT.out.ha HT.out.he HT.out.n1 HT.out.n2 HT.out.n3 (.int .i64 x.f0) (.int .i64 x.f1) (.string x.f2) (.slice A3 x.f3.length c3) (.int .i64 0) (.int .i64 0))
      have hP := Aside0.mk ((((HT.out.put ⟨_, _, HS0.out⟩ (.int .i64 x.f0) (.int .i64 x.f1) (.string x.f2) (.slice A3 x.f3.length c3)).ps).far HS0.out HT.out.ha 0 (.int .i64 0)).far HS0.out HT.out.he 0 (.int .i64 0))
      have hX := Aside0.mk ((((((HX2.out.far (g := ob) (fun k hk => hk.2.1) 0 (.int .i64 x.f0)).far (g := ob) (fun k hk => hk.2.1) 1 (.int .i64 x.f1)).far (g := ob) (fun k hk => hk.2.1) 2 (.string x.f2)).far (g := ob) (fun k hk => hk.2.1) 3 (.slice A3 x.f3.length c3)).far (g := ab) (fun k hk => hk.2.2.1) 0 (.int .i64 0)).far (g := eb) (fun k hk => hk.2.2.2) 0 (.int .i64 0))
      clear HT HX2 HS0 hfew hle
      go_wp2_with fail
      refine leaves_cons (f := 60) (args := #[.pointer (some ⟨ob, 0, none⟩), .pointer (some ⟨ab, 0, none⟩), .pointer (some ⟨eb, 0, none⟩)]) (by simp) (by simp [go_sem]) ?_
      refine (catch_idle ob ab eb _).mono ?_
      rintro e u' w9 ⟨rfl, rfl, rfl⟩
      clear o0 o1 o2 o3 f0 f1 f2 f3 a0 a1 e0 e1 n1 n2 n3
      obtain ⟨hgb, hbo, hba, hbe⟩ := hE.out
      clear hE
      have z0 := blk_cell hbo 0
      have z1 := blk_cell hbo 1
      have z2 := blk_cell hbo 2
      have z3 := blk_cell hbo 3
      have za := blk_cell hba 0
      have ze := blk_cell hbe 0
      simp at z0 z1 z2 z3 za ze
      replace hgb := Aside0.mk hgb
      clear hbo hba hbe
      simp [Leaves, settle, results, Tryd.results36, go_sem, z0, z1, z2, z3, za, ze]
      show (if i < X.ts.length then _ else _)
      rw [if_neg hlt]
      exact ⟨_, rfl, hX.out.weak (Nat.le_refl _) (fun k h1 _ _ => h1.1), hgb.out, hP.out⟩
end Go.Proofs.YtbbopomecanaoaaDoor.A
namespace Go.Proofs.YtbbopomecanaoaaDoor.A
open Go.RowKit Go.Proofs.YtbbopomecanaoaaDoorW.PrintWords Go.Proofs.YtbbopomecanaoaaDoorW.PrintLast Go.Proofs.YtbbopomecanaoaaDoorW.PrintMore Go.Proofs.YtbbopomecanaoaaDoor.XK
open Go.Proofs.YtbbopomecanaoaaDoor
attribute [local go_sem] max2_int min2_int max_two min_two max_three min_three max_four min_four fld1 fld3
set_option linter.unusedVariables false
set_option linter.unusedSimpArgs false
def byteAt (s : ByteArray) (i : Nat) : Int := ((s.get! i).toNat : Int)
theorem idx_run (s : ByteArray) (i : Nat) (h : i < s.size) (w : World) : (Instr.index 9 (.string s) (.int .i64 (i : Int))).run Tryd.prog w = .ok (.int .u8 (byteAt s i)) w := by
  rw [run_index_string _ _ _ _ _ Tryd.underlying9, dif_pos ⟨by omega, by omega⟩]
  have e : s[i]'h = s.get! i := by
    show s.data[i]'h = s.data[i]!
    rw [getElem!_pos s.data i h]
  simp only [Int.toNat_natCast]
  rw [e]
  rfl
def runN (s : ByteArray) (mem : Int → Bool) : Nat → Nat → Nat
  | 0, i => i
  | k + 1, i => if i < s.size then (if mem (byteAt s i) = true then runN s mem k (i + 1) else i) else i
structure MemF (m : Nat) (mem : Int → Bool) : Prop where
  calls : ∀ c w, Calls Tryd.prog m #[.int .u8 c] w fun e w' => e = .returned (.bool (mem c)) ∧ Below w.heap.size w w'
  enters : ∀ (args : Array Value) (w : World), (callFunc m args).run Tryd.prog w = .ok (.enter m args) w
set_option maxRecDepth 100000 in
set_option maxHeartbeats 3000000 in
theorem run_calls (s : ByteArray) (hs : s.size ≤ 1000) (m : Nat) (mem : Int → Bool) (hm : MemF m mem) (i : Nat) (hi : i ≤ s.size) (w : World) :
    Calls Tryd.prog 78 #[.string s, .int .i64 (i : Int), .func (.func m) #[] #[]] w fun e w' => e = .returned (.int .i64 (runN s mem (s.size - i) i : Nat)) ∧ Below w.heap.size w w' := by
  have HM := Aside0.mk hm
  have hen := hm.enters
  clear hm
  obtain ⟨r, hr⟩ : ∃ r, runN s mem (s.size - i) i = r := ⟨_, rfl⟩
  rw [hr]
  have HR := Aside0.mk hr
  have HI := Aside0.mk hi
  have HB := Aside0.mk (Below.refl w.heap.size w)
  clear hr hi
  go_enter Tryd.func78, Tryd.ntmps78
  go_wp2_with fail
  go_loopg [1] (s.size - i) (fun gk v1 wr => ∃ (j : Nat), v1 = .int .i64 (j : Int) ∧ Aside0 (j ≤ s.size ∧ gk = s.size - j) ∧ Aside0 (runN s mem gk j = r) ∧ Aside0 (Below w.heap.size w wr))
  case atStart => exact ⟨i, rfl, ⟨HI.out, rfl⟩, HR, HB⟩
  case round =>
    clear HR HB HI
    obtain ⟨j, rfl, HJ, HR, HB⟩ := hrel
    obtain ⟨hj1, hj2⟩ := HJ.out
    by_cases hlt : j < s.size
    · have t0 : decide ((j : Int) < (s.size : Int)) = true := by simp; omega
      have hix := idx_run s j hlt
      obtain ⟨gk, rfl⟩ : ∃ g, gk = g + 1 := ⟨gk - 1, by omega⟩
      have hr := HR.out
      rw [runN, if_pos hlt] at hr
      have HC := Aside0.mk (HM.out.calls (byteAt s j) wr)
      clear HR
      generalize byteAt s j = c at *
      generalize mem c = b at *
      go_wp2_with fail
      with_reducible refine HC.out.mono ?_
      rintro e w2 ⟨rfl, HB1⟩
      replace HB := Aside0.mk (below_step HB.out HB1)
      clear HB1 HC hix
      cases b with
      | true =>
        rw [if_pos rfl] at hr
        have HR := Aside0.mk hr
        clear hr
        go_wp2_with fail
        go_roundg gk
        case measure => omega
        case rel => exact ⟨j + 1, by first | rfl | (simp; done), ⟨by omega, by omega⟩, HR, HB⟩
      | false =>
        rw [if_neg (by simp)] at hr
        subst hr
        go_wp2_with fail
        go_ret
        exact ⟨rfl, HB.out⟩
    · obtain rfl : j = s.size := by omega
      have hg0 : gk = 0 := by omega
      subst hg0
      have hr := HR.out
      rw [runN] at hr
      subst hr
      clear HR hj1 hj2 HJ hlt
      go_wp2_with fail
      go_ret
      exact ⟨rfl, HB.out⟩
end Go.Proofs.YtbbopomecanaoaaDoor.A
namespace Go.Proofs.YtbbopomecanaoaaDoor.A
open Go.RowKit Go.Proofs.YtbbopomecanaoaaDoorW.PrintWords Go.Proofs.YtbbopomecanaoaaDoorW.PrintLast Go.Proofs.YtbbopomecanaoaaDoorW.PrintMore Go.Proofs.YtbbopomecanaoaaDoor.XK
open Go.Proofs.YtbbopomecanaoaaDoor
attribute [local go_sem] max2_int min2_int max_two min_two max_three min_three max_four min_four fld1 fld3
set_option linter.unusedVariables false
set_option linter.unusedSimpArgs false
def decV (s : ByteArray) : Int := s.data.toList.foldl (fun a b => a * 10 + ((b.toNat : Int) - 48)) 0
def Digits (s : ByteArray) : Prop := ∀ b ∈ s.data.toList, 48 ≤ b.toNat ∧ b.toNat ≤ 57
structure AtoiF (WW : World → Prop) : Prop where
  calls : ∀ s w, Digits s → 1 ≤ s.size → s.size ≤ 120 → WW w → Calls Tryd.prog 92 #[.string s] w fun e w' => Below w.heap.size w w' ∧ (e = .returned (.tuple #[.int .i64 (decV s), .nilIface]) ∨ (32767 < decV s ∧ ∃ v T p, e = .returned (.tuple #[.int .i64 v, .iface T p])))
  stay : ∀ w w', WW w → Below w.heap.size w w' → WW w'
def numBad (s : ByteArray) : Bool := decide (32767 < decV s) || (decide (1 < s.size) && byteAt s 0 == 48)
def numT (s : ByteArray) (at_ : Int) : Tk := if numBad s = true then ⟨0, 0, 0, ⟨#[]⟩⟩ else ⟨2, at_, decV s, s⟩
def numE (s : ByteArray) : Int := if numBad s = true then 2 else 0
abbrev zT : Array Value := #[.int .i64 0, .int .i64 0, .int .i64 0, .string (⟨#[]⟩ : ByteArray)]
theorem tok_laid {w0 w : World} {ob : Nat} {p0 p1 p2 p3 : Value} (hb : Below w0.heap.size w0 w) (h : w.heap[ob]? = some (.cells #[p0, p1, p2, p3] 88 (0, 0))) (ho : w0.heap.size ≤ ob) (a b c d : Value) :
    Below w0.heap.size w0 (put4 w ob a b c d) ∧ (put4 w ob a b c d).heap[ob]? = some (.cells #[a, b, c, d] 88 (0, 0)) :=
  ⟨below_set (j := 3) (v := d) (below_set (j := 2) (v := c) (below_set (j := 1) (v := b) (below_set (j := 0) (v := a) hb ho) ho) ho) ho, put4_blk h a b c d⟩
set_option maxRecDepth 100000 in
set_option maxHeartbeats 3000000 in
theorem numeral_calls {WW : World → Prop} (AT : AtoiF WW) (s : ByteArray) (at_ : Int) (h1 : 1 ≤ s.size) (h2 : s.size ≤ 120) (hd : Digits s) (w : World) (hw : WW w) :
    Calls Tryd.prog 81 #[.string s, .int .i64 at_] w fun e w' => e = .returned (.tuple #[tokV (numT s at_), .int .i64 (numE s)]) ∧ Below w.heap.size w w' := by
  have hA := below_alloc (Below.refl w.heap.size w) (.cells zT 88)
  have HC := Aside0.mk (AT.calls s _ hd h1 h2 (AT.stay _ _ hw hA))
  have HB := Aside0.mk hA
  have HO := Aside0.mk (heap_alloc_new w (.cells zT 88))
  have hix : ∀ w : World, (Instr.index 9 (.string s) (.int .i64 0)).run Tryd.prog w = .ok (.int .u8 (byteAt s 0)) w := idx_run s 0 (by omega)
  clear hd hw AT hA
  go_enter Tryd.func81, Tryd.ntmps81
  go_wp2_with fail
  generalize w.alloc (.cells zT 88) = W1 at *
  have hob1 : w.heap.size ≤ w.heap.size := Nat.le_refl _
  obtain ⟨ob, hob⟩ : ∃ ob, w.heap.size = ob := ⟨_, rfl⟩
  replace hob1 : w.heap.size ≤ ob := by omega
  rw [hob] at HO ⊢
  clear hob
  with_reducible refine HC.out.mono ?_
  clear HC
  rintro e w2 ⟨HB1, he⟩
  replace HO := Aside0.mk (blk_below HO.out HB1)
  replace HB := Aside0.mk (below_step HB.out HB1)
  clear HB1
  rcases he with rfl | ⟨hbig, v, T, p, rfl⟩
  · by_cases hbig : 32767 < decV s
    · have hbad : numBad s = true := by unfold numBad; simp; omega
      have hT := Aside0.mk (show numT s at_ = ⟨0, 0, 0, ⟨#[]⟩⟩ from if_pos hbad); have hE := Aside0.mk (show numE s = 2 from if_pos hbad)
      clear hbad
      have b0 : decide (32767 < decV s) = true := by simpa using hbig
      generalize decV s = n at *
      have HZ := Aside0.mk (tok_laid HB.out HO.out hob1 (.int .i64 0) (.int .i64 0) (.int .i64 0) (.string (⟨#[]⟩ : ByteArray)))
      have o0 := blk_cell HO.out 0
      have o1 := blk_cell HO.out 1
      have o2 := blk_cell HO.out 2
      have o3 := blk_cell HO.out 3
      have f0 := blk_frozen HO.out 0
      have f1 := blk_frozen HO.out 1
      have f2 := blk_frozen HO.out 2
      have f3 := blk_frozen HO.out 3
      simp at o0 o1 o2 o3
      go_wp2_with fail
      refine bodyPost_ret (v := .tuple #[.agg #[.int .i64 0, .int .i64 0, .int .i64 0, .string (⟨#[]⟩ : ByteArray)], .int .i64 2]) ?_ rfl ⟨by rw [hT.out, hE.out], HZ.out.1⟩
      clear o0 o1 o2 o3 f0 f1 f2 f3
      have o0 := blk_cell HZ.out.2 0
      have o1 := blk_cell HZ.out.2 1
      have o2 := blk_cell HZ.out.2 2
      have o3 := blk_cell HZ.out.2 3
      simp at o0 o1 o2 o3
      simp [results, Tryd.results81, go_sem, o0, o1, o2, o3]
    · have b0 : decide (32767 < decV s) = false := by simpa using hbig
      by_cases hl : 1 < s.size
      · have b1 : decide ((1 : Int) < (s.size : Int)) = true := by simp; omega
        by_cases hz : byteAt s 0 = 48
        · have hbad : numBad s = true := by unfold numBad; simp [hl, hz]
          have hT := Aside0.mk (show numT s at_ = ⟨0, 0, 0, ⟨#[]⟩⟩ from if_pos hbad); have hE := Aside0.mk (show numE s = 2 from if_pos hbad)
          clear hbad
          have b2 : (byteAt s 0 == 48) = true := by simpa using hz
          clear hz hl hbig
          generalize byteAt s 0 = c at *
          generalize decV s = n at *
          have HZ := Aside0.mk (tok_laid HB.out HO.out hob1 (.int .i64 0) (.int .i64 0) (.int .i64 0) (.string (⟨#[]⟩ : ByteArray)))
          have o0 := blk_cell HO.out 0
          have o1 := blk_cell HO.out 1
          have o2 := blk_cell HO.out 2
          have o3 := blk_cell HO.out 3
          have f0 := blk_frozen HO.out 0
          have f1 := blk_frozen HO.out 1
          have f2 := blk_frozen HO.out 2
          have f3 := blk_frozen HO.out 3
          simp at o0 o1 o2 o3
          go_wp2_with fail
          refine bodyPost_ret (v := .tuple #[.agg #[.int .i64 0, .int .i64 0, .int .i64 0, .string (⟨#[]⟩ : ByteArray)], .int .i64 2]) ?_ rfl ⟨by rw [hT.out, hE.out], HZ.out.1⟩
          clear o0 o1 o2 o3 f0 f1 f2 f3
          have o0 := blk_cell HZ.out.2 0
          have o1 := blk_cell HZ.out.2 1
          have o2 := blk_cell HZ.out.2 2
          have o3 := blk_cell HZ.out.2 3
          simp at o0 o1 o2 o3
          simp [results, Tryd.results81, go_sem, o0, o1, o2, o3]
        · have hbad : ¬ numBad s = true := by unfold numBad; simp [hz]; omega
          have hT := Aside0.mk (show numT s at_ = ⟨2, at_, decV s, s⟩ from if_neg hbad); have hE := Aside0.mk (show numE s = 0 from if_neg hbad)
          clear hbad
          have b2 : (byteAt s 0 == 48) = false := by simpa using hz
          clear hz hl hbig
          generalize byteAt s 0 = c at *
          generalize decV s = n at *
          have HZ := Aside0.mk (tok_laid HB.out HO.out hob1 (.int .i64 2) (.int .i64 at_) (.int .i64 n) (.string s))
          have o0 := blk_cell HO.out 0
          have o1 := blk_cell HO.out 1
          have o2 := blk_cell HO.out 2
          have o3 := blk_cell HO.out 3
          have f0 := blk_frozen HO.out 0
          have f1 := blk_frozen HO.out 1
          have f2 := blk_frozen HO.out 2
          have f3 := blk_frozen HO.out 3
          simp at o0 o1 o2 o3
          go_wp2_with fail
          refine bodyPost_ret (v := .tuple #[.agg #[.int .i64 2, .int .i64 at_, .int .i64 n, .string s], .int .i64 0]) ?_ rfl ⟨by rw [hT.out, hE.out], HZ.out.1⟩
          clear o0 o1 o2 o3 f0 f1 f2 f3
          have o0 := blk_cell HZ.out.2 0
          have o1 := blk_cell HZ.out.2 1
          have o2 := blk_cell HZ.out.2 2
          have o3 := blk_cell HZ.out.2 3
          simp at o0 o1 o2 o3
          simp [results, Tryd.results81, go_sem, o0, o1, o2, o3]
      · have b1 : decide ((1 : Int) < (s.size : Int)) = false := by simp; omega
        have hbad : ¬ numBad s = true := by unfold numBad; simp; omega
        have hT := Aside0.mk (show numT s at_ = ⟨2, at_, decV s, s⟩ from if_neg hbad); have hE := Aside0.mk (show numE s = 0 from if_neg hbad)
        clear hbad hl hbig hix
        generalize decV s = n at *
        have HZ := Aside0.mk (tok_laid HB.out HO.out hob1 (.int .i64 2) (.int .i64 at_) (.int .i64 n) (.string s))
        have o0 := blk_cell HO.out 0
        have o1 := blk_cell HO.out 1
        have o2 := blk_cell HO.out 2
        have o3 := blk_cell HO.out 3
        have f0 := blk_frozen HO.out 0
        have f1 := blk_frozen HO.out 1
        have f2 := blk_frozen HO.out 2
        have f3 := blk_frozen HO.out 3
        simp at o0 o1 o2 o3
        go_wp2_with fail
        refine bodyPost_ret (v := .tuple #[.agg #[.int .i64 2, .int .i64 at_, .int .i64 n, .string s], .int .i64 0]) ?_ rfl ⟨by rw [hT.out, hE.out], HZ.out.1⟩
        clear o0 o1 o2 o3 f0 f1 f2 f3
        have o0 := blk_cell HZ.out.2 0
        have o1 := blk_cell HZ.out.2 1
        have o2 := blk_cell HZ.out.2 2
        have o3 := blk_cell HZ.out.2 3
        simp at o0 o1 o2 o3
        simp [results, Tryd.results81, go_sem, o0, o1, o2, o3]
  · have hbad : numBad s = true := by unfold numBad; simp; omega
    have hT := Aside0.mk (show numT s at_ = ⟨0, 0, 0, ⟨#[]⟩⟩ from if_pos hbad); have hE := Aside0.mk (show numE s = 2 from if_pos hbad)
    clear hbad hbig hix
    have HZ := Aside0.mk (tok_laid HB.out HO.out hob1 (.int .i64 0) (.int .i64 0) (.int .i64 0) (.string (⟨#[]⟩ : ByteArray)))
    have o0 := blk_cell HO.out 0
    have o1 := blk_cell HO.out 1
    have o2 := blk_cell HO.out 2
    have o3 := blk_cell HO.out 3
    have f0 := blk_frozen HO.out 0
    have f1 := blk_frozen HO.out 1
    have f2 := blk_frozen HO.out 2
    have f3 := blk_frozen HO.out 3
    simp at o0 o1 o2 o3
    go_wp2_with fail
    refine bodyPost_ret (v := .tuple #[.agg #[.int .i64 0, .int .i64 0, .int .i64 0, .string (⟨#[]⟩ : ByteArray)], .int .i64 2]) ?_ rfl ⟨by rw [hT.out, hE.out], HZ.out.1⟩
    clear o0 o1 o2 o3 f0 f1 f2 f3
    have o0 := blk_cell HZ.out.2 0
    have o1 := blk_cell HZ.out.2 1
    have o2 := blk_cell HZ.out.2 2
    have o3 := blk_cell HZ.out.2 3
    simp at o0 o1 o2 o3
    simp [results, Tryd.results81, go_sem, o0, o1, o2, o3]
end Go.Proofs.YtbbopomecanaoaaDoor.A
namespace Go.Proofs.YtbbopomecanaoaaDoor.A
open Go.RowKit Go.Proofs.YtbbopomecanaoaaDoorW.PrintWords Go.Proofs.YtbbopomecanaoaaDoorW.PrintLast Go.Proofs.YtbbopomecanaoaaDoorW.PrintMore Go.Proofs.YtbbopomecanaoaaDoor.XK
open Go.Proofs.YtbbopomecanaoaaDoor
attribute [local go_sem] max2_int min2_int max_two min_two max_three min_three max_four min_four fld1 fld3
set_option linter.unusedVariables false
set_option linter.unusedSimpArgs false
theorem ext_mem (s : ByteArray) (a b : Nat) (x : UInt8) (h : x ∈ (s.extract a b).data.toList) : ∃ j, a ≤ j ∧ j < b ∧ j < s.size ∧ s.get! j = x := by
  rw [ByteArray.data_extract, Array.toList_extract, List.extract_eq_take_drop, List.mem_iff_getElem] at h
  obtain ⟨n, hn, rfl⟩ := h
  rw [List.length_take, List.length_drop] at hn
  have hl : s.data.toList.length = s.size := rfl
  refine ⟨a + n, by omega, by omega, by omega, ?_⟩
  rw [List.getElem_take, List.getElem_drop]
  show s.data[a + n]! = _
  rw [getElem!_pos s.data (a + n) (by show _ < s.size; omega)]
  rfl
theorem slc_run (s : ByteArray) (i j : Nat) (h : i ≤ j) (h2 : j ≤ s.size) (w : World) : (Instr.slice 9 (.string s) (some (.int .i64 (i : Int))) (some (.int .i64 (j : Int))) none).run Tryd.prog w = .ok (.string (s.extract i j)) w := by
  rw [run_slice_string_if _ _ _ _ _ _ _ Tryd.underlying9, if_pos ⟨by omega, by omega⟩, if_pos ⟨by omega, by omega⟩]
  rfl
theorem runN_ge (s : ByteArray) (mem : Int → Bool) : ∀ (k i : Nat), i ≤ runN s mem k i
  | 0, i => Nat.le_refl _
  | k + 1, i => by
    rw [runN]
    split
    · split
      · exact Nat.le_trans (Nat.le_succ i) (runN_ge s mem k (i + 1))
      · exact Nat.le_refl _
    · exact Nat.le_refl _
theorem runN_le (s : ByteArray) (mem : Int → Bool) : ∀ (k i : Nat), i ≤ s.size → runN s mem k i ≤ s.size
  | 0, i, h => h
  | k + 1, i, h => by
    rw [runN]
    split
    · split
      · exact runN_le s mem k (i + 1) (by omega)
      · exact h
    · exact h
theorem runN_all (s : ByteArray) (mem : Int → Bool) : ∀ (k i j : Nat), i ≤ j → j < runN s mem k i → mem (byteAt s j) = true
  | 0, i, j, h1, h2 => by rw [runN] at h2; omega
  | k + 1, i, j, h1, h2 => by
    rw [runN] at h2
    split at h2
    · split at h2
      · rename_i hm
        by_cases e : i = j
        · rw [← e]; exact hm
        · exact runN_all s mem k (i + 1) j (by omega) h2
      · omega
    · omega
theorem runN_lt (s : ByteArray) (mem : Int → Bool) {k i : Nat} (h : i < s.size) (hm : mem (byteAt s i) = true) (hk : 0 < k) : i < runN s mem k i := by
  obtain ⟨k, rfl⟩ : ∃ m, k = m + 1 := ⟨k - 1, by omega⟩
  rw [runN, if_pos h, if_pos hm]
  exact runN_ge s mem k (i + 1)
def letterB (c : Int) : Bool := decide ((97 ≤ c ∧ c ≤ 122) ∨ (65 ≤ c ∧ c ≤ 90))
def digitB (c : Int) : Bool := decide (48 ≤ c ∧ c ≤ 57)
def wordB (c : Int) : Bool := letterB c || digitB c || c == 95
def symB (c : Int) : Bool := c == 40 || c == 41 || c == 44 || c == 60 || c == 62 || c == 61 || c == 43 || c == 45
theorem letter_f (c : Int) : equation_letter.f c = some (letterB c) := by
  unfold equation_letter.f letterB
  repeat' split
  all_goals first | exact congrArg some (decide_eq_true (by omega)).symm | exact congrArg some (decide_eq_false (by omega)).symm | exact congrArg some (decide_eq_decide.2 (by omega))
theorem digit_f (c : Int) : equation_digit.f c = some (digitB c) := by
  unfold equation_digit.f digitB
  repeat' split
  all_goals first | exact congrArg some (decide_eq_true (by omega)).symm | exact congrArg some (decide_eq_false (by omega)).symm | exact congrArg some (decide_eq_decide.2 (by omega))
theorem digit_memF : MemF 80 digitB := ⟨fun c w => (equation_digit.calls c _ w (digit_f c)).mono (by rintro e w' ⟨rfl, h⟩; exact ⟨rfl, h.below⟩), eOf 80 Tryd.func80 (by kernel_rfl) rfl⟩
set_option maxRecDepth 100000 in
set_option maxHeartbeats 1000000 in
theorem word_memF : MemF 79 wordB := ⟨fun c w => by
  have H1 := Aside0.mk (equation_letter.calls c _ w (letter_f c))
  have e : wordB c = (letterB c || digitB c || c == 95) := rfl
  rw [e]
  clear e
  have HD := digit_f c
  generalize letterB c = b1 at *
  generalize digitB c = b2 at *
  go_enter Tryd.func79, Tryd.ntmps79
  cases b1 with
  | true =>
    clear HD
    go_wp2_with fail
    with_reducible refine H1.out.mono ?_
    rintro e w1 ⟨rfl, HB1⟩
    replace HB1 := Aside0.mk HB1.below
    go_wp2_with fail
    go_ret
    exact ⟨rfl, HB1.out⟩
  | false =>
    go_wp2_with fail
    with_reducible refine H1.out.mono ?_
    rintro e w1 ⟨rfl, HB1⟩
    replace HB1 := Aside0.mk HB1.below
    have H2 := Aside0.mk (equation_digit.calls c _ w1 HD)
    clear HD H1
    go_wp2_with fail
    with_reducible refine H2.out.mono ?_
    rintro e w2 ⟨rfl, HB2⟩
    replace HB1 := Aside0.mk (below_step HB1.out HB2.below)
    clear HB2 H2
    cases b2 with
    | true =>
      go_wp2_with fail
      go_ret
      exact ⟨rfl, HB1.out⟩
    | false =>
      go_wp2_with fail
      go_ret
      exact ⟨rfl, HB1.out⟩, eOf 79 Tryd.func79 (by kernel_rfl) rfl⟩
end Go.Proofs.YtbbopomecanaoaaDoor.A
namespace Go.Proofs.YtbbopomecanaoaaDoor.A
open Go.RowKit Go.Proofs.YtbbopomecanaoaaDoorW.PrintWords Go.Proofs.YtbbopomecanaoaaDoorW.PrintLast Go.Proofs.YtbbopomecanaoaaDoorW.PrintMore Go.Proofs.YtbbopomecanaoaaDoor.XK
open Go.Proofs.YtbbopomecanaoaaDoor
attribute [local go_sem] max2_int min2_int max_two min_two max_three min_three max_four min_four fld1 fld3
set_option linter.unusedVariables false
set_option linter.unusedSimpArgs false
def nextP (s : ByteArray) (i : Nat) : Tk × Nat × Int :=
  if letterB (byteAt s i) = true then
    (if 12 < runN s wordB (s.size - i) i - i then (⟨0, 0, 0, ⟨#[]⟩⟩, 0, 7) else (⟨1, i, 0, s.extract i (runN s wordB (s.size - i) i)⟩, runN s wordB (s.size - i) i, 0))
  else if digitB (byteAt s i) = true then (numT (s.extract i (runN s digitB (s.size - i) i)) i, runN s digitB (s.size - i) i, numE (s.extract i (runN s digitB (s.size - i) i)))
  else if symB (byteAt s i) = true then (⟨3, i, 0, s.extract i (i + 1)⟩, i + 1, 0)
  else (⟨0, 0, 0, ⟨#[]⟩⟩, 0, 5)
theorem digits_run (s : ByteArray) (i k : Nat) : Digits (s.extract i (runN s digitB k i)) := by
  intro b hb
  obtain ⟨j, h1, h2, h3, rfl⟩ := ext_mem s _ _ b hb
  have := runN_all s digitB k i j h1 h2
  unfold digitB byteAt at this
  simp at this
  omega
set_option maxRecDepth 100000 in
set_option maxHeartbeats 4000000 in
theorem next_calls {WW : World → Prop} (AT : AtoiF WW) (s : ByteArray) (hs : s.size ≤ 120) (i : Nat) (hi : i < s.size) (w : World) (hw : WW w) :
    Calls Tryd.prog 59 #[.string s, .int .i64 (i : Int)] w fun e w' => e = .returned (.tuple #[tokV (nextP s i).1, .int .i64 ((nextP s i).2.1 : Nat), .int .i64 (nextP s i).2.2]) ∧ Below w.heap.size w w' := by
  have hA := below_alloc (Below.refl w.heap.size w) (.cells zT 88)
  have HW := Aside0.mk (AT.stay _ _ hw hA)
  have HAT := Aside0.mk AT
  have HB := Aside0.mk hA
  have HO := Aside0.mk (heap_alloc_new w (.cells zT 88))
  have hix := idx_run s i hi
  clear hw AT hA
  have hP : ∀ x, nextP s i = x → Aside0 (nextP s i = x) := fun x h => ⟨h⟩
  have HL := Aside0.mk (equation_letter.calls (byteAt s i) _ (w.alloc (.cells zT 88)) (letter_f _))
  go_enter Tryd.func59, Tryd.ntmps59
  go_wp2_with fail
  generalize w.alloc (.cells zT 88) = W1 at *
  have hob1 : w.heap.size ≤ w.heap.size := Nat.le_refl _
  obtain ⟨ob, hob⟩ : ∃ ob, w.heap.size = ob := ⟨_, rfl⟩
  replace hob1 : w.heap.size ≤ ob := by omega
  rw [hob] at HO ⊢
  clear hob hix
  with_reducible refine HL.out.mono ?_
  clear HL
  rintro e w2 ⟨rfl, HD⟩
  replace HO := Aside0.mk (blk_below HO.out HD.below)
  replace HB := Aside0.mk (below_step HB.out HD.below)
  replace HW := Aside0.mk (HAT.out.stay _ _ HW.out HD.below)
  clear HD
  by_cases hl : letterB (byteAt s i) = true
  · have hge := runN_ge s wordB (s.size - i) i
    have hle := runN_le s wordB (s.size - i) i (by omega)
    have HR := Aside0.mk (run_calls s (by omega) 79 wordB word_memF i (by omega) w2)
    have e0 := hP _ (by unfold nextP; rw [if_pos hl])
    clear hP
    rw [hl]
    clear hl
    generalize runN s wordB (s.size - i) i = n at *
    go_wp2_with fail
    with_reducible refine HR.out.mono ?_
    clear HR
    rintro e w3 ⟨rfl, HB1⟩
    replace HO := Aside0.mk (blk_below HO.out HB1)
    replace HB := Aside0.mk (below_step HB.out HB1)
    clear HB1
    by_cases hn : 12 < n - i
    · have b0 : decide ((12 : Int) < (n : Int) - (i : Int)) = true := by simp; omega
      have hT := Aside0.mk (e0.out.trans (if_pos hn))
      clear hn e0
      have HZ := Aside0.mk (tok_laid HB.out HO.out hob1 (.int .i64 0) (.int .i64 0) (.int .i64 0) (.string (⟨#[]⟩ : ByteArray)))
      have o0 := blk_cell HO.out 0
      have o1 := blk_cell HO.out 1
      have o2 := blk_cell HO.out 2
      have o3 := blk_cell HO.out 3
      have f0 := blk_frozen HO.out 0
      have f1 := blk_frozen HO.out 1
      have f2 := blk_frozen HO.out 2
      have f3 := blk_frozen HO.out 3
      simp at o0 o1 o2 o3
      go_wp2_with fail
      refine bodyPost_ret (v := .tuple #[.agg #[.int .i64 0, .int .i64 0, .int .i64 0, .string (⟨#[]⟩ : ByteArray)], .int .i64 0, .int .i64 7]) ?_ rfl ⟨by rw [hT.out] <;> rfl, HZ.out.1⟩
      clear o0 o1 o2 o3 f0 f1 f2 f3
      have o0 := blk_cell HZ.out.2 0
      have o1 := blk_cell HZ.out.2 1
      have o2 := blk_cell HZ.out.2 2
      have o3 := blk_cell HZ.out.2 3
      simp at o0 o1 o2 o3
      simp [results, Tryd.results59, go_sem, o0, o1, o2, o3]
    · have b0 : decide ((12 : Int) < (n : Int) - (i : Int)) = false := by simp; omega
      have hT := Aside0.mk (e0.out.trans (if_neg hn))
      have hsl := slc_run s i n hge hle
      clear hn e0
      generalize s.extract i n = tx at *
      have HZ := Aside0.mk (tok_laid HB.out HO.out hob1 (.int .i64 1) (.int .i64 (i : Int)) (.int .i64 0) (.string tx))
      have o0 := blk_cell HO.out 0
      have o1 := blk_cell HO.out 1
      have o2 := blk_cell HO.out 2
      have o3 := blk_cell HO.out 3
      have f0 := blk_frozen HO.out 0
      have f1 := blk_frozen HO.out 1
      have f2 := blk_frozen HO.out 2
      have f3 := blk_frozen HO.out 3
      simp at o0 o1 o2 o3
      go_wp2_with fail
      refine bodyPost_ret (v := .tuple #[.agg #[.int .i64 1, .int .i64 (i : Int), .int .i64 0, .string tx], .int .i64 (n : Int), .int .i64 0]) ?_ rfl ⟨by rw [hT.out] <;> rfl, HZ.out.1⟩
      clear o0 o1 o2 o3 f0 f1 f2 f3
      have o0 := blk_cell HZ.out.2 0
      have o1 := blk_cell HZ.out.2 1
      have o2 := blk_cell HZ.out.2 2
      have o3 := blk_cell HZ.out.2 3
      simp at o0 o1 o2 o3
      simp [results, Tryd.results59, go_sem, o0, o1, o2, o3]
  · have e0 := hP _ (by unfold nextP; rw [if_neg hl])
    replace hl : letterB (byteAt s i) = false := by simpa using hl
    rw [hl]
    clear hP hl
    have HG := Aside0.mk (equation_digit.calls (byteAt s i) _ w2 (digit_f _))
    go_wp2_with fail
    with_reducible refine HG.out.mono ?_
    clear HG
    rintro e w3 ⟨rfl, HD⟩
    replace HO := Aside0.mk (blk_below HO.out HD.below)
    replace HB := Aside0.mk (below_step HB.out HD.below)
    replace HW := Aside0.mk (HAT.out.stay _ _ HW.out HD.below)
    clear HD
    by_cases hl : digitB (byteAt s i) = true
    · have hge := runN_lt s digitB hi hl (k := s.size - i) (by omega)
      have hle := runN_le s digitB (s.size - i) i (by omega)
      have hdg := digits_run s i (s.size - i)
      have HR := Aside0.mk (run_calls s (by omega) 80 digitB digit_memF i (by omega) w3)
      replace e0 := Aside0.mk (e0.out.trans (if_pos hl))
      rw [hl]
      clear hl
      generalize runN s digitB (s.size - i) i = n at *
      go_wp2_with fail
      with_reducible refine HR.out.mono ?_
      clear HR
      rintro e w4 ⟨rfl, HB1⟩
      replace HO := Aside0.mk (blk_below HO.out HB1)
      replace HB := Aside0.mk (below_step HB.out HB1)
      replace HW := Aside0.mk (HAT.out.stay _ _ HW.out HB1)
      clear HB1
      have hsl := slc_run s i n (by omega) hle
      have hsz : (s.extract i n).size = n - i := by rw [ByteArray.size_extract]; omega
      have HN := Aside0.mk (numeral_calls HAT.out (s.extract i n) (i : Int) (by omega) (by omega) hdg w4 HW.out)
      have hT := e0
      clear e0 hdg hsz
      generalize s.extract i n = tx at *
      generalize numT tx (i : Int) = t at *
      generalize numE tx = er at *
      obtain ⟨t0, t1, t2, t3⟩ := t
      go_wp2_with fail
      with_reducible refine HN.out.mono ?_
      clear HN
      rintro e w5 ⟨rfl, HB1⟩
      replace HO := Aside0.mk (blk_below HO.out HB1)
      replace HB := Aside0.mk (below_step HB.out HB1)
      clear HB1 HW HAT hsl
      have hA := below_alloc (Below.refl w5.heap.size w5) (.cells #[.int .i64 t0, .int .i64 t1, .int .i64 t2, .string t3] 88)
      have BT := heap_alloc_new w5 (.cells #[.int .i64 t0, .int .i64 t1, .int .i64 t2, .string t3] 88)
      replace HO := Aside0.mk (blk_below HO.out hA)
      replace HB := Aside0.mk (below_step HB.out hA)
      have z0 := blk_cell BT 0
      have z1 := blk_cell BT 1
      have z2 := blk_cell BT 2
      have z3 := blk_cell BT 3
      clear hA BT
      simp at z0 z1 z2 z3
      have HZ := Aside0.mk (tok_laid HB.out HO.out hob1 (.int .i64 t0) (.int .i64 t1) (.int .i64 t2) (.string t3))
      have o0 := blk_cell HO.out 0
      have o1 := blk_cell HO.out 1
      have o2 := blk_cell HO.out 2
      have o3 := blk_cell HO.out 3
      have f0 := blk_frozen HO.out 0
      have f1 := blk_frozen HO.out 1
      have f2 := blk_frozen HO.out 2
      have f3 := blk_frozen HO.out 3
      simp at o0 o1 o2 o3
      go_wp2_with fail
      refine bodyPost_ret (v := .tuple #[.agg #[.int .i64 t0, .int .i64 t1, .int .i64 t2, .string t3], .int .i64 (n : Int), .int .i64 er]) ?_ rfl ⟨by rw [hT.out] <;> rfl, HZ.out.1⟩
      clear o0 o1 o2 o3 f0 f1 f2 f3
      have o0 := blk_cell HZ.out.2 0
      have o1 := blk_cell HZ.out.2 1
      have o2 := blk_cell HZ.out.2 2
      have o3 := blk_cell HZ.out.2 3
      simp at o0 o1 o2 o3
      simp [results, Tryd.results59, go_sem, o0, o1, o2, o3]
    · replace e0 := Aside0.mk (e0.out.trans (if_neg hl))
      replace hl : digitB (byteAt s i) = false := by simpa using hl
      rw [hl]
      clear hl HW HAT
      by_cases hy : symB (byteAt s i) = true
      · have hT := Aside0.mk (e0.out.trans (if_pos hy))
        clear e0
        have hsl := slc_run s i (i + 1) (by omega) (by omega)
        rw [show ((i + 1 : Nat) : Int) = (i : Int) + 1 by omega] at hsl
        generalize s.extract i (i + 1) = tx at *
        unfold symB at hy
        simp only [Bool.or_eq_true, beq_iff_eq] at hy
        generalize byteAt s i = c at *
        rcases hy with ((((((hy | hy) | hy) | hy) | hy) | hy) | hy) | hy
        · subst hy
          have HZ := Aside0.mk (tok_laid HB.out HO.out hob1 (.int .i64 3) (.int .i64 (i : Int)) (.int .i64 0) (.string tx))
          have o0 := blk_cell HO.out 0
          have o1 := blk_cell HO.out 1
          have o2 := blk_cell HO.out 2
          have o3 := blk_cell HO.out 3
          have f0 := blk_frozen HO.out 0
          have f1 := blk_frozen HO.out 1
          have f2 := blk_frozen HO.out 2
          have f3 := blk_frozen HO.out 3
          simp at o0 o1 o2 o3
          go_wp2_with fail
          refine bodyPost_ret (v := .tuple #[.agg #[.int .i64 3, .int .i64 (i : Int), .int .i64 0, .string tx], .int .i64 ((i : Int) + 1), .int .i64 0]) ?_ rfl ⟨by rw [hT.out] <;> rfl, HZ.out.1⟩
          clear o0 o1 o2 o3 f0 f1 f2 f3
          have o0 := blk_cell HZ.out.2 0
          have o1 := blk_cell HZ.out.2 1
          have o2 := blk_cell HZ.out.2 2
          have o3 := blk_cell HZ.out.2 3
          simp at o0 o1 o2 o3
          simp [results, Tryd.results59, go_sem, o0, o1, o2, o3]
        · subst hy
          have HZ := Aside0.mk (tok_laid HB.out HO.out hob1 (.int .i64 3) (.int .i64 (i : Int)) (.int .i64 0) (.string tx))
          have o0 := blk_cell HO.out 0
          have o1 := blk_cell HO.out 1
          have o2 := blk_cell HO.out 2
          have o3 := blk_cell HO.out 3
          have f0 := blk_frozen HO.out 0
          have f1 := blk_frozen HO.out 1
          have f2 := blk_frozen HO.out 2
          have f3 := blk_frozen HO.out 3
          simp at o0 o1 o2 o3
          go_wp2_with fail
          refine bodyPost_ret (v := .tuple #[.agg #[.int .i64 3, .int .i64 (i : Int), .int .i64 0, .string tx], .int .i64 ((i : Int) + 1), .int .i64 0]) ?_ rfl ⟨by rw [hT.out] <;> rfl, HZ.out.1⟩
          clear o0 o1 o2 o3 f0 f1 f2 f3
          have o0 := blk_cell HZ.out.2 0
          have o1 := blk_cell HZ.out.2 1
          have o2 := blk_cell HZ.out.2 2
          have o3 := blk_cell HZ.out.2 3
          simp at o0 o1 o2 o3
          simp [results, Tryd.results59, go_sem, o0, o1, o2, o3]
        · subst hy
          have HZ := Aside0.mk (tok_laid HB.out HO.out hob1 (.int .i64 3) (.int .i64 (i : Int)) (.int .i64 0) (.string tx))
          have o0 := blk_cell HO.out 0
          have o1 := blk_cell HO.out 1
          have o2 := blk_cell HO.out 2
          have o3 := blk_cell HO.out 3
          have f0 := blk_frozen HO.out 0
          have f1 := blk_frozen HO.out 1
          have f2 := blk_frozen HO.out 2
          have f3 := blk_frozen HO.out 3
          simp at o0 o1 o2 o3
          go_wp2_with fail
          refine bodyPost_ret (v := .tuple #[.agg #[.int .i64 3, .int .i64 (i : Int), .int .i64 0, .string tx], .int .i64 ((i : Int) + 1), .int .i64 0]) ?_ rfl ⟨by rw [hT.out] <;> rfl, HZ.out.1⟩
          clear o0 o1 o2 o3 f0 f1 f2 f3
          have o0 := blk_cell HZ.out.2 0
          have o1 := blk_cell HZ.out.2 1
          have o2 := blk_cell HZ.out.2 2
          have o3 := blk_cell HZ.out.2 3
          simp at o0 o1 o2 o3
          simp [results, Tryd.results59, go_sem, o0, o1, o2, o3]
        · subst hy
          have HZ := Aside0.mk (tok_laid HB.out HO.out hob1 (.int .i64 3) (.int .i64 (i : Int)) (.int .i64 0) (.string tx))
          have o0 := blk_cell HO.out 0
          have o1 := blk_cell HO.out 1
          have o2 := blk_cell HO.out 2
          have o3 := blk_cell HO.out 3
          have f0 := blk_frozen HO.out 0
          have f1 := blk_frozen HO.out 1
          have f2 := blk_frozen HO.out 2
          have f3 := blk_frozen HO.out 3
          simp at o0 o1 o2 o3
          go_wp2_with fail
          refine bodyPost_ret (v := .tuple #[.agg #[.int .i64 3, .int .i64 (i : Int), .int .i64 0, .string tx], .int .i64 ((i : Int) + 1), .int .i64 0]) ?_ rfl ⟨by rw [hT.out] <;> rfl, HZ.out.1⟩
          clear o0 o1 o2 o3 f0 f1 f2 f3
          have o0 := blk_cell HZ.out.2 0
          have o1 := blk_cell HZ.out.2 1
          have o2 := blk_cell HZ.out.2 2
          have o3 := blk_cell HZ.out.2 3
          simp at o0 o1 o2 o3
          simp [results, Tryd.results59, go_sem, o0, o1, o2, o3]
        · subst hy
          have HZ := Aside0.mk (tok_laid HB.out HO.out hob1 (.int .i64 3) (.int .i64 (i : Int)) (.int .i64 0) (.string tx))
          have o0 := blk_cell HO.out 0
          have o1 := blk_cell HO.out 1
          have o2 := blk_cell HO.out 2
          have o3 := blk_cell HO.out 3
          have f0 := blk_frozen HO.out 0
          have f1 := blk_frozen HO.out 1
          have f2 := blk_frozen HO.out 2
          have f3 := blk_frozen HO.out 3
          simp at o0 o1 o2 o3
          go_wp2_with fail
          refine bodyPost_ret (v := .tuple #[.agg #[.int .i64 3, .int .i64 (i : Int), .int .i64 0, .string tx], .int .i64 ((i : Int) + 1), .int .i64 0]) ?_ rfl ⟨by rw [hT.out] <;> rfl, HZ.out.1⟩
          clear o0 o1 o2 o3 f0 f1 f2 f3
          have o0 := blk_cell HZ.out.2 0
          have o1 := blk_cell HZ.out.2 1
          have o2 := blk_cell HZ.out.2 2
          have o3 := blk_cell HZ.out.2 3
          simp at o0 o1 o2 o3
          simp [results, Tryd.results59, go_sem, o0, o1, o2, o3]
        · subst hy
          have HZ := Aside0.mk (tok_laid HB.out HO.out hob1 (.int .i64 3) (.int .i64 (i : Int)) (.int .i64 0) (.string tx))
          have o0 := blk_cell HO.out 0
          have o1 := blk_cell HO.out 1
          have o2 := blk_cell HO.out 2
          have o3 := blk_cell HO.out 3
          have f0 := blk_frozen HO.out 0
          have f1 := blk_frozen HO.out 1
          have f2 := blk_frozen HO.out 2
          have f3 := blk_frozen HO.out 3
          simp at o0 o1 o2 o3
          go_wp2_with fail
          refine bodyPost_ret (v := .tuple #[.agg #[.int .i64 3, .int .i64 (i : Int), .int .i64 0, .string tx], .int .i64 ((i : Int) + 1), .int .i64 0]) ?_ rfl ⟨by rw [hT.out] <;> rfl, HZ.out.1⟩
          clear o0 o1 o2 o3 f0 f1 f2 f3
          have o0 := blk_cell HZ.out.2 0
          have o1 := blk_cell HZ.out.2 1
          have o2 := blk_cell HZ.out.2 2
          have o3 := blk_cell HZ.out.2 3
          simp at o0 o1 o2 o3
          simp [results, Tryd.results59, go_sem, o0, o1, o2, o3]
        · subst hy
          have HZ := Aside0.mk (tok_laid HB.out HO.out hob1 (.int .i64 3) (.int .i64 (i : Int)) (.int .i64 0) (.string tx))
          have o0 := blk_cell HO.out 0
          have o1 := blk_cell HO.out 1
          have o2 := blk_cell HO.out 2
          have o3 := blk_cell HO.out 3
          have f0 := blk_frozen HO.out 0
          have f1 := blk_frozen HO.out 1
          have f2 := blk_frozen HO.out 2
          have f3 := blk_frozen HO.out 3
          simp at o0 o1 o2 o3
          go_wp2_with fail
          refine bodyPost_ret (v := .tuple #[.agg #[.int .i64 3, .int .i64 (i : Int), .int .i64 0, .string tx], .int .i64 ((i : Int) + 1), .int .i64 0]) ?_ rfl ⟨by rw [hT.out] <;> rfl, HZ.out.1⟩
          clear o0 o1 o2 o3 f0 f1 f2 f3
          have o0 := blk_cell HZ.out.2 0
          have o1 := blk_cell HZ.out.2 1
          have o2 := blk_cell HZ.out.2 2
          have o3 := blk_cell HZ.out.2 3
          simp at o0 o1 o2 o3
          simp [results, Tryd.results59, go_sem, o0, o1, o2, o3]
        · subst hy
          have HZ := Aside0.mk (tok_laid HB.out HO.out hob1 (.int .i64 3) (.int .i64 (i : Int)) (.int .i64 0) (.string tx))
          have o0 := blk_cell HO.out 0
          have o1 := blk_cell HO.out 1
          have o2 := blk_cell HO.out 2
          have o3 := blk_cell HO.out 3
          have f0 := blk_frozen HO.out 0
          have f1 := blk_frozen HO.out 1
          have f2 := blk_frozen HO.out 2
          have f3 := blk_frozen HO.out 3
          simp at o0 o1 o2 o3
          go_wp2_with fail
          refine bodyPost_ret (v := .tuple #[.agg #[.int .i64 3, .int .i64 (i : Int), .int .i64 0, .string tx], .int .i64 ((i : Int) + 1), .int .i64 0]) ?_ rfl ⟨by rw [hT.out] <;> rfl, HZ.out.1⟩
          clear o0 o1 o2 o3 f0 f1 f2 f3
          have o0 := blk_cell HZ.out.2 0
          have o1 := blk_cell HZ.out.2 1
          have o2 := blk_cell HZ.out.2 2
          have o3 := blk_cell HZ.out.2 3
          simp at o0 o1 o2 o3
          simp [results, Tryd.results59, go_sem, o0, o1, o2, o3]
      · have hT := Aside0.mk (e0.out.trans (if_neg hy))
        clear e0
        unfold symB at hy
        simp only [Bool.or_eq_true, beq_iff_eq, not_or] at hy
        obtain ⟨⟨⟨⟨⟨⟨⟨h0, h1⟩, h2⟩, h3⟩, h4⟩, h5⟩, h6⟩, h7⟩ := hy
        generalize byteAt s i = c at *
        replace h0 : (c == 40) = false := by simpa using h0
        replace h1 : (c == 41) = false := by simpa using h1
        replace h2 : (c == 44) = false := by simpa using h2
        replace h3 : (c == 60) = false := by simpa using h3
        replace h4 : (c == 62) = false := by simpa using h4
        replace h5 : (c == 61) = false := by simpa using h5
        replace h6 : (c == 43) = false := by simpa using h6
        replace h7 : (c == 45) = false := by simpa using h7
        have HZ := Aside0.mk (tok_laid HB.out HO.out hob1 (.int .i64 0) (.int .i64 0) (.int .i64 0) (.string (⟨#[]⟩ : ByteArray)))
        have o0 := blk_cell HO.out 0
        have o1 := blk_cell HO.out 1
        have o2 := blk_cell HO.out 2
        have o3 := blk_cell HO.out 3
        have f0 := blk_frozen HO.out 0
        have f1 := blk_frozen HO.out 1
        have f2 := blk_frozen HO.out 2
        have f3 := blk_frozen HO.out 3
        simp at o0 o1 o2 o3
        go_wp2_with fail
        refine bodyPost_ret (v := .tuple #[.agg #[.int .i64 0, .int .i64 0, .int .i64 0, .string (⟨#[]⟩ : ByteArray)], .int .i64 0, .int .i64 5]) ?_ rfl ⟨by rw [hT.out] <;> rfl, HZ.out.1⟩
        clear o0 o1 o2 o3 f0 f1 f2 f3
        have o0 := blk_cell HZ.out.2 0
        have o1 := blk_cell HZ.out.2 1
        have o2 := blk_cell HZ.out.2 2
        have o3 := blk_cell HZ.out.2 3
        simp at o0 o1 o2 o3
        simp [results, Tryd.results59, go_sem, o0, o1, o2, o3]
end Go.Proofs.YtbbopomecanaoaaDoor.A
namespace Go.Proofs.YtbbopomecanaoaaDoor.A
open Go.RowKit Go.Proofs.YtbbopomecanaoaaDoorW.PrintWords Go.Proofs.YtbbopomecanaoaaDoorW.PrintLast Go.Proofs.YtbbopomecanaoaaDoorW.PrintMore Go.Proofs.YtbbopomecanaoaaDoor.XK
open Go.Proofs.YtbbopomecanaoaaDoor
attribute [local go_sem] max2_int min2_int max_two min_two max_three min_three max_four min_four fld1 fld3
set_option linter.unusedVariables false
set_option linter.unusedSimpArgs false
inductive LexR where
  | ok (ts : List Tk)
  | bad (at_ : Nat) (e : Int)
def lexP (s : ByteArray) : Nat → List Tk → Nat → Option LexR
  | 0, _, _ => none
  | k + 1, l, i =>
    if i < s.size then
      (if byteAt s i = 32 then lexP s k l (i + 1)
       else if (nextP s i).2.2 = 0 then lexP s k (l ++ [(nextP s i).1]) (nextP s i).2.1
       else some (.bad i (nextP s i).2.2))
    else some (.ok l)
theorem nextP_end (s : ByteArray) (i : Nat) (hi : i < s.size) (h : (nextP s i).2.2 = 0) : i < (nextP s i).2.1 ∧ (nextP s i).2.1 ≤ s.size ∧ (nextP s i).1.f3 = s.extract i (nextP s i).2.1 := by
  revert h
  unfold nextP
  split
  · rename_i hl
    split
    · intro h; exact absurd h (by decide)
    · intro _
      exact ⟨runN_lt s wordB hi (by unfold wordB; rw [hl]; rfl) (by omega), runN_le s wordB _ _ (by omega), rfl⟩
  · split
    · rename_i hd
      intro h
      refine ⟨runN_lt s digitB hi hd (by omega), runN_le s digitB _ _ (by omega), ?_⟩
      unfold numE at h
      dsimp only at h ⊢
      unfold numT
      split at h
      · exact absurd h (by decide)
      · rename_i hb
        rw [if_neg hb]
    · split
      · intro _
        exact ⟨Nat.lt_succ_self i, hi, rfl⟩
      · intro h; exact absurd h (by decide)
theorem lexP_total (s : ByteArray) : ∀ (k : Nat) (l : List Tk) (i : Nat), i ≤ s.size → s.size < i + k → ∃ r, lexP s k l i = some r
  | 0, l, i, h0, h => absurd h (by omega)
  | k + 1, l, i, hle, h => by
    rw [lexP]
    split
    · rename_i hi
      split
      · exact lexP_total s k l (i + 1) (by omega) (by omega)
      · split
        · rename_i h0
          have := nextP_end s i hi h0
          exact lexP_total s k _ _ (by omega) (by omega)
        · exact ⟨_, rfl⟩
    · exact ⟨_, rfl⟩
theorem infoT : (Tryd.prog.info? 88).map (fun i => (i.zero, i.size, i.bytes)) = some (some (.agg zT), 4, 40) := by kernel_rfl
def LPost (w : World) : LexR → Ending → World → Prop
  | .ok ts, e, w' => ∃ A c, e = .returned (.tuple #[.slice A ts.length c, .int .i64 0, .int .i64 0]) ∧ Kd.R k88 88 w' w.heap.size (fun k => w.heap.size ≤ k) (.slice A ts.length c) ts ∧ Below w.heap.size w w'
  | .bad a er, e, w' => e = .returned (.tuple #[.slice none 0 0, .int .i64 (a : Int), .int .i64 er]) ∧ Below w.heap.size w w'
set_option maxRecDepth 100000 in
set_option maxHeartbeats 4000000 in
theorem lex_calls {WW : World → Prop} (AT : AtoiF WW) (s : ByteArray) (hs : s.size ≤ 120) (k : Nat) (r : LexR) (hr : lexP s k [] 0 = some r) (w : World) (hw : WW w) :
    Calls Tryd.prog 35 #[.string s] w fun e w' => LPost w r e w' := by
  have HR := Aside0.mk hr
  have HAT := Aside0.mk AT
  have HW := Aside0.mk hw
  have HWZ := Aside0.mk hw
  have HB := Aside0.mk (Below.refl w.heap.size w)
  have HX := Aside0.mk (Kd.R_nil k88 88 w w.heap.size (fun k => w.heap.size ≤ k))
  clear hr AT hw
  go_enter Tryd.func35, Tryd.ntmps35
  go_wp2_with fail
  go_loopg [2, 5] k (fun gk v2 v5 wr => ∃ (xs : List Tk) (A : Option Addr) (c i : Nat), v2 = .slice A xs.length c ∧ v5 = .int .i64 (i : Int) ∧ Aside0 (lexP s gk xs i = some r) ∧ Aside0 (Kd.R k88 88 wr w.heap.size (fun k => w.heap.size ≤ k) (.slice A xs.length c) xs) ∧ Aside0 (Below w.heap.size w wr) ∧ Aside0 (WW wr) ∧ Aside0 (xs.length ≤ i ∧ i ≤ s.size))
  case atStart => exact ⟨[], none, 0, 0, rfl, rfl, HR, HX, HB, HW, ⟨Nat.le_refl _, Nat.zero_le _⟩⟩
  case round =>
    clear HR HX HB HW
    obtain ⟨xs, A, c, i, rfl, rfl, HR, HX, HB, HW, HI⟩ := hrel
    obtain ⟨gk, rfl⟩ : ∃ m, gk = m + 1 := by
      cases gk with
      | zero => have := HR.out; simp [lexP] at this
      | succ m => exact ⟨m, rfl⟩
    have hr := HR.out
    rw [lexP] at hr
    clear HR
    have hi2 := HI.out.2
    by_cases hlt : i < s.size
    · rw [if_pos hlt] at hr
      have t0 : decide ((i : Int) < (s.size : Int)) = true := by simp; omega
      have hix := idx_run s i hlt
      by_cases hsp : byteAt s i = 32
      · rw [if_pos hsp] at hr
        have HR := Aside0.mk hr
        have b0 : (byteAt s i == 32) = true := by simpa using hsp
        clear hr hsp
        generalize byteAt s i = ch at *
        go_wp2_with fail
        go_roundg gk
        case measure => omega
        case rel => exact ⟨xs, A, c, i + 1, rfl, by first | rfl | (simp; done), HR, HX, HB, HW, ⟨by have := HI.out.1; omega, by omega⟩⟩
      · rw [if_neg hsp] at hr
        have b0 : (byteAt s i == 32) = false := by simpa using hsp
        have HN := Aside0.mk (next_calls HAT.out s hs i hlt wr HW.out)
        have hend := nextP_end s i hlt
        clear hsp
        generalize byteAt s i = ch at *
        generalize nextP s i = np at *
        obtain ⟨⟨t0', t1', t2', t3'⟩, n, er⟩ := np
        dsimp only at hr hend HN
        go_wp2_with fail
        with_reducible refine HN.out.mono ?_
        clear HN
        rintro e w2 ⟨rfl, HB1⟩
        replace HB := Aside0.mk (below_step HB.out HB1)
        replace HW := Aside0.mk (HAT.out.stay _ _ HW.out HB1)
        replace HX := Aside0.mk (Kd.R_below HX.out HB1)
        clear HB1 hix
        have hA := below_alloc (Below.refl w2.heap.size w2) (.cells #[.int .i64 t0', .int .i64 t1', .int .i64 t2', .string t3'] 88)
        have BT := heap_alloc_new w2 (.cells #[.int .i64 t0', .int .i64 t1', .int .i64 t2', .string t3'] 88)
        replace HB := Aside0.mk (below_step HB.out hA)
        replace HW := Aside0.mk (HAT.out.stay _ _ HW.out hA)
        replace HX := Aside0.mk (Kd.R_below HX.out hA)
        clear hA
        clear BT
        by_cases he : er = 0
        · subst he
          rw [if_pos rfl] at hr
          obtain ⟨h1, h2, h3⟩ := hend rfl
          have HR := Aside0.mk hr
          clear hr h3 hend
          have hlen := HI.out.1
          go_wp2_with ((with_reducible refine gate_builtin (b := .append) (xs := #[.tmp 30, .tmp 32]) rfl ?_); at_builtin; refine Kd.R_append k88 (w0 := w) w.heap.size rfl (.tmp 30) (.tmp 32) 58 88 (.agg zT) 40 rfl Tryd.underlying58 infoT rfl (by decide) (by decide) _ xs ⟨t0', t1', t2', t3'⟩ [.int .i64 t0', .int .i64 t1', .int .i64 t2', .string t3'] (fun k => w.heap.size ≤ k) (fun _ => False) rfl (by rw [World.size_alloc]; rfl) (k88_mkM _ _ _ ⟨t0', t1', t2', t3'⟩) (fun k hk => hk.elim) (fun k hk => Nat.le_trans HB.out.size hk) HX.out HB.out HB.out.size (by omega) ?_; intro v1 w1 hv1 hbel hgrow hat)
          obtain ⟨A1, c1, rfl⟩ := Kd.R_slice hv1
          go_roundg gk
          case measure => omega
          case rel => exact ⟨xs ++ [⟨t0', t1', t2', t3'⟩], A1, c1, n, by first | rfl | (simp; done), by first | rfl | (simp; done), HR, ⟨hv1⟩, ⟨hbel⟩, ⟨HAT.out.stay _ _ HWZ.out hbel⟩, ⟨by simp; omega, h2⟩⟩
        · rw [if_neg he] at hr
          obtain rfl := Option.some.inj hr
          have b1 : (er != 0) = true := by simpa using he
          clear hr hend he HX
          go_wp2_with fail
          exact bodyPost_ret (v := .tuple #[.slice none 0 0, .int .i64 (i : Int), .int .i64 er]) (by simp [results, Tryd.results35, go_sem]) rfl ⟨rfl, HB.out⟩
    · rw [if_neg hlt] at hr
      obtain rfl : i = s.size := by omega
      obtain rfl := Option.some.inj hr
      clear hr hlt hi2
      go_wp2_with fail
      exact bodyPost_ret (v := .tuple #[.slice A xs.length c, .int .i64 0, .int .i64 0]) (by simp [results, Tryd.results35, go_sem]) rfl ⟨_, _, rfl, HX.out, HB.out⟩
end Go.Proofs.YtbbopomecanaoaaDoor.A
