import Derived.Test.YtbbopomecanaoaaDoorBC11
import Derived.Laws.IdiomStrings
import Derived.Maps.OwnSet
import Derived.Maps.Views
import Derived.StringKeys
import Derived.ProofKit
import Derived.Deep.Slices
import Derived.Deep.Fields
import Derived.OpenShut
import Derived.Test.YtbbopomecanaoaaDoorRows
import Derived.LaidMore
import Derived.LaidOnce
import Derived.Stop.Joined
import Derived.Stop.LaidErr
import Derived.Lib.LaidTab
/- The texts that the law's proof stands on, merged and pruned by program. No condition. -/
namespace Go.Proofs.YtbbopomecanaoaaDoor.A
open Go.RowKit Go.Proofs.YtbbopomecanaoaaDoorW.PrintWords Go.Proofs.YtbbopomecanaoaaDoorW.PrintLast Go.Proofs.YtbbopomecanaoaaDoorW.PrintMore Go.Proofs.YtbbopomecanaoaaDoor.XK
open Go.Proofs.YtbbopomecanaoaaDoor
attribute [local go_sem] max2_int min2_int max_two min_two max_three min_three max_four min_four fld1 fld3
set_option linter.unusedVariables false
set_option linter.unusedSimpArgs false
def WI (w : World) : Prop := Lib.TabIs Tryd.prog w "internal/strconv.uint64pow10" .u64 Lib.pow10Tab
theorem WI_stay {w w' : World} (h : WI w) (hb : Below w.heap.size w w') : WI w' := by
  unfold WI Lib.TabIs World.var? at *
  cases hg : Tryd.prog.globalNamed "internal/strconv.uint64pow10" with
  | none => simp [hg] at h
  | some g =>
    simp only [hg, Option.bind_some] at h ⊢
    have hlt : g < w.heap.size := by
      rcases Nat.lt_or_ge g w.heap.size with h' | h'
      · exact h'
      · rw [Array.getElem?_eq_none h'] at h; simp at h
    rw [hb.block g hlt]
    exact h
theorem below_growN (w : World) (k : Nat) (os : Array Obj) : Below w.heap.size w (Sort.grow (w.drewN k) os) := by
  have h := pw_below_drewN (Below.refl w.heap.size w) k
  exact ⟨h.os, h.tape, h.output, by
    show _ ≤ ((w.drewN k).heap ++ os).size
    rw [Array.size_append]
    have := h.size
    omega, fun j hj => by
    show ((w.drewN k).heap ++ os)[j]? = _
    rw [Array.getElem?_append_left (by have := h.size; omega)]
    exact h.block j hj⟩
theorem itoa_calls (n : Int) (h0 : 0 ≤ n) (h1 : n ≤ 32767) (w : World) (hw : WI w) : Calls Tryd.prog 54 #[.int .i64 n] w fun e w' => e = .returned (.string (numB n)) ∧ Below w.heap.size w w' := by
  refine (Tryd.strconv_Itoa n (by omega) (by omega) w hw).mono ?_
  rintro e w' ⟨rfl, k, os, rfl⟩
  refine ⟨?_, below_growN w k os⟩
  have e1 : Lib.itoa n = Lib.decDigits n.toNat := by
    unfold Lib.itoa
    rw [if_neg (by omega)]
  rw [e1]
  rfl
theorem fmtL_get : ∀ (l : List E) (i : Nat), i < l.length → (fmtL l).getD i ByteArray.empty = fmtE (rd_T24 l (i : Int))
  | [], i, h => absurd h (by simp)
  | y :: ys, 0, h => by rw [fmtL]; rfl
  | y :: ys, i + 1, h => by
    rw [fmtL]
    show (fmtL ys).getD i ByteArray.empty = _
    rw [fmtL_get ys i (by simpa using h)]
    rfl
theorem getD_mem {l : List E} {i : Nat} (h : i < l.length) : rd_T24 l (i : Int) ∈ l := by
  unfold rd_T24
  simp [h]
structure Fx (x : E) (A : Option Addr) (c : Nat) (w : World) (xb : Nat) (wr : World) : Prop where
  bx : wr.heap[xb]? = some (.cells #[.int .i64 x.f0, .int .i64 x.f1, .string x.f2, .slice A x.f3.length c] 24 (0, 0))
  ge : w.heap.size ≤ xb
  bl : Below w.heap.size w wr
  wi : WI wr
section
variable {x : E} {A : Option Addr} {c : Nat} {w wr w1 : World} {xb : Nat}
theorem Fx.below (h : Fx x A c w xb wr) (hb : Below wr.heap.size wr w1) : Fx x A c w xb w1 := ⟨blk_below h.bx hb, h.ge, below_step h.bl hb, WI_stay h.wi hb⟩
theorem Fx.kids (h : Fx x A c w xb wr) (hC : (k24).C w A x.f3.length x.f3) : (k24).C wr A x.f3.length x.f3 := Kd.C_below hC h.bl
end
theorem argsB_nil (b : Bool) (a : ByteArray) : argsB b a [] = a := by cases b <;> rfl
theorem argsB_snoc (z : ByteArray) : ∀ (l : List ByteArray) (b : Bool) (a : ByteArray), l ≠ [] → argsB b a (l ++ [z]) = (argsB b a l ++ bs [44, 32]) ++ z
  | [], b, a, h => absurd rfl h
  | [y], true, a, _ => rfl
  | [y], false, a, _ => rfl
  | y :: y2 :: ys, true, a, _ => by
    show argsB false (a ++ y) ((y2 :: ys) ++ [z]) = _
    rw [argsB_snoc z (y2 :: ys) false _ (by simp)]
    rfl
  | y :: y2 :: ys, false, a, _ => by
    show argsB false ((a ++ bs [44, 32]) ++ y) ((y2 :: ys) ++ [z]) = _
    rw [argsB_snoc z (y2 :: ys) false _ (by simp)]
    rfl
set_option maxRecDepth 100000 in
set_option maxHeartbeats 4000000 in
theorem format_calls : ∀ (m : Nat) (x : E) (A : Option Addr) (c : Nat) (w : World), szE x ≤ m → m ≤ 1000 → bE x = true → (k24).C w A x.f3.length x.f3 → WI w →
    Calls Tryd.prog 33 #[.agg (cE x (.slice A x.f3.length c))] w fun e w' => e = .returned (.string (fmtE x)) ∧ Below w.heap.size w w' := by
  intro m
  induction m with
  | zero =>
    intro x A c w h
    have := szE_eq x
    omega
  | succ m ih =>
    intro x A c w hz hm hb hC hw
    have hA := below_alloc (Below.refl w.heap.size w) (.cells (cE x (.slice A x.f3.length c)) 24)
    have HF : Aside0 (Fx x A c w w.heap.size (w.alloc (.cells (cE x (.slice A x.f3.length c)) 24))) := ⟨heap_alloc_new w _, Nat.le_refl _, hA, WI_stay hw hA⟩
    have hbx := hb
    rw [bE_eq, Bool.and_eq_true] at hb
    obtain ⟨n1, n2, n3, n4, -⟩ := node_facts hb.1
    have hsz := szE_eq x
    have hks := fmtL_size x.f3 hb.2
    have HK : Aside0 (∀ i : Nat, i < x.f3.length → ∀ (A' : Option Addr) (c' : Nat) (w' : World), (k24).C w' A' (rd_T24 x.f3 i).f3.length (rd_T24 x.f3 i).f3 → WI w' →
        Calls Tryd.prog 33 #[.agg (cE (rd_T24 x.f3 i) (.slice A' (rd_T24 x.f3 i).f3.length c'))] w' fun e w'' => e = .returned (.string (fmtE (rd_T24 x.f3 i))) ∧ Below w'.heap.size w' w'') :=
      ⟨fun i hi A' c' w' h1 h2 => by
        have hmem := getD_mem hi
        have := szE_mem hmem
        exact ih _ A' c' w' (by omega) (by omega) (bE_mem hb.2 hmem) h1 h2⟩
    have HN := Aside0.mk (And.intro n2 (And.intro n3 n4))
    have HS := Aside0.mk (show sumS (fmtL x.f3) ≤ 31000 by omega)
    have HC := Aside0.mk hC
    have HL := Aside0.mk (fmtL_len x.f3)
    have HA := Aside0.mk (arity3 x.f0)
    have HE := Aside0.mk (fmtE_eq x)
    rw [HE.out]
    clear hz hm hb hC hw hA hbx n1 n2 n3 n4 hsz hks ih HE
    unfold fmtN
    have x0 : (w.alloc (.cells (cE x (.slice A x.f3.length c)) 24)).cell? ⟨w.heap.size, 0, none⟩ = some (.int .i64 x.f0) := blk_cell HF.out.bx 0
    have x1 : (w.alloc (.cells (cE x (.slice A x.f3.length c)) 24)).cell? ⟨w.heap.size, 1, none⟩ = some (.int .i64 x.f1) := blk_cell HF.out.bx 1
    have x2 : (w.alloc (.cells (cE x (.slice A x.f3.length c)) 24)).cell? ⟨w.heap.size, 2, none⟩ = some (.string x.f2) := blk_cell HF.out.bx 2
    have x3 : (w.alloc (.cells (cE x (.slice A x.f3.length c)) 24)).cell? ⟨w.heap.size, 3, none⟩ = some (.slice A x.f3.length c) := blk_cell HF.out.bx 3
    by_cases c1 : x.f0 = 1
    · rw [if_pos c1]
      have b1 : (x.f0 == 1) = true := by simpa using c1
      have HB := Aside0.mk (strconv_FormatBool_53.calls (x.f1 == 1) (if x.f1 = 1 then bs [116, 114, 117, 101] else bs [102, 97, 108, 115, 101]) (w.alloc (.cells (cE x (.slice A x.f3.length c)) 24)) (by
        unfold strconv_FormatBool_53.f strconv_FormatBool_75.f
        by_cases h : x.f1 = 1 <;> simp [h]))
      clear c1
      generalize (if x.f1 = 1 then bs [116, 114, 117, 101] else bs [102, 97, 108, 115, 101]) = r at *
      go_enter Tryd.func33, Tryd.ntmps33
      go_wp2_with fail
      with_reducible refine HB.out.mono ?_
      rintro e w2 ⟨rfl, HD⟩
      replace HF := Aside0.mk (HF.out.below HD.below)
      clear HD HB x0 x1 x2 x3
      go_wp2_with fail
      go_ret
      exact ⟨rfl, HF.out.bl⟩
    rw [if_neg c1]
    have b1 : (x.f0 == 1) = false := by simpa using c1
    by_cases c2 : x.f0 = 2
    · rw [if_pos c2]
      have b2 : (x.f0 == 2) = true := by simpa using c2
      have HB := Aside0.mk (itoa_calls x.f1 HN.out.2.1 (by have := HN.out.2.2; rw [c2] at this; exact this) _ HF.out.wi)
      clear c1 c2
      go_enter Tryd.func33, Tryd.ntmps33
      go_wp2_with fail
      with_reducible refine HB.out.mono ?_
      rintro e w2 ⟨rfl, HD⟩
      replace HF := Aside0.mk (HF.out.below HD)
      clear HD HB x0 x1 x2 x3
      go_wp2_with fail
      go_ret
      exact ⟨rfl, HF.out.bl⟩
    rw [if_neg c2]
    have b2 : (x.f0 == 2) = false := by simpa using c2
    by_cases c3 : x.f0 = 3
    · rw [if_pos c3]
      have b3 : (x.f0 == 3) = true := by simpa using c3
      clear c1 c2 c3
      go_enter Tryd.func33, Tryd.ntmps33
      go_wp2_with fail
      go_ret
      exact ⟨rfl, HF.out.bl⟩
    rw [if_neg c3]
    have b3 : (x.f0 == 3) = false := by simpa using c3
    by_cases c4 : x.f0 = 4
    · rw [if_pos c4]
      have b4 : (x.f0 == 4) = true := by simpa using c4
      have hl : 0 < x.f3.length := by have := HN.out.1; rw [c4] at this; have h1 : (x.f3.length : Int) = 1 := this; omega
      obtain ⟨ad, A3, c3', eA, z0, z1, z2, z3, hl3, hC3⟩ := at_T24 (HF.out.kids HC.out) ((0 : Nat) : Int) (by omega) (by omega)
      have HY := Aside0.mk (HK.out 0 hl A3 c3' _ hC3 HF.out.wi)
      have HG := fmtL_get x.f3 0 hl
      have hsum := getS_le (fmtL x.f3)
      have hs1 := HS.out
      rw [HG] at hsum ⊢
      generalize rd_T24 x.f3 ((0 : Nat) : Int) = y at *
      generalize fmtE y = r at *
      have s1 : (9223372036854775807 < 5 + r.size) = False := eq_false (by omega)
      have s2 : (9223372036854775807 < 5 + r.size + 1) = False := eq_false (by omega)
      have p0 : (0 < (x.f3.length : Int)) = True := eq_true (by omega)
      have p1 : (0 < x.f3.length) = True := eq_true hl
      subst eA
      rw [show (((0 : Nat) : Int)).toNat = 0 from rfl] at z0 z1 z2 z3
      rw [Nat.zero_mul, Addr.add_zero'] at z0 z1 z2 z3
      clear c1 c2 c3 c4 HG hsum hs1 hl hl3 hC3
      go_enter Tryd.func33, Tryd.ntmps33
      go_wp2_with fail
      with_reducible refine HY.out.mono ?_
      rintro e w2 ⟨rfl, HD⟩
      replace HF := Aside0.mk (HF.out.below HD)
      clear HD HY x0 x1 x2 x3 z0 z1 z2 z3
      go_wp2_with fail
      go_ret
      exact ⟨rfl, HF.out.bl⟩
    rw [if_neg c4]
    have b4 : (x.f0 == 4) = false := by simpa using c4
    by_cases c12 : x.f0 ≤ 12
    · rw [if_pos c12]
      have hop : 5 ≤ x.f0 := by
        have h1 := HN.out.1
        cases Int.lt_or_le x.f0 5 with
        | inr h => exact h
        | inl h =>
          have : arityI x.f0 = -1 := by unfold arityI; rw [if_neg (by omega), if_neg (by omega), if_neg (by omega), if_neg (by omega)]
          omega
      have hl : x.f3.length = 2 := by
        have h1 := HN.out.1
        have : arityI x.f0 = 2 := by unfold arityI; rw [if_neg (by omega), if_neg (by omega), if_pos (by omega)]
        omega
      obtain ⟨ad, A3, c3', eA, z0, z1, z2, z3, hl3, hC3⟩ := at_T24 (HF.out.kids HC.out) ((0 : Nat) : Int) (by omega) (by omega)
      obtain ⟨ad2, A4, c4', eA2, u0, u1, u2, u3, hl4, hC4⟩ := at_T24 (HF.out.kids HC.out) ((1 : Nat) : Int) (by omega) (by omega)
      rw [eA] at eA2
      obtain rfl := Option.some.inj eA2
      have HCY := Aside0.mk hC3
      have HCZ := Aside0.mk hC4
      have HY := Aside0.mk (fun w' => HK.out 0 (by omega) A3 c3' w')
      have HZ := Aside0.mk (fun w' => HK.out 1 (by omega) A4 c4' w')
      have HG := fmtL_get x.f3 0 (by omega)
      have HG2 := fmtL_get x.f3 1 (by omega)
      have hsum := getS_le (fmtL x.f3)
      have hs1 := HS.out
      rw [HG, HG2] at hsum ⊢
      have HSG := Aside0.mk (equation_sign.calls x.f0 (bs (signL x.f0)) (w.alloc (.cells (cE x (.slice A x.f3.length c)) 24)) (by
        have : x.f0 = 5 ∨ x.f0 = 6 ∨ x.f0 = 7 ∨ x.f0 = 8 ∨ x.f0 = 9 ∨ x.f0 = 10 ∨ x.f0 = 11 ∨ x.f0 = 12 := by omega
        rcases this with h | h | h | h | h | h | h | h <;> rw [h] <;> rfl))
      have hsn : ((bs (signL x.f0)).toList != []) = true := by
        rw [bs_list]
        have : x.f0 = 5 ∨ x.f0 = 6 ∨ x.f0 = 7 ∨ x.f0 = 8 ∨ x.f0 = 9 ∨ x.f0 = 10 ∨ x.f0 = 11 ∨ x.f0 = 12 := by omega
        rcases this with h | h | h | h | h | h | h | h <;> rw [h] <;> rfl
      have hsl : (bs (signL x.f0)).size ≤ 3 := by rw [bs_size]; exact sign_len _
      generalize bs (signL x.f0) = sg at *
      generalize rd_T24 x.f3 ((0 : Nat) : Int) = y at *
      generalize rd_T24 x.f3 ((1 : Nat) : Int) = z at *
      generalize fmtE y = r1 at *
      generalize fmtE z = r2 at *
      have s1 : (9223372036854775807 < 1 + r1.size) = False := eq_false (by omega)
      have s2 : (9223372036854775807 < 1 + r1.size + 1) = False := eq_false (by omega)
      have s3 : (9223372036854775807 < 1 + r1.size + 1 + sg.size) = False := eq_false (by omega)
      have s4 : (9223372036854775807 < 1 + r1.size + 1 + sg.size + 1) = False := eq_false (by omega)
      have s5 : (9223372036854775807 < 1 + r1.size + 1 + sg.size + 1 + r2.size) = False := eq_false (by omega)
      have s6 : (9223372036854775807 < 1 + r1.size + 1 + sg.size + 1 + r2.size + 1) = False := eq_false (by omega)
      have p0 : (0 < (x.f3.length : Int)) = True := eq_true (by omega)
      have p1 : (0 < x.f3.length) = True := eq_true (by omega)
      have p2 : (1 < (x.f3.length : Int)) = True := eq_true (by omega)
      have p3 : (1 < x.f3.length) = True := eq_true (by omega)
      have hsn2 : (sg.toList == []) = false := by simpa using hsn
      subst eA
      rw [show (((0 : Nat) : Int)).toNat = 0 from rfl] at z0 z1 z2 z3
      rw [Nat.zero_mul, Addr.add_zero'] at z0 z1 z2 z3
      rw [show (((1 : Nat) : Int)).toNat * 4 = 4 from rfl, show ad.add 4 = ⟨ad.block, ad.off + 4, none⟩ by simp [Addr.add]] at u0 u1 u2 u3
      dsimp only at u1 u2 u3
      clear c1 c2 c3 c4 c12 HG HG2 hsum hs1 hl hl3 hC3 hl4 hC4 hop hsl
      go_enter Tryd.func33, Tryd.ntmps33
      go_wp2_with fail
      with_reducible refine HSG.out.mono ?_
      rintro e w2 ⟨rfl, HD⟩
      replace HD := Aside0.mk HD.below
      replace HF := Aside0.mk (HF.out.below HD.out)
      replace HCY := Aside0.mk (Kd.C_below HCY.out HD.out)
      replace HCZ := Aside0.mk (Kd.C_below HCZ.out HD.out)
      replace z0 := (HD.out.cell (World.block_lt_of_cell? _ _ z0)).trans z0
      replace z1 := (HD.out.cell (World.block_lt_of_cell? _ _ z1)).trans z1
      replace z2 := (HD.out.cell (World.block_lt_of_cell? _ _ z2)).trans z2
      replace z3 := (HD.out.cell (World.block_lt_of_cell? _ _ z3)).trans z3
      replace u0 := (HD.out.cell (World.block_lt_of_cell? _ _ u0)).trans u0
      replace u1 := (HD.out.cell (World.block_lt_of_cell? _ _ u1)).trans u1
      replace u2 := (HD.out.cell (World.block_lt_of_cell? _ _ u2)).trans u2
      replace u3 := (HD.out.cell (World.block_lt_of_cell? _ _ u3)).trans u3
      clear HD HSG x0 x1 x2
      replace x3 : w2.cell? ⟨w.heap.size, 3, none⟩ = some (.slice (some ad) x.f3.length c) := blk_cell HF.out.bx 3
      go_wp2_with fail
      refine Q.q_start (by kernel_rfl) (by kernel_rfl) ?_
      refine Q.q_value (N := some 38) (v := ?_) (a' := ?_) rfl (by rfl) ?_ ?_ ?_
      rotate_left
      · intro w' hb
        clear hb
        go_simp
        with_reducible rfl
      rotate_left
      · simp only [Act.put, List.setIfInBounds_toArray, List.set_cons_zero, List.set_cons_succ, i64_w, i32_w]
        rfl
      refine Q.q_value (N := some 39) (v := ?_) (a' := ?_) rfl (by rfl) ?_ ?_ ?_
      rotate_left
      · intro w' hb
        have s0 := pw_cell_below hb x3
        clear hb
        go_simp
        with_reducible rfl
      rotate_left
      · simp only [Act.put, List.setIfInBounds_toArray, List.set_cons_zero, List.set_cons_succ, i64_w, i32_w]
        rfl
      refine Q.q_value (N := some 40) (v := ?_) (a' := ?_) rfl (by rfl) ?_ ?_ ?_
      rotate_left
      · intro w' hb
        clear hb
        go_simp
        with_reducible rfl
      rotate_left
      · simp only [Act.put, List.setIfInBounds_toArray, List.set_cons_zero, List.set_cons_succ, i64_w, i32_w]
        rfl
      refine Q.q_value (N := some 41) (v := ?_) (a' := ?_) rfl (by rfl) ?_ ?_ ?_
      rotate_left
      · intro w' hb
        have s0 := pw_cell_below hb z0
        have s1 := pw_cell_below hb z1
        have s2 := pw_cell_below hb z2
        have s3 := pw_cell_below hb z3
        clear hb
        go_simp
        with_reducible rfl
      rotate_left
      · simp only [Act.put, List.setIfInBounds_toArray, List.set_cons_zero, List.set_cons_succ, i64_w, i32_w]
        rfl
      refine Q.q_call (N := some 42) (v := .string r1) (a' := ?_) 33 #[.agg (cE y (.slice A3 y.f3.length c3'))] rfl (by rfl) Tryd.func33 (by kernel_rfl) rfl (by rfl) (by first | rfl | (simp only [List.map_toArray, List.map_cons, List.map_nil]; done) | (simp only [List.map_toArray, List.map_cons, List.map_nil]; rfl)) (fun w' hb => (HY.out w' (Kd.C_below HCY.out hb) (WI_stay HF.out.wi hb)).mono fun e w'' ⟨he, hb'⟩ => ⟨he, below_step hb hb'⟩) ?_ ?_
      rotate_left
      · simp only [Act.put, List.setIfInBounds_toArray, List.set_cons_zero, List.set_cons_succ, i64_w, i32_w]
        rfl
      refine Q.q_value (N := some 43) (v := ?_) (a' := ?_) rfl (by rfl) ?_ ?_ ?_
      rotate_left
      · intro w' hb
        clear hb
        go_simp
        with_reducible rfl
      rotate_left
      · simp only [Act.put, List.setIfInBounds_toArray, List.set_cons_zero, List.set_cons_succ, i64_w, i32_w]
        rfl
      refine Q.q_value (N := some 44) (v := ?_) (a' := ?_) rfl (by rfl) ?_ ?_ ?_
      rotate_left
      · intro w' hb
        clear hb
        go_simp
        with_reducible rfl
      rotate_left
      · simp only [Act.put, List.setIfInBounds_toArray, List.set_cons_zero, List.set_cons_succ, i64_w, i32_w]
        rfl
      refine Q.q_value (N := some 45) (v := ?_) (a' := ?_) rfl (by rfl) ?_ ?_ ?_
      rotate_left
      · intro w' hb
        clear hb
        go_simp
        with_reducible rfl
      rotate_left
      · simp only [Act.put, List.setIfInBounds_toArray, List.set_cons_zero, List.set_cons_succ, i64_w, i32_w]
        rfl
      refine Q.q_value (N := some 46) (v := ?_) (a' := ?_) rfl (by rfl) ?_ ?_ ?_
      rotate_left
      · intro w' hb
        clear hb
        go_simp
        with_reducible rfl
      rotate_left
      · simp only [Act.put, List.setIfInBounds_toArray, List.set_cons_zero, List.set_cons_succ, i64_w, i32_w]
        rfl
      refine Q.q_value (N := some 47) (v := ?_) (a' := ?_) rfl (by rfl) ?_ ?_ ?_
      rotate_left
      · intro w' hb
        clear hb
        go_simp
        with_reducible rfl
      rotate_left
      · simp only [Act.put, List.setIfInBounds_toArray, List.set_cons_zero, List.set_cons_succ, i64_w, i32_w]
        rfl
      refine Q.q_value (N := some 48) (v := ?_) (a' := ?_) rfl (by rfl) ?_ ?_ ?_
      rotate_left
      · intro w' hb
        clear hb
        go_simp
        with_reducible rfl
      rotate_left
      · simp only [Act.put, List.setIfInBounds_toArray, List.set_cons_zero, List.set_cons_succ, i64_w, i32_w]
        rfl
      refine Q.q_value (N := some 49) (v := ?_) (a' := ?_) rfl (by rfl) ?_ ?_ ?_
      rotate_left
      · intro w' hb
        have s0 := pw_cell_below hb x3
        clear hb
        go_simp
        with_reducible rfl
      rotate_left
      · simp only [Act.put, List.setIfInBounds_toArray, List.set_cons_zero, List.set_cons_succ, i64_w, i32_w]
        rfl
      refine Q.q_value (N := some 50) (v := ?_) (a' := ?_) rfl (by rfl) ?_ ?_ ?_
      rotate_left
      · intro w' hb
        clear hb
        go_simp
        with_reducible rfl
      rotate_left
      · simp only [Act.put, List.setIfInBounds_toArray, List.set_cons_zero, List.set_cons_succ, i64_w, i32_w]
        rfl
      refine Q.q_value (N := some 51) (v := ?_) (a' := ?_) rfl (by rfl) ?_ ?_ ?_
      rotate_left
      · intro w' hb
        have s0 := pw_cell_below hb u0
        have s1 := pw_cell_below hb u1
        have s2 := pw_cell_below hb u2
        have s3 := pw_cell_below hb u3
        clear hb
        go_simp
        with_reducible rfl
      rotate_left
      · simp only [Act.put, List.setIfInBounds_toArray, List.set_cons_zero, List.set_cons_succ, i64_w, i32_w]
        rfl
      refine Q.q_call (N := some 52) (v := .string r2) (a' := ?_) 33 #[.agg (cE z (.slice A4 z.f3.length c4'))] rfl (by rfl) Tryd.func33 (by kernel_rfl) rfl (by rfl) (by first | rfl | (simp only [List.map_toArray, List.map_cons, List.map_nil]; done) | (simp only [List.map_toArray, List.map_cons, List.map_nil]; rfl)) (fun w' hb => (HZ.out w' (Kd.C_below HCZ.out hb) (WI_stay HF.out.wi hb)).mono fun e w'' ⟨he, hb'⟩ => ⟨he, below_step hb hb'⟩) ?_ ?_
      rotate_left
      · simp only [Act.put, List.setIfInBounds_toArray, List.set_cons_zero, List.set_cons_succ, i64_w, i32_w]
        rfl
      refine Q.q_value (N := some 53) (v := ?_) (a' := ?_) rfl (by rfl) ?_ ?_ ?_
      rotate_left
      · intro w' hb
        clear hb
        go_simp
        with_reducible rfl
      rotate_left
      · simp only [Act.put, List.setIfInBounds_toArray, List.set_cons_zero, List.set_cons_succ, i64_w, i32_w]
        rfl
      refine Q.q_value (N := some 54) (v := ?_) (a' := ?_) rfl (by rfl) ?_ ?_ ?_
      rotate_left
      · intro w' hb
        clear hb
        go_simp
        with_reducible rfl
      rotate_left
      · simp only [Act.put, List.setIfInBounds_toArray, List.set_cons_zero, List.set_cons_succ, i64_w, i32_w]
        rfl
      refine Q.q_value (N := some 2) (v := ?_) (a' := ?_) rfl (by rfl) ?_ ?_ ?_
      rotate_left
      · intro w' hb
        clear hb
        go_simp
        with_reducible rfl
      rotate_left
      · simp only [Act.put, List.setIfInBounds_toArray, List.set_cons_zero, List.set_cons_succ, i64_w, i32_w]
        rfl
      refine wpQuiet_nil ?_
      intro w9 HB9
      replace HF := Aside0.mk (HF.out.below HB9)
      clear HB9 x3 z0 z1 z2 z3 u0 u1 u2 u3
      go_wp2_with fail
      go_ret
      exact ⟨rfl, HF.out.bl⟩
    rw [if_neg c12]
    have hop : 13 ≤ x.f0 ∧ x.f0 ≤ 22 := by
      have h1 := HN.out.1
      refine ⟨by omega, ?_⟩
      cases Int.lt_or_le 22 x.f0 with
      | inr h => exact h
      | inl h =>
        have : arityI x.f0 = -1 := by unfold arityI; rw [if_neg (by omega), if_neg (by omega), if_neg (by omega), if_neg (by omega)]
        omega
    have hop2 : x.f0 = 13 ∨ x.f0 = 14 ∨ x.f0 = 15 ∨ x.f0 = 16 ∨ x.f0 = 17 ∨ x.f0 = 18 ∨ x.f0 = 19 ∨ x.f0 = 20 ∨ x.f0 = 21 ∨ x.f0 = 22 := by omega
    have hl : 0 < x.f3.length := by
      have h1 := HN.out.1
      rcases hop2 with h | h | h | h | h | h | h | h | h | h <;> (rw [h] at h1; revert h1; unfold arityI; simp; omega)
    have HSG := Aside0.mk (equation_sign.calls x.f0 (⟨#[]⟩ : ByteArray) (w.alloc (.cells (cE x (.slice A x.f3.length c)) 24)) (by
      rcases hop2 with h | h | h | h | h | h | h | h | h | h <;> rw [h] <;> rfl))
    have HCF : Aside0 (equation_call.f x.f0 = some (bs (callL x.f0))) := ⟨by
      rcases hop2 with h | h | h | h | h | h | h | h | h | h <;> rw [h] <;> rfl⟩
    have hcl : (bs (callL x.f0)).size ≤ 5 := by rw [bs_size]; exact call_len _
    have hnum := numB_size x.f1 (by have := HN.out.2.2; have := bound_le x.f0; omega)
    have HT : Aside0 ((if x.f0 = 19 ∨ x.f0 = 20 then (argsB true (bs (callL x.f0) ++ bs [40]) (fmtL x.f3) ++ (bs [44, 32] ++ numB x.f1)) else argsB true (bs (callL x.f0) ++ bs [40]) (fmtL x.f3)) ++ bs [41] = argsB true (bs (callL x.f0) ++ bs [40]) (if x.f0 = 19 ∨ x.f0 = 20 then fmtL x.f3 ++ [numB x.f1] else fmtL x.f3) ++ bs [41]) := ⟨by
      by_cases h : x.f0 = 19 ∨ x.f0 = 20
      · have ha : ∀ a b c : ByteArray, a ++ b ++ c = a ++ (b ++ c) := fun _ _ _ => ByteArray.append_assoc
        rw [if_pos h, if_pos h, argsB_snoc _ _ _ _ (by intro e; have := HL.out; rw [e] at this; simp at this; omega), ha (argsB true (bs (callL x.f0) ++ bs [40]) (fmtL x.f3)) (bs [44, 32]) (numB x.f1)]
      · rw [if_neg h, if_neg h]⟩
    rw [← HT.out]
    have HI := Aside0.mk (itoa_calls x.f1 HN.out.2.1 (by have := HN.out.2.2; have := bound_le x.f0; omega))
    clear HT c1 c2 c3 c4 c12 hop
    have HO2 := Aside0.mk hop2
    have HHL := Aside0.mk hl
    clear hop2 hl
    obtain ⟨cl, hcl2⟩ : ∃ cl, bs (callL x.f0) = cl := ⟨_, rfl⟩
    obtain ⟨nu, hnu2⟩ : ∃ nu, numB x.f1 = nu := ⟨_, rfl⟩
    rw [hcl2] at HCF hcl ⊢
    rw [hnu2] at HI hnum ⊢
    clear hcl2 hnu2
    have HM := Aside0.mk (And.intro hcl hnum)
    obtain ⟨R, hR⟩ : ∃ R, argsB true (cl ++ bs [40]) (fmtL x.f3) = R := ⟨_, rfl⟩
    rw [hR]
    have HR := Aside0.mk hR
    obtain ⟨F, hF⟩ : ∃ F, (if x.f0 = 19 ∨ x.f0 = 20 then R ++ (bs [44, 32] ++ nu) else R) = F := ⟨_, rfl⟩
    rw [hF]
    have HFF := Aside0.mk hF
    clear hR hnum hF
    have s1 : (9223372036854775807 < cl.size + 1) = False := eq_false (by omega)
    clear hcl
    go_enter Tryd.func33, Tryd.ntmps33
    go_wp2_with fail
    with_reducible refine HSG.out.mono ?_
    rintro e w2 ⟨rfl, HD⟩
    replace HF := Aside0.mk (HF.out.below HD.below)
    have HCL := Aside0.mk (equation_call.calls x.f0 cl w2 HCF.out)
    clear HD HSG x0 x1 x2 x3 HCF
    have x0 : w2.cell? ⟨w.heap.size, 0, none⟩ = some (.int .i64 x.f0) := blk_cell HF.out.bx 0
    go_wp2_with fail
    with_reducible refine HCL.out.mono ?_
    rintro e w3 ⟨rfl, HD⟩
    replace HF := Aside0.mk (HF.out.below HD.below)
    clear HD HCL x0
    have x3 : w3.cell? ⟨w.heap.size, 3, none⟩ = some (.slice A x.f3.length c) := blk_cell HF.out.bx 3
    go_wp2_with fail
    clear x3
    go_loopg [4, 62] x.f3.length (fun gk v4 v62 wr => ∃ (j : Nat) (s : ByteArray), v4 = .string s ∧ v62 = .int .i64 (j : Int) ∧ Aside0 (j + gk = x.f3.length) ∧ Aside0 (argsB (decide (j = 0)) s ((fmtL x.f3).drop j) = R) ∧ Aside0 (s.size + sumS ((fmtL x.f3).drop j) + 2 * gk ≤ 40000) ∧ Aside0 (Fx x A c w w.heap.size wr))
    case atStart => exact ⟨0, cl ++ bs [40], rfl, rfl, ⟨by omega⟩, HR, ⟨by
      have hz0 : (bs [40]).size = 1 := rfl
      rw [List.drop_zero, ByteArray.size_append]
      have h1 := HS.out
      have h2 := HM.out.1
      have h3 := HN.out.1
      have h4 := HA.out
      omega⟩, HF⟩
    case round =>
      clear HR HF s1
      obtain ⟨j, s, rfl, rfl, HJ, HR, HZ, HF⟩ := hrel
      have x0 : wr.cell? ⟨w.heap.size, 0, none⟩ = some (.int .i64 x.f0) := blk_cell HF.out.bx 0
      cases gk with
      | zero =>
        have hj : j = x.f3.length := HJ.out
        have hr := HR.out
        rw [List.drop_eq_nil_of_le (by rw [HL.out]; omega), argsB_nil] at hr
        have hz := HZ.out
        have hm := HM.out
        clear HR HJ
        subst hj
        subst hr
        have x1 : wr.cell? ⟨w.heap.size, 1, none⟩ = some (.int .i64 x.f1) := blk_cell HF.out.bx 1
        have s1 : (9223372036854775807 < s.size + 1) = False := eq_false (by omega)
        have s2 : (9223372036854775807 < 2 + nu.size) = False := eq_false (by omega)
        have s3 : (9223372036854775807 < s.size + (2 + nu.size)) = False := eq_false (by omega)
        have s4 : (9223372036854775807 < s.size + (2 + nu.size) + 1) = False := eq_false (by omega)
        clear hz hm HM
        by_cases c19 : x.f0 = 19
        · have hff := HFF.out
          rw [if_pos (Or.inl c19)] at hff
          clear HFF
          subst hff
          have d1 : (x.f0 == 19) = true := by simpa using c19
          replace HI := Aside0.mk (HI.out wr HF.out.wi)
          clear c19
          go_wp2_with fail
          with_reducible refine HI.out.mono ?_
          rintro e w4 ⟨rfl, HD⟩
          replace HF := Aside0.mk (HF.out.below HD)
          clear HD HI x0 x1
          go_wp2_with fail
          go_ret
          exact ⟨rfl, HF.out.bl⟩
        have d1 : (x.f0 == 19) = false := by simpa using c19
        by_cases c20 : x.f0 = 20
        · have hff := HFF.out
          rw [if_pos (Or.inr c20)] at hff
          clear HFF
          subst hff
          have d2 : (x.f0 == 20) = true := by simpa using c20
          replace HI := Aside0.mk (HI.out wr HF.out.wi)
          clear c19 c20
          go_wp2_with fail
          with_reducible refine HI.out.mono ?_
          rintro e w4 ⟨rfl, HD⟩
          replace HF := Aside0.mk (HF.out.below HD)
          clear HD HI x0 x1
          go_wp2_with fail
          go_ret
          exact ⟨rfl, HF.out.bl⟩
        have d2 : (x.f0 == 20) = false := by simpa using c20
        have hff := HFF.out
        rw [if_neg (by intro h; rcases h with h | h <;> contradiction)] at hff
        clear HFF
        subst hff
        clear c19 c20 HI
        go_wp2_with fail
        go_ret
        exact ⟨rfl, HF.out.bl⟩
      | succ n =>
        have hj : j < x.f3.length := by have := HJ.out; omega
        obtain ⟨ad, A3, c3', eA, z0, z1, z2, z3, hl3, hC3⟩ := at_T24 (HF.out.kids HC.out) (j : Int) (by omega) (by omega)
        have HAB := Aside0.mk (below_alloc (Below.refl wr.heap.size wr) (.cells (cE (rd_T24 x.f3 (j : Int)) (.slice A3 (rd_T24 x.f3 (j : Int)).f3.length c3')) 24))
        have HY := Aside0.mk (HK.out j hj A3 c3' _ (Kd.C_below hC3 HAB.out) (WI_stay HF.out.wi HAB.out))
        have hr := HR.out
        have hz := HZ.out
        have hd : (fmtL x.f3).drop j = fmtE (rd_T24 x.f3 (j : Int)) :: (fmtL x.f3).drop (j + 1) := by
          rw [List.drop_eq_getElem_cons (by rw [HL.out]; exact hj)]
          congr 1
          have := fmtL_get x.f3 j hj
          rw [List.getD_eq_getElem?_getD, List.getElem?_eq_getElem (by rw [HL.out]; exact hj)] at this
          exact this
        rw [hd, sumS] at hz
        rw [hd] at hr
        generalize rd_T24 x.f3 (j : Int) = y at *
        generalize fmtE y = r at *
        have BY := Aside0.mk (heap_alloc_new wr (.cells (cE y (.slice A3 y.f3.length c3')) 24))
        have y0 : (wr.alloc (.cells (cE y (.slice A3 y.f3.length c3')) 24)).cell? ⟨wr.heap.size, 0, none⟩ = some (.int .i64 y.f0) := blk_cell BY.out 0
        have y1 : (wr.alloc (.cells (cE y (.slice A3 y.f3.length c3')) 24)).cell? ⟨wr.heap.size, 1, none⟩ = some (.int .i64 y.f1) := blk_cell BY.out 1
        have y2 : (wr.alloc (.cells (cE y (.slice A3 y.f3.length c3')) 24)).cell? ⟨wr.heap.size, 2, none⟩ = some (.string y.f2) := blk_cell BY.out 2
        have y3 : (wr.alloc (.cells (cE y (.slice A3 y.f3.length c3')) 24)).cell? ⟨wr.heap.size, 3, none⟩ = some (.slice A3 y.f3.length c3') := blk_cell BY.out 3
        subst eA
        rw [Int.toNat_natCast] at z0 z1 z2 z3
        have hfew : x.f3.length ≤ 3 := by have := HN.out.1; have := HA.out; omega
        have hw1 : wrap64 ((j : Int) + 1) = (j : Int) + 1 := by unfold wrap64; omega
        have p0 : (0 ≤ (j : Int)) = True := eq_true (by omega)
        have p1 : ((j : Int) < (x.f3.length : Int)) = True := eq_true (by omega)
        have t0 : decide ((j : Int) < (x.f3.length : Int)) = true := by simpa using hj
        clear hC3 hl3 hd HR HZ BY
        by_cases hj0 : j = 0
        · have q0 : decide ((j : Int) > 0) = false := by simp; omega
          have q2 : (0 < j) = False := eq_false (by omega)
          have q1 : decide (0 < (j : Int)) = false := by simp; omega
          have s1 : (9223372036854775807 < s.size + r.size) = False := eq_false (by omega)
          rw [show decide (j = 0) = true by simpa using hj0] at hr
          have HR : Aside0 (argsB false (s ++ r) ((fmtL x.f3).drop (j + 1)) = R) := ⟨hr⟩
          have HZ : Aside0 ((s ++ r).size + sumS ((fmtL x.f3).drop (j + 1)) + 2 * n ≤ 40000) := ⟨by rw [ByteArray.size_append]; omega⟩
          clear hr hz hj0 hfew
          go_wp2_with fail
          with_reducible refine HY.out.mono ?_
          rintro e w4 ⟨rfl, HD⟩
          replace HF := Aside0.mk ((HF.out.below HAB.out).below HD)
          clear HD HY x0 z0 z1 z2 z3 y0 y1 y2 y3 HAB
          go_wp2_with fail
          go_roundg n
          case measure => omega
          case rel => exact ⟨j + 1, s ++ r, rfl, by first | rfl | (simp; done) | (simp [hw1]; done), ⟨by have := HJ.out; omega⟩, ⟨by rw [show decide (j + 1 = 0) = false by simp]; exact HR.out⟩, HZ, HF⟩
        · have q0 : decide ((j : Int) > 0) = true := by simp; omega
          have q2 : (0 < j) = True := eq_true (by omega)
          have q1 : decide (0 < (j : Int)) = true := by simp; omega
          have s1 : (9223372036854775807 < s.size + 2) = False := eq_false (by omega)
          have s2 : (9223372036854775807 < s.size + 2 + r.size) = False := eq_false (by omega)
          have s3 : (9223372036854775805 < s.size) = False := eq_false (by omega)
          rw [show decide (j = 0) = false by simpa using hj0] at hr
          have HR : Aside0 (argsB false ((s ++ bs [44, 32]) ++ r) ((fmtL x.f3).drop (j + 1)) = R) := ⟨hr⟩
          have HZ : Aside0 (((s ++ bs [44, 32]) ++ r).size + sumS ((fmtL x.f3).drop (j + 1)) + 2 * n ≤ 40000) := ⟨by
            have z2 : (bs [44, 32]).size = 2 := rfl
            rw [ByteArray.size_append, ByteArray.size_append]; omega⟩
          clear hr hz hj0 hfew
          go_wp2_with fail
          with_reducible refine HY.out.mono ?_
          rintro e w4 ⟨rfl, HD⟩
          replace HF := Aside0.mk ((HF.out.below HAB.out).below HD)
          clear HD HY x0 z0 z1 z2 z3 y0 y1 y2 y3 HAB
          go_wp2_with fail
          go_roundg n
          case measure => omega
          case rel => exact ⟨j + 1, (s ++ bs [44, 32]) ++ r, rfl, by first | rfl | (simp; done) | (simp [hw1]; done), ⟨by have := HJ.out; omega⟩, ⟨by rw [show decide (j + 1 = 0) = false by simp]; exact HR.out⟩, HZ, HF⟩
end Go.Proofs.YtbbopomecanaoaaDoor.A
namespace Go.Proofs.YtbbopomecanaoaaDoor.A
open Go.RowKit Go.Proofs.YtbbopomecanaoaaDoorW.PrintWords Go.Proofs.YtbbopomecanaoaaDoorW.PrintLast Go.Proofs.YtbbopomecanaoaaDoorW.PrintMore Go.Proofs.YtbbopomecanaoaaDoor.XK
open Go.Proofs.YtbbopomecanaoaaDoor
attribute [local go_sem] max2_int min2_int max_two min_two max_three min_three max_four min_four fld1 fld3
set_option linter.unusedVariables false
set_option linter.unusedSimpArgs false
def WF (w : World) : Prop := WR w ∧ WI w
theorem WF_stay {w w' : World} (h : WF w) (hb : Below w.heap.size w w') : WF w' := ⟨atoiF.stay w w' h.1 hb, WI_stay h.2 hb⟩
theorem atoiWF : AtoiF WF := ⟨fun s w hd h1 h2 hw => atoiF.calls s w hd h1 h2 hw.1, fun w w' h hb => WF_stay h hb⟩
set_option maxRecDepth 100000 in
set_option maxHeartbeats 4000000 in
theorem Format_calls (x : E) (A : Option Addr) (c : Nat) (w : World) (hC : (k24).C w A x.f3.length x.f3) (hw : WF w) :
    Calls Tryd.prog 16 #[.agg (cE x (.slice A x.f3.length c))] w fun e w' => e = .returned (.string (FormatB x)) ∧ Below w.heap.size w w' := by
  have HA := Aside0.mk (below_alloc (Below.refl w.heap.size w) (.cells (cE x (.slice A x.f3.length c)) 24))
  have BX := Aside0.mk (heap_alloc_new w (.cells (cE x (.slice A x.f3.length c)) 24))
  have HV := Aside0.mk (valid_calls x A c _ (Kd.C_below hC HA.out))
  have HC := Aside0.mk (Kd.C_below hC HA.out)
  have HW := Aside0.mk (WF_stay hw HA.out)
  have HX := Aside0.mk (validB_is x)
  clear hC hw
  obtain ⟨F, hF⟩ : ∃ F, FormatB x = F := ⟨_, rfl⟩
  rw [hF]
  unfold FormatB at hF
  have HF := Aside0.mk hF
  clear hF
  have x0 : (w.alloc (.cells (cE x (.slice A x.f3.length c)) 24)).cell? ⟨w.heap.size, 0, none⟩ = some (.int .i64 x.f0) := blk_cell BX.out 0
  have x1 : (w.alloc (.cells (cE x (.slice A x.f3.length c)) 24)).cell? ⟨w.heap.size, 1, none⟩ = some (.int .i64 x.f1) := blk_cell BX.out 1
  have x2 : (w.alloc (.cells (cE x (.slice A x.f3.length c)) 24)).cell? ⟨w.heap.size, 2, none⟩ = some (.string x.f2) := blk_cell BX.out 2
  have x3 : (w.alloc (.cells (cE x (.slice A x.f3.length c)) 24)).cell? ⟨w.heap.size, 3, none⟩ = some (.slice A x.f3.length c) := blk_cell BX.out 3
  generalize hb : validB x = b at *
  go_enter Tryd.func16, Tryd.ntmps16
  cases b with
  | false =>
    have hf := HF.out
    rw [if_neg (by simp)] at hf
    clear HF
    subst hf
    clear hb
    go_wp2_with fail
    with_reducible refine HV.out.mono ?_
    rintro e w2 ⟨rfl, HD⟩
    have HB := Aside0.mk (below_step HA.out HD)
    clear HD HV HA x0 x1 x2 x3
    go_wp2_with fail
    go_ret
    exact ⟨rfl, HB.out⟩
  | true =>
    have hf := HF.out
    rw [if_pos (by trivial)] at hf
    clear HF
    subst hf
    obtain ⟨hz, -, hbe⟩ := HX.out.mp rfl
    clear hb
    have HZ := Aside0.mk (And.intro hz hbe)
    clear hz hbe
    go_wp2_with fail
    with_reducible refine HV.out.mono ?_
    rintro e w2 ⟨rfl, HD⟩
    have HB := Aside0.mk (below_step HA.out HD)
    replace BX := Aside0.mk (blk_below BX.out HD)
    have HG := Aside0.mk (format_calls 60 x A c w2 HZ.out.1 (by decide) HZ.out.2 (Kd.C_below HC.out HD) (WF_stay HW.out HD).2)
    clear HD HV HA x0 x1 x2 x3
    have x0 : w2.cell? ⟨w.heap.size, 0, none⟩ = some (.int .i64 x.f0) := blk_cell BX.out 0
    have x1 : w2.cell? ⟨w.heap.size, 1, none⟩ = some (.int .i64 x.f1) := blk_cell BX.out 1
    have x2 : w2.cell? ⟨w.heap.size, 2, none⟩ = some (.string x.f2) := blk_cell BX.out 2
    have x3 : w2.cell? ⟨w.heap.size, 3, none⟩ = some (.slice A x.f3.length c) := blk_cell BX.out 3
    go_wp2_with fail
    with_reducible refine HG.out.mono ?_
    rintro e w3 ⟨rfl, HD⟩
    replace HB := Aside0.mk (below_step HB.out HD)
    clear HD HG x0 x1 x2 x3
    go_wp2_with fail
    go_ret
    exact ⟨rfl, HB.out⟩
abbrev knownS : ByteArray := bs [97, 32, 97, 110, 100, 32, 110, 111, 116, 32, 98, 32, 111, 114, 32, 99]
abbrev knownX : E := ⟨6, 0, ⟨#[]⟩, [⟨5, 0, ⟨#[]⟩, [⟨3, 0, bs [97], []⟩, ⟨4, 0, ⟨#[]⟩, [⟨3, 0, bs [98], []⟩]⟩]⟩, ⟨3, 0, bs [99], []⟩]⟩
set_option maxRecDepth 100000 in
theorem known_parse : parseP knownS = (knownX, 0, 0) := by kernel_rfl
set_option maxRecDepth 100000 in
theorem known_format : FormatB knownX = bs [40, 40, 97, 32, 97, 110, 100, 32, 40, 110, 111, 116, 32, 98, 41, 41, 32, 111, 114, 32, 99, 41] := by kernel_rfl
theorem known_both : ∃ x, parseP knownS = (x, 0, 0) ∧ FormatB x = bs [40, 40, 97, 32, 97, 110, 100, 32, 40, 110, 111, 116, 32, 98, 41, 41, 32, 111, 114, 32, 99, 41] := ⟨knownX, known_parse, known_format⟩
set_option maxRecDepth 100000 in
set_option maxHeartbeats 4000000 in
theorem known_calls (w : World) (hw : WF w) : Calls Tryd.prog 13 #[] w fun e w' => e = .returned (.bool true) ∧ Below w.heap.size w w' := by
  have HP := Aside0.mk (parse_calls atoiWF knownS w hw)
  have HW := Aside0.mk hw
  obtain ⟨x, hk1, hk2⟩ := known_both
  have HK := Aside0.mk hk1
  have HK2 := Aside0.mk hk2
  clear hk1 hk2
  clear hw
  go_enter Tryd.func13, Tryd.ntmps13
  go_wp2_with fail
  with_reducible refine HP.out.mono ?_
  clear HP
  rintro e w2 ⟨v3, rfl, hx, HB⟩
  rw [HK.out] at hx ⊢
  obtain ⟨A, c, rfl⟩ := Kd.R_slice hx
  have hC := (Kd.R_reads' hx).2.2
  dsimp only at hC ⊢
  clear hx HK
  replace HW := Aside0.mk (WF_stay HW.out HB)
  have HB := Aside0.mk HB
  have HA := Aside0.mk (below_alloc (Below.refl w2.heap.size w2) (.cells (cE x (.slice A x.f3.length c)) 24))
  have BX := Aside0.mk (heap_alloc_new w2 (.cells (cE x (.slice A x.f3.length c)) 24))
  have HF := Aside0.mk (Format_calls x A c _ (Kd.C_below hC HA.out) (WF_stay HW.out HA.out))
  rw [HK2.out] at HF
  replace HB := Aside0.mk (below_step HB.out HA.out)
  have x0 : (w2.alloc (.cells (cE x (.slice A x.f3.length c)) 24)).cell? ⟨w2.heap.size, 0, none⟩ = some (.int .i64 x.f0) := blk_cell BX.out 0
  have x1 : (w2.alloc (.cells (cE x (.slice A x.f3.length c)) 24)).cell? ⟨w2.heap.size, 1, none⟩ = some (.int .i64 x.f1) := blk_cell BX.out 1
  have x2 : (w2.alloc (.cells (cE x (.slice A x.f3.length c)) 24)).cell? ⟨w2.heap.size, 2, none⟩ = some (.string x.f2) := blk_cell BX.out 2
  have x3 : (w2.alloc (.cells (cE x (.slice A x.f3.length c)) 24)).cell? ⟨w2.heap.size, 3, none⟩ = some (.slice A x.f3.length c) := blk_cell BX.out 3
  clear hC HA BX
  go_wp2_with fail
  with_reducible refine HF.out.mono ?_
  rintro e w3 ⟨rfl, HD⟩
  replace HB := Aside0.mk (below_step HB.out HD)
  clear HD HF x0 x1 x2 x3
  have ht : ((bs [40, 40, 97, 32, 97, 110, 100, 32, 40, 110, 111, 116, 32, 98, 41, 41, 32, 111, 114, 32, 99, 41]).toList == (⟨#[40, 40, 97, 32, 97, 110, 100, 32, 40, 110, 111, 116, 32, 98, 41, 41, 32, 111, 114, 32, 99, 41]⟩ : ByteArray).toList) = true := by simp
  go_wp2_with fail
  go_ret
  exact ⟨rfl, HB.out⟩
end Go.Proofs.YtbbopomecanaoaaDoor.A
namespace Go.Proofs.YtbbopomecanaoaaDoor.A
open Go.RowKit Go.Proofs.YtbbopomecanaoaaDoorW.PrintWords Go.Proofs.YtbbopomecanaoaaDoorW.PrintLast Go.Proofs.YtbbopomecanaoaaDoorW.PrintMore Go.Proofs.YtbbopomecanaoaaDoor.XK
open Go.Proofs.YtbbopomecanaoaaDoor
set_option linter.unusedVariables false
set_option linter.unusedSimpArgs false
abbrev cI (c : UInt8) : Int := (c.toNat : Int)
def nextL (i : Nat) : List UInt8 → Tk × Nat × Int
  | [] => (⟨0, 0, 0, ⟨#[]⟩⟩, 0, 5)
  | c :: cs =>
    if letterB (cI c) = true then
      (if 12 < ((c :: cs).takeWhile fun b => wordB (cI b)).length then (⟨0, 0, 0, ⟨#[]⟩⟩, 0, 7) else (⟨1, i, 0, bs ((c :: cs).takeWhile fun b => wordB (cI b))⟩, ((c :: cs).takeWhile fun b => wordB (cI b)).length, 0))
    else if digitB (cI c) = true then (numT (bs ((c :: cs).takeWhile fun b => digitB (cI b))) i, ((c :: cs).takeWhile fun b => digitB (cI b)).length, numE (bs ((c :: cs).takeWhile fun b => digitB (cI b))))
    else if symB (cI c) = true then (⟨3, i, 0, bs [c]⟩, 1, 0)
    else (⟨0, 0, 0, ⟨#[]⟩⟩, 0, 5)
def lexL : Nat → List Tk → List UInt8 → Nat → Option LexR
  | 0, _, _, _ => none
  | k + 1, l, [], i => some (.ok l)
  | k + 1, l, c :: cs, i =>
    if cI c = 32 then lexL k l cs (i + 1)
    else if (nextL i (c :: cs)).2.2 = 0 then lexL k (l ++ [(nextL i (c :: cs)).1]) ((c :: cs).drop (nextL i (c :: cs)).2.1) (i + (nextL i (c :: cs)).2.1)
    else some (.bad i (nextL i (c :: cs)).2.2)
def Lx (l : List Tk) (t : List UInt8) (i : Nat) (l' : List Tk) (t' : List UInt8) (i' : Nat) : Prop := ∃ d, ∀ k, lexL (k + d) l t i = lexL k l' t' i'
theorem Lx.refl (l : List Tk) (t : List UInt8) (i : Nat) : Lx l t i l t i := ⟨0, fun _ => rfl⟩
theorem Lx.trans {l l1 l2 : List Tk} {t t1 t2 : List UInt8} {i i1 i2 : Nat} (h : Lx l t i l1 t1 i1) (h2 : Lx l1 t1 i1 l2 t2 i2) : Lx l t i l2 t2 i2 := by
  obtain ⟨d, hd⟩ := h
  obtain ⟨d2, hd2⟩ := h2
  exact ⟨d2 + d, fun k => by rw [← Nat.add_assoc, hd, hd2]⟩
theorem Lx.next {l : List Tk} {c : UInt8} {cs t : List UInt8} {i n : Nat} {tk : Tk} (h32 : cI c ≠ 32) (h : nextL i (c :: cs) = (tk, n, 0)) (hd : (c :: cs).drop n = t) : Lx l (c :: cs) i (l ++ [tk]) t (i + n) :=
  ⟨1, fun k => by rw [lexL, if_neg h32, h, if_pos rfl, hd]⟩
def Sep (t : List UInt8) : Prop := ∀ c cs, t = c :: cs → wordB (cI c) = false
theorem tw_app (p : UInt8 → Bool) : ∀ (w t : List UInt8), (∀ c ∈ w, p c = true) → (∀ c cs, t = c :: cs → p c = false) → (w ++ t).takeWhile p = w
  | [], [], _, _ => rfl
  | [], c :: cs, _, h => by rw [List.nil_append, List.takeWhile_cons, h c cs rfl]; rfl
  | c :: cs, t, hw, h => by
    rw [List.cons_append, List.takeWhile_cons, hw c (by simp)]
    show c :: _ = _
    rw [tw_app p cs t (fun d hd => hw d (by simp [hd])) h]
theorem Lx.word (l : List Tk) (c : UInt8) (w t : List UInt8) (i : Nat) (h1 : letterB (cI c) = true) (hw : ∀ d ∈ w, wordB (cI d) = true) (hl : w.length ≤ 11) (ht : Sep t) :
    Lx l (c :: w ++ t) i (l ++ [⟨1, i, 0, bs (c :: w)⟩]) t (i + (c :: w).length) := by
  have hc : wordB (cI c) = true := by unfold wordB; rw [h1]; rfl
  have e := tw_app (fun b => wordB (cI b)) (c :: w) t (by
    intro d hd
    rcases List.mem_cons.mp hd with rfl | hd
    · exact hc
    · exact hw d hd) ht
  refine Lx.next (cs := w ++ t) ?_ ?_ ?_
  · intro e2
    rw [e2] at h1
    exact absurd h1 (by decide)
  · rw [nextL, if_pos h1, show c :: (w ++ t) = c :: w ++ t from rfl, e, if_neg (by simp; omega)]
  · show (c :: w ++ t).drop (c :: w).length = t
    rw [List.drop_left]
theorem Lx.num (l : List Tk) (c : UInt8) (w t : List UInt8) (i : Nat) (hw : ∀ d ∈ c :: w, digitB (cI d) = true) (hb : numBad (bs (c :: w)) = false) (ht : Sep t) :
    Lx l (c :: w ++ t) i (l ++ [⟨2, i, decV (bs (c :: w)), bs (c :: w)⟩]) t (i + (c :: w).length) := by
  have h2 := hw c (by simp)
  have h2' : 48 ≤ cI c ∧ cI c ≤ 57 := by unfold digitB at h2; simpa using h2
  have h1 : ¬ letterB (cI c) = true := by unfold letterB; simp only [decide_eq_true_eq]; omega
  have e := tw_app (fun b => digitB (cI b)) (c :: w) t hw (fun d ds hd => by
    have := ht d ds hd
    unfold wordB at this
    simp only [Bool.or_eq_false_iff] at this
    exact this.1.2)
  refine Lx.next (cs := w ++ t) (by omega) ?_ ?_
  · rw [nextL, if_neg h1, if_pos h2, show c :: (w ++ t) = c :: w ++ t from rfl, e]
    unfold numT numE
    rw [hb]
    rfl
  · show (c :: w ++ t).drop (c :: w).length = t
    rw [List.drop_left]
end Go.Proofs.YtbbopomecanaoaaDoor.A
namespace Go.Proofs.YtbbopomecanaoaaDoor.A
open Go.RowKit Go.Proofs.YtbbopomecanaoaaDoorW.PrintWords Go.Proofs.YtbbopomecanaoaaDoorW.PrintLast Go.Proofs.YtbbopomecanaoaaDoorW.PrintMore Go.Proofs.YtbbopomecanaoaaDoor.XK
open Go.Proofs.YtbbopomecanaoaaDoor
set_option linter.unusedVariables false
set_option linter.unusedSimpArgs false
def bare (t : Tk) : Int × Int × ByteArray := (t.f0, t.f2, t.f3)
section
variable {ts ts' : List Tk} {en en' : Int}
end
end Go.Proofs.YtbbopomecanaoaaDoor.A
namespace Go.Proofs.YtbbopomecanaoaaDoor.A
open Go.RowKit Go.Proofs.YtbbopomecanaoaaDoorW.PrintWords Go.Proofs.YtbbopomecanaoaaDoorW.PrintLast Go.Proofs.YtbbopomecanaoaaDoorW.PrintMore Go.Proofs.YtbbopomecanaoaaDoor.XK
open Go.Proofs.YtbbopomecanaoaaDoor
set_option linter.unusedVariables false
set_option linter.unusedSimpArgs false
def LeF {α : Type} (f g : Nat → Int → Option α) : Prop := ∀ i l r, f i l = some r → g i l = some r
section
variable {ts : List Tk} {en : Int}
theorem chainL_mono {opd opd' : Nat → Int → Option Res} {op : ByteArray → Int} (ho : LeF opd opd') : ∀ (k : Nat) (x : E) (i : Nat) (l : Int) (r : Res), chainL ts en opd op k x i l = some r → chainL ts en opd' op (k + 1) x i l = some r
  | 0, x, i, l, r, h => by cases h
  | k + 1, x, i, l, r, h => by
    rw [chainL] at h ⊢
    by_cases h0 : op (pk ts en i).f3 = 0
    · rw [if_pos h0] at h ⊢; exact h
    rw [if_neg h0] at h ⊢
    cases h1 : opd (i + 1) l with
    | none => rw [h1] at h; cases h
    | some r1 =>
      rw [h1] at h
      rw [ho _ _ _ h1]
      cases r1 with
      | fail a => exact h
      | ok y i1 l1 => exact chainL_mono ho k _ _ _ _ h
theorem chainP_mono {opd opd' : Nat → Int → Option Res} {op : ByteArray → Int} (ho : LeF opd opd') (k : Nat) : LeF (chainP ts en opd op k) (chainP ts en opd' op (k + 1)) := by
  intro i l r h
  unfold chainP at h ⊢
  cases h1 : opd i l with
  | none => rw [h1] at h; cases h
  | some r1 =>
    rw [h1] at h
    rw [ho _ _ _ h1]
    cases r1 with
    | fail a => exact h
    | ok y i1 l1 => exact chainL_mono ho k _ _ _ _ h
theorem rel_mono {opd opd' : Nat → Int → Option Res} (ho : LeF opd opd') : LeF (relP ts en opd) (relP ts en opd') := by
  intro i l r h
  unfold relP at h ⊢
  cases h1 : opd i l with
  | none => rw [h1] at h; cases h
  | some r1 =>
    rw [h1] at h
    rw [ho _ _ _ h1]
    cases r1 with
    | fail a => exact h
    | ok y i1 l1 =>
      dsimp only at h ⊢
      by_cases h0 : cmpOp (pk ts en i1).f3 = 0
      · rw [if_pos h0] at h ⊢; exact h
      rw [if_neg h0] at h ⊢
      cases h2 : opd (i1 + 1) l1 with
      | none => rw [h2] at h; cases h
      | some r2 =>
        rw [h2] at h
        rw [ho _ _ _ h2]
        exact h
theorem not_mono {self self' rel rel' : Nat → Int → Option Res} (hs : LeF self self') (hr : LeF rel rel') : LeF (notP ts en self rel) (notP ts en self' rel') := by
  intro i l r h
  unfold notP at h ⊢
  by_cases h0 : (pk ts en i).f3.toList = [110, 111, 116]
  · rw [if_pos h0] at h ⊢
    cases h1 : self (i + 1) l with
    | none => rw [h1] at h; cases h
    | some r1 => rw [h1] at h; rw [hs _ _ _ h1]; exact h
  · rw [if_neg h0] at h ⊢; exact hr _ _ _ h
theorem args_mono {ex ex' : Nat → Int → Option Res} (he : LeF ex ex') : ∀ (n j : Nat) (xs : List E) (i : Nat) (l : Int) (r : ResL), argsP ts en ex n j xs i l = some r → argsP ts en ex' n j xs i l = some r
  | 0, j, xs, i, l, r, h => h
  | n + 1, j, xs, i, l, r, h => by
    rw [argsP] at h ⊢
    by_cases h0 : 0 < j ∧ (pk ts en i).f3.toList ≠ [44]
    · rw [if_pos h0] at h ⊢; exact h
    rw [if_neg h0] at h ⊢
    cases h1 : ex (if 0 < j then i + 1 else i) l with
    | none => rw [h1] at h; cases h
    | some r1 =>
      rw [h1] at h
      rw [he _ _ _ h1]
      cases r1 with
      | fail a => exact h
      | ok y i1 l1 => exact args_mono he n _ _ _ _ _ h
theorem call_mono {ex ex' : Nat → Int → Option Res} (he : LeF ex ex') (op : Int) : LeF (callP ts en ex op) (callP ts en ex' op) := by
  intro i l r h
  unfold callP at h ⊢
  by_cases h0 : (pk ts en i).f3.toList ≠ [40]
  · rw [if_pos h0] at h ⊢; exact h
  rw [if_neg h0] at h ⊢
  cases h1 : argsP ts en ex (arityN op) 0 [] (i + 1) l with
  | none => rw [h1] at h; cases h
  | some r1 =>
    rw [h1] at h
    rw [args_mono he _ _ _ _ _ _ h1]
    exact h
theorem prim_mono {ex ex' : Nat → Int → Option Res} (he : LeF ex ex') : LeF (primP ts en ex) (primP ts en ex') := by
  intro i l r h
  unfold primP at h ⊢
  by_cases h0 : (pk ts en i).f0 = 2
  · rw [if_pos h0] at h ⊢; exact h
  rw [if_neg h0] at h ⊢
  by_cases h1 : (pk ts en i).f3.toList = [116, 114, 117, 101]
  · rw [if_pos h1] at h ⊢; exact h
  rw [if_neg h1] at h ⊢
  by_cases h2 : (pk ts en i).f3.toList = [102, 97, 108, 115, 101]
  · rw [if_pos h2] at h ⊢; exact h
  rw [if_neg h2] at h ⊢
  by_cases h3 : (pk ts en i).f3.toList = [40]
  · rw [if_pos h3] at h ⊢
    cases h4 : ex (i + 1) l with
    | none => rw [h4] at h; cases h
    | some r1 => rw [h4] at h; rw [he _ _ _ h4]; exact h
  rw [if_neg h3] at h ⊢
  by_cases h4 : fnOp (pk ts en i).f3 ≠ 0
  · rw [if_pos h4] at h ⊢; exact call_mono he _ _ _ _ h
  rw [if_neg h4] at h ⊢
  exact h
theorem P_mono (ts : List Tk) (en : Int) : ∀ (k : Nat) (lv : Lv), LeF (P ts en k lv) (P ts en (k + 1) lv)
  | 0, lv => fun i l r h => by cases h
  | k + 1, lv => by
    cases lv with
    | or => exact chainP_mono (P_mono ts en k .xor) k
    | xor => exact chainP_mono (P_mono ts en k .and) k
    | and => exact chainP_mono (P_mono ts en k .not) k
    | not => exact not_mono (P_mono ts en k .not) (P_mono ts en k .rel)
    | rel => exact rel_mono (P_mono ts en k .sum)
    | sum => exact chainP_mono (P_mono ts en k .prim) k
    | prim => exact prim_mono (P_mono ts en k .or)
theorem P_up {k : Nat} {lv : Lv} {i : Nat} {l : Int} {r : Res} (h : P ts en k lv i l = some r) : ∀ n, P ts en (k + n) lv i l = some r
  | 0 => h
  | n + 1 => P_mono ts en (k + n) lv i l r (P_up h n)
def Says (ts : List Tk) (en : Int) (lv : Lv) (i : Nat) (l : Int) (x : E) (i' : Nat) (l' : Int) : Prop := ∃ k, P ts en k lv i l = some (.ok x i' l')
section
variable {i i' : Nat} {l l' : Int} {x : E}
theorem chain_stop {opd : Nat → Int → Option Res} {op : ByteArray → Int} (k : Nat) (h : opd i l = some (.ok x i' l')) (h0 : op (pk ts en i').f3 = 0) : chainP ts en opd op (k + 1) i l = some (.ok x i' l') := by
  unfold chainP
  rw [h]
  dsimp only
  rw [chainL, if_pos h0]
theorem Says.sum (h : Says ts en .prim i l x i' l') (h0 : sumOp (pk ts en i').f3 = 0) : Says ts en .sum i l x i' l' := by
  obtain ⟨k, hk⟩ := h
  exact ⟨k + 1 + 1, chain_stop k (P_up hk 1) h0⟩
theorem Says.rel (h : Says ts en .sum i l x i' l') (h0 : cmpOp (pk ts en i').f3 = 0) : Says ts en .rel i l x i' l' := by
  obtain ⟨k, hk⟩ := h
  refine ⟨k + 1, ?_⟩
  show relP ts en (P ts en k .sum) i l = _
  unfold relP
  rw [hk]
  dsimp only
  rw [if_pos h0]
theorem Says.not (h : Says ts en .rel i l x i' l') (h0 : (pk ts en i).f3.toList ≠ [110, 111, 116]) : Says ts en .not i l x i' l' := by
  obtain ⟨k, hk⟩ := h
  refine ⟨k + 1, ?_⟩
  show notP ts en (P ts en k .not) (P ts en k .rel) i l = _
  unfold notP
  rw [if_neg h0, hk]
theorem Says.and (h : Says ts en .not i l x i' l') (h0 : onlyOp [97, 110, 100] 5 (pk ts en i').f3 = 0) : Says ts en .and i l x i' l' := by
  obtain ⟨k, hk⟩ := h
  exact ⟨k + 1 + 1, chain_stop k (P_up hk 1) h0⟩
theorem Says.xor (h : Says ts en .and i l x i' l') (h0 : onlyOp [120, 111, 114] 7 (pk ts en i').f3 = 0) : Says ts en .xor i l x i' l' := by
  obtain ⟨k, hk⟩ := h
  exact ⟨k + 1 + 1, chain_stop k (P_up hk 1) h0⟩
theorem Says.or (h : Says ts en .xor i l x i' l') (h0 : onlyOp [111, 114] 6 (pk ts en i').f3 = 0) : Says ts en .or i l x i' l' := by
  obtain ⟨k, hk⟩ := h
  exact ⟨k + 1 + 1, chain_stop k (P_up hk 1) h0⟩
def Stop (s : ByteArray) : Prop := s.toList = [] ∨ s.toList = [41] ∨ s.toList = [44]
theorem Stop.ops {s : ByteArray} (h : Stop s) : sumOp s = 0 ∧ cmpOp s = 0 ∧ onlyOp [97, 110, 100] 5 s = 0 ∧ onlyOp [120, 111, 114] 7 s = 0 ∧ onlyOp [111, 114] 6 s = 0 := by
  unfold sumOp cmpOp onlyOp
  rcases h with h | h | h <;> rw [h] <;> exact ⟨rfl, rfl, rfl, rfl, rfl⟩
theorem Says.up (h : Says ts en .prim i l x i' l') (h0 : (pk ts en i).f3.toList ≠ [110, 111, 116]) (hs : Stop (pk ts en i').f3) : Says ts en .or i l x i' l' := by
  obtain ⟨a, b, c, d, e⟩ := hs.ops
  exact (((((h.sum a).rel b).not h0).and c).xor d).or e
end
end
end Go.Proofs.YtbbopomecanaoaaDoor.A
namespace Go.Proofs.YtbbopomecanaoaaDoor.A
open Go.RowKit Go.Proofs.YtbbopomecanaoaaDoorW.PrintWords Go.Proofs.YtbbopomecanaoaaDoorW.PrintLast Go.Proofs.YtbbopomecanaoaaDoorW.PrintMore Go.Proofs.YtbbopomecanaoaaDoor.XK
open Go.Proofs.YtbbopomecanaoaaDoor
set_option linter.unusedVariables false
set_option linter.unusedSimpArgs false
end Go.Proofs.YtbbopomecanaoaaDoor.A
namespace Go.Proofs.YtbbopomecanaoaaDoor.A
open Go.RowKit Go.Proofs.YtbbopomecanaoaaDoorW.PrintWords Go.Proofs.YtbbopomecanaoaaDoorW.PrintLast Go.Proofs.YtbbopomecanaoaaDoorW.PrintMore Go.Proofs.YtbbopomecanaoaaDoor.XK
open Go.Proofs.YtbbopomecanaoaaDoor
set_option linter.unusedVariables false
set_option linter.unusedSimpArgs false
abbrev Bare := Int × Int × ByteArray
abbrev wd (s : List UInt8) : Bare := (1, 0, bs s)
abbrev nm (n : Int) : Bare := (2, n, numB n)
def LexTo (t : List UInt8) (b : List Bare) : Prop := ∀ (post : List UInt8) (l : List Tk) (i : Nat), Sep post → ∃ ts, ts.map bare = b ∧ Lx l (t ++ post) i (l ++ ts) post (i + t.length)
def LexAny (t : List UInt8) (b : List Bare) : Prop := ∀ (post : List UInt8) (l : List Tk) (i : Nat), ∃ ts, ts.map bare = b ∧ Lx l (t ++ post) i (l ++ ts) post (i + t.length)
theorem LexAny.then_ {t1 t2 : List UInt8} {b1 b2 : List Bare} (h1 : LexAny t1 b1) (h2 : LexTo t2 b2) : LexTo (t1 ++ t2) (b1 ++ b2) := by
  intro post l i hp
  obtain ⟨s1, e1, x1⟩ := h1 (t2 ++ post) l i
  obtain ⟨s2, e2, x2⟩ := h2 post (l ++ s1) (i + t1.length) hp
  refine ⟨s1 ++ s2, by rw [List.map_append, e1, e2], ?_⟩
  have := x1.trans x2
  rwa [List.append_assoc l, ← List.append_assoc t1, Nat.add_assoc, ← List.length_append] at this
theorem LexTo.then_ {t1 t2 : List UInt8} {b1 b2 : List Bare} (h1 : LexTo t1 b1) (h2 : LexTo t2 b2) {c : UInt8} {cs : List UInt8} (hc : t2 = c :: cs) (hw : wordB (cI c) = false) : LexTo (t1 ++ t2) (b1 ++ b2) := by
  intro post l i hp
  obtain ⟨s1, e1, x1⟩ := h1 (t2 ++ post) l i (fun d ds e => by rw [hc] at e; cases e; exact hw)
  obtain ⟨s2, e2, x2⟩ := h2 post (l ++ s1) (i + t1.length) hp
  refine ⟨s1 ++ s2, by rw [List.map_append, e1, e2], ?_⟩
  have := x1.trans x2
  rwa [List.append_assoc l, ← List.append_assoc t1, Nat.add_assoc, ← List.length_append] at this
end Go.Proofs.YtbbopomecanaoaaDoor.A
namespace Go.Proofs.YtbbopomecanaoaaDoor.A
open Go.RowKit Go.Proofs.YtbbopomecanaoaaDoorW.PrintWords Go.Proofs.YtbbopomecanaoaaDoorW.PrintLast Go.Proofs.YtbbopomecanaoaaDoorW.PrintMore Go.Proofs.YtbbopomecanaoaaDoor.XK
open Go.Proofs.YtbbopomecanaoaaDoor
set_option linter.unusedVariables false
set_option linter.unusedSimpArgs false
theorem op_range {op : Int} {n : Nat} (h : (n : Int) = arityI op) : 1 ≤ op ∧ op ≤ 22 := by
  cases Decidable.em (1 ≤ op ∧ op ≤ 22) with
  | inl h => exact h
  | inr h2 =>
    have e2 : arityI op = -1 := by
      unfold arityI
      rw [if_neg (by omega), if_neg (by omega), if_neg (by omega), if_neg (by omega)]
    omega
end Go.Proofs.YtbbopomecanaoaaDoor.A
namespace Go.Proofs.YtbbopomecanaoaaDoor.A
open Go.RowKit Go.Proofs.YtbbopomecanaoaaDoorW.PrintWords Go.Proofs.YtbbopomecanaoaaDoorW.PrintLast Go.Proofs.YtbbopomecanaoaaDoorW.PrintMore Go.Proofs.YtbbopomecanaoaaDoor.XK
open Go.Proofs.YtbbopomecanaoaaDoor
set_option linter.unusedVariables false
set_option linter.unusedSimpArgs false
def At (ts : List Tk) (i : Nat) (b : List Bare) : Prop := ∃ rest, (ts.map bare).drop i = b ++ rest
section
variable {ts : List Tk} {en : Int} {i : Nat}
theorem At.app {a b : List Bare} (h : At ts i (a ++ b)) : At ts i a ∧ At ts (i + a.length) b := by
  obtain ⟨rest, h⟩ := h
  refine ⟨⟨b ++ rest, by rw [h, List.append_assoc]⟩, rest, ?_⟩
  rw [← List.drop_drop, h, List.append_assoc, List.drop_left]
theorem At.tail {b0 : Bare} {b : List Bare} (h : At ts i (b0 :: b)) : At ts (i + 1) b := (At.app (a := [b0]) h).2
end
end Go.Proofs.YtbbopomecanaoaaDoor.A
namespace Go.Proofs.YtbbopomecanaoaaDoor.A
open Go.RowKit Go.Proofs.YtbbopomecanaoaaDoorW.PrintWords Go.Proofs.YtbbopomecanaoaaDoorW.PrintLast Go.Proofs.YtbbopomecanaoaaDoorW.PrintMore Go.Proofs.YtbbopomecanaoaaDoor.XK
open Go.Proofs.YtbbopomecanaoaaDoor
attribute [local go_sem] max2_int min2_int max_two min_two max_three min_three max_four min_four fld1 fld3
set_option linter.unusedVariables false
set_option linter.unusedSimpArgs false
structure Bx (x : E) (A : Option Addr) (c xb : Nat) (w : World) : Prop where
  bx : w.heap[xb]? = some (.cells #[.int .i64 x.f0, .int .i64 x.f1, .string x.f2, .slice A x.f3.length c] 24 (0, 0))
  le : x.f3.length ≤ c
  rd : (k24).C w A x.f3.length x.f3
theorem Bx.below {x : E} {A : Option Addr} {c xb : Nat} {w w1 : World} (h : Bx x A c xb w) (hb : Below w.heap.size w w1) : Bx x A c xb w1 := ⟨blk_below h.bx hb, h.le, Kd.C_below h.rd hb⟩
theorem Bx.new {x : E} {A : Option Addr} {c : Nat} {w2 : World} {ok : Nat → Prop} {B : Nat} (hx : RX w2 B ok (.slice A x.f3.length c) x.f3) : Bx x A c w2.heap.size (w2.alloc (.cells (cE x (.slice A x.f3.length c)) 24)) :=
  ⟨heap_alloc_new w2 _, (Kd.R_reads' hx).2.1, Kd.C_below (Kd.R_reads' hx).2.2 (below_alloc (Below.refl w2.heap.size w2) _)⟩
theorem Bx.c0 {x : E} {A : Option Addr} {c xb : Nat} {w : World} (h : Bx x A c xb w) : w.cell? ⟨xb, 0, none⟩ = some (.int .i64 x.f0) := blk_cell h.bx 0
theorem Bx.c1 {x : E} {A : Option Addr} {c xb : Nat} {w : World} (h : Bx x A c xb w) : w.cell? ⟨xb, 1, none⟩ = some (.int .i64 x.f1) := blk_cell h.bx 1
theorem Bx.c2 {x : E} {A : Option Addr} {c xb : Nat} {w : World} (h : Bx x A c xb w) : w.cell? ⟨xb, 2, none⟩ = some (.string x.f2) := blk_cell h.bx 2
theorem Bx.c3 {x : E} {A : Option Addr} {c xb : Nat} {w : World} (h : Bx x A c xb w) : w.cell? ⟨xb, 3, none⟩ = some (.slice A x.f3.length c) := blk_cell h.bx 3
end Go.Proofs.YtbbopomecanaoaaDoor.A
namespace Go.Proofs.YtbbopomecanaoaaDoor.A
open Go.RowKit Go.Proofs.YtbbopomecanaoaaDoorW.PrintWords Go.Proofs.YtbbopomecanaoaaDoorW.PrintLast Go.Proofs.YtbbopomecanaoaaDoorW.PrintMore Go.Proofs.YtbbopomecanaoaaDoor.XK
open Go.Proofs.YtbbopomecanaoaaDoor Go.Maps Go.WideShapes
attribute [local go_sem] max2_int min2_int max_two min_two max_three min_three max_four min_four fld1 fld3
set_option linter.unusedVariables false
set_option linter.unusedSimpArgs false
abbrev Sg := S37
def sigF (D : DataW Unit) (l : List Sg) : DataW Unit := l.foldl (fun D s => D.put (.string s.f0.data.toList) (.lit (.int .i64 s.f1))) D
def sigD (l : List Sg) : DataW Unit := sigF (.map []) l
def lastK : List Sg → List UInt8 → Option Int
  | [], n => none
  | s :: ss, n => match lastK ss n with
    | some k => some k
    | none => if s.f0.data.toList = n then some s.f1 else none
theorem keyLit (n : List UInt8) : WideAt.IsKeyLit (.string n) := trivial
theorem has_sigF : ∀ (l : List Sg) (D : DataW Unit) (n : List UInt8), IsMap D → Maps.has (sigF D l) (.string n) = ((lastK l n).isSome || Maps.has D (.string n))
  | [], D, n, h => by simp [sigF, lastK]
  | s :: ss, D, n, h => by
    have ih := has_sigF ss (D.put (.string s.f0.data.toList) (.lit (.int .i64 s.f1))) n (h.put _ _)
    show Maps.has (sigF (D.put (.string s.f0.data.toList) (.lit (.int .i64 s.f1))) ss) (.string n) = _
    rw [ih, lastK]
    cases lastK ss n with
    | some k => simp
    | none =>
      by_cases e : s.f0.data.toList = n
      · rw [if_pos e, ← e, has_put_same h (keyLit _)]
        try simp
      · rw [if_neg e, has_put_other (fun e2 => e (by injection e2 with e3; exact e3.symm))]
        try simp
theorem at_sigF : ∀ (l : List Sg) (D : DataW Unit) (n : List UInt8) (z : DataW Unit), IsMap D → (sigF D l).atKey (.string n) z = match lastK l n with | some k => .lit (.int .i64 k) | none => D.atKey (.string n) z
  | [], D, n, z, h => rfl
  | s :: ss, D, n, z, h => by
    have ih := at_sigF ss (D.put (.string s.f0.data.toList) (.lit (.int .i64 s.f1))) n z (h.put _ _)
    show (sigF (D.put (.string s.f0.data.toList) (.lit (.int .i64 s.f1))) ss).atKey (.string n) z = _
    rw [ih, lastK]
    cases lastK ss n with
    | some k => rfl
    | none =>
      by_cases e : s.f0.data.toList = n
      · rw [if_pos e, ← e]; exact atKey_put_same h (keyLit _) _ _
      · rw [if_neg e]; exact atKey_put_other (fun e2 => e (by injection e2 with e3; exact e3.symm)) _ _
theorem has_sig (l : List Sg) (n : List UInt8) : Maps.has (sigD l) (.string n) = (lastK l n).isSome := by
  unfold sigD
  rw [has_sigF l _ n isMap_empty]
  simp [Maps.has]
theorem at_sig (l : List Sg) (n : List UInt8) (z : DataW Unit) : (sigD l).atKey (.string n) z = match lastK l n with | some k => .lit (.int .i64 k) | none => z := by
  unfold sigD
  rw [at_sigF l _ n z isMap_empty]
  rfl
theorem sigD_snoc (l : List Sg) (s : Sg) : sigD (l ++ [s]) = (sigD l).put (.string s.f0.data.toList) (.lit (.int .i64 s.f1)) := by
  unfold sigD sigF
  rw [List.foldl_append]
  rfl
def kindsGo : List Sg → List Sg → Bool
  | seen, [] => true
  | seen, s :: ss => if (lastK seen s.f0.data.toList).isSome = true ∨ nameE s.f0 = false ∨ ¬ (s.f1 = 1 ∨ s.f1 = 2) then false else kindsGo (seen ++ [s]) ss
theorem makeMap_hint (n : Int) (w : World) : (Instr.makeMap 65 (some (.int .i64 n))).run Tryd.prog w = .ok (.map (some w.heap.size)) (w.alloc (.map #[] 0)) := by
  kernel_rfl
theorem law9 : Keyed Tryd.prog 9 := string_keyed Tryd.underlying9
theorem zero3 (w : World) : (zeroValue 3).run Tryd.prog w = .ok (.int .i64 0) w := by kernel_rfl
abbrev OwnM (w : World) (b n : Nat) (l : List Sg) : Prop := w.ownsMap Tryd.prog 9 (plainElem Tryd.prog 3) b n (sigD l)
theorem look_run {w : World} {b n : Nat} {l : List Sg} (h : OwnM w b n l) (s : ByteArray) (hs : s.size ≤ maxLen) :
    (Instr.lookup 65 (.map (some b)) (.string s) true).run Tryd.prog w = .ok (.tuple #[.int .i64 ((lastK l s.data.toList).getD 0), .bool (lastK l s.data.toList).isSome]) w := by
  have hkey := Go.WideMaps.keyOf_string_mk Tryd.underlying9 hs
  obtain ⟨v, ps, hrun, hv⟩ := h.look_ok law9 Tryd.underlying65 (zero3 w) (plainElem_int (H := Unit) (q := .i64) (a := 0) Tryd.underlying3 (by decide)) hkey
  rw [hrun, has_sig]
  obtain ⟨c, rfl, hc, hwc⟩ := plainElem_int_inv Tryd.underlying3 hv
  simp only [Prod.mk.injEq] at hc
  have h1 := hc.1
  rw [at_sig] at h1
  cases hl : lastK l s.data.toList with
  | none => rw [hl] at h1; simp at h1; rw [h1]; rfl
  | some k => rw [hl] at h1; simp at h1; rw [h1]; rfl
theorem put_run {w : World} {b n : Nat} {l : List Sg} (h : OwnM w b n l) (hn : n < maxLen) (s : Sg) (hs : s.f0.size ≤ maxLen) (hk : (Lit.int .i64 s.f1).wf = true) :
    ∃ w', (Instr.mapUpdate 65 (.map (some b)) (.string s.f0) (.int .i64 s.f1)).run Tryd.prog w = .ok () w' ∧ OwnM w' b (n + 1) (l ++ [s]) ∧ w.grownBy w' (some b) := by
  have hkey := Go.WideMaps.keyOf_string_mk Tryd.underlying9 hs
  obtain ⟨w', hrun, h1, h2⟩ := h.update law9 Tryd.underlying65 hn hkey (plainElem_int (H := Unit) (q := .i64) (a := s.f1) Tryd.underlying3 hk)
  refine ⟨w', hrun, ?_, h2⟩
  show w'.ownsMap _ _ _ b (n + 1) (sigD (l ++ [s]))
  rw [sigD_snoc]
  exact h1
end Go.Proofs.YtbbopomecanaoaaDoor.A
namespace Go.Proofs.YtbbopomecanaoaaDoor.A
open Go.RowKit Go.Proofs.YtbbopomecanaoaaDoorW.PrintWords Go.Proofs.YtbbopomecanaoaaDoorW.PrintLast Go.Proofs.YtbbopomecanaoaaDoorW.PrintMore Go.Proofs.YtbbopomecanaoaaDoor.XK
open Go.Proofs.YtbbopomecanaoaaDoor Go.Maps Go.WideShapes
attribute [local go_sem] max2_int min2_int max_two min_two max_three min_three max_four min_four fld1 fld3
set_option linter.unusedVariables false
set_option linter.unusedSimpArgs false
set_option maxRecDepth 100000 in
set_option maxHeartbeats 4000000 in
theorem kinds_calls (l : List Sg) (A : Option Addr) (c : Nat) (w : World) (hC : (k37).C w A l.length l) (hs : ∀ s ∈ l, s.f0.size ≤ maxLen) (hl : l.length ≤ 1000) :
    Calls Tryd.prog 37 #[.slice A l.length c] w fun e w' => (if kindsGo [] l = true then ∃ b, e = .returned (.tuple #[.map (some b), .bool true]) ∧ OwnM w' b l.length l else e = .returned (.tuple #[.map none, .bool false])) ∧ Below w.heap.size w w' := by
  obtain ⟨r, hr⟩ : ∃ r, kindsGo [] l = r := ⟨_, rfl⟩
  rw [hr]
  have HR := Aside0.mk hr
  have HC := Aside0.mk hC
  have HS := Aside0.mk hs
  have HLN := Aside0.mk hl
  have HB := Aside0.mk (below_alloc (Below.refl w.heap.size w) (.map #[] 0))
  have HO : Aside0 (OwnM (w.alloc (.map #[] 0)) w.heap.size 0 []) := ⟨World.ownsMap_made _ _ _ _⟩
  have hmm := makeMap_hint (l.length : Int) w
  clear hr hC hs hl
  go_enter Tryd.func37, Tryd.ntmps37
  go_wp2_with fail
  clear hmm
  obtain ⟨mb, hmb⟩ : ∃ mb, w.heap.size = mb := ⟨_, rfl⟩
  have HMB : Aside0 (w.heap.size ≤ mb) := ⟨by omega⟩
  rw [hmb] at HO ⊢
  clear hmb
  go_loopg [14] l.length (fun gk v14 wr => ∃ (j : Nat), v14 = .int .i64 (j : Int) ∧ Aside0 (j + gk = l.length) ∧ Aside0 (kindsGo (l.take j) (l.drop j) = r) ∧ Aside0 (OwnM wr mb j (l.take j)) ∧ Aside0 (Below w.heap.size w wr))
  case atStart => exact ⟨0, rfl, ⟨by omega⟩, HR, HO, HB⟩
  case round =>
    clear HR HO HB
    obtain ⟨j, rfl, HJ, HR, HO, HB⟩ := hrel
    have hr := HR.out
    cases gk with
    | zero =>
      have hj : j = l.length := HJ.out
      have HO1 : Aside0 (OwnM wr mb l.length l) := ⟨by have := HO.out; rw [hj, List.take_length] at this; exact this⟩
      rw [hj, List.drop_length, kindsGo] at hr
      clear HR HO HJ
      subst hj
      subst hr
      go_wp2_with fail
      exact bodyPost_ret (v := .tuple #[.map (some mb), .bool true]) (by simp [results, Tryd.results37, go_sem]) rfl ⟨⟨_, rfl, HO1.out⟩, HB.out⟩
    | succ n =>
      have hj : j < l.length := by have := HJ.out; omega
      obtain ⟨ad, eA, z0, z1⟩ := at_T37 HC.out (j : Int) (by omega) (by exact_mod_cast hj)
      have hd : l.drop j = rd_T37 l (j : Int) :: l.drop (j + 1) := by
        rw [List.drop_eq_getElem_cons hj]
        congr 1
        unfold rd_T37
        simp [hj]
      have htk : l.take (j + 1) = l.take j ++ [rd_T37 l (j : Int)] := by
        rw [List.take_succ_eq_append_getElem hj]
        congr 2
        unfold rd_T37
        simp [hj]
      have hmem : rd_T37 l (j : Int) ∈ l := by
        unfold rd_T37
        simp [hj]
      have hsz := HS.out _ hmem
      rw [hd, kindsGo] at hr
      generalize rd_T37 l (j : Int) = s at *
      subst eA
      rw [Int.toNat_natCast] at z0 z1
      replace z0 := (HB.out.cell (World.block_lt_of_cell? _ _ z0)).trans z0
      replace z1 := (HB.out.cell (World.block_lt_of_cell? _ _ z1)).trans z1
      have HA := Aside0.mk (below_alloc (Below.refl wr.heap.size wr) (.cells #[.string s.f0, .int .i64 s.f1] 37))
      have BS := Aside0.mk (heap_alloc_new wr (.cells #[.string s.f0, .int .i64 s.f1] 37))
      have HO1 : Aside0 (OwnM (wr.alloc (.cells #[.string s.f0, .int .i64 s.f1] 37)) mb j (l.take j)) := ⟨HO.out.alloc _⟩
      have hlook := look_run HO1.out s.f0 hsz
      have y0 : (wr.alloc (.cells #[.string s.f0, .int .i64 s.f1] 37)).cell? ⟨wr.heap.size, 0, none⟩ = some (.string s.f0) := blk_cell BS.out 0
      have y1 : (wr.alloc (.cells #[.string s.f0, .int .i64 s.f1] 37)).cell? ⟨wr.heap.size, 1, none⟩ = some (.int .i64 s.f1) := blk_cell BS.out 1
      have t0 : decide ((j : Int) < (l.length : Int)) = true := by simpa using hj
      have p0 : (0 ≤ (j : Int)) = True := eq_true (by omega)
      have p1 : ((j : Int) < (l.length : Int)) = True := eq_true (by omega)
      have HN := Aside0.mk (name_calls s.f0 (wr.alloc (.cells #[.string s.f0, .int .i64 s.f1] 37)))
      have HSZ := Aside0.mk hsz
      have HTK := Aside0.mk htk
      replace HB := Aside0.mk (below_step HB.out HA.out)
      clear hd hmem hsz htk HR HO
      generalize (lastK (l.take j) s.f0.data.toList).getD 0 = kk at *
      have HR := Aside0.mk hr
      clear hr
      cases htw : (lastK (l.take j) s.f0.data.toList).isSome with
      | true =>
        have hr := HR.out
        rw [if_pos (Or.inl htw)] at hr
        clear HR
        subst hr
        rw [htw] at hlook
        clear htw
        go_wp2_with fail
        exact bodyPost_ret (v := .tuple #[.map none, .bool false]) (by simp [results, Tryd.results37, go_sem]) rfl ⟨rfl, HB.out⟩
      | false =>
        rw [htw] at hlook
        go_wp2_with fail
        with_reducible refine HN.out.mono ?_
        clear HN hlook
        rintro e w4 ⟨rfl, HD⟩
        replace HO1 : Aside0 (OwnM w4 mb j (l.take j)) := ⟨HO1.out.kept (grown_of_below HD none) (by simp)⟩
        replace BS := Aside0.mk (blk_below BS.out HD)
        replace HB := Aside0.mk (below_step HB.out HD)
        clear HD y0 y1 z0 z1
        have y0 : w4.cell? ⟨wr.heap.size, 0, none⟩ = some (.string s.f0) := blk_cell BS.out 0
        have y1 : w4.cell? ⟨wr.heap.size, 1, none⟩ = some (.int .i64 s.f1) := blk_cell BS.out 1
        by_cases hname : nameE s.f0 = true
        case neg =>
          have hr := HR.out
          have hnf : nameE s.f0 = false := by simpa using hname
          rw [if_pos (Or.inr (Or.inl hnf))] at hr
          rw [hnf]
          clear HR hname hnf htw
          subst hr
          go_wp2_with fail
          exact bodyPost_ret (v := .tuple #[.map none, .bool false]) (by simp [results, Tryd.results37, go_sem]) rfl ⟨rfl, HB.out⟩
        rw [hname]
        have h1000 : (1000 : Nat) < maxLen := by decide
        have hmx : j < maxLen := by have := HLN.out; omega
        clear h1000
        by_cases h1 : s.f1 = 1
        · have b1 : (s.f1 != 1) = false := by simpa using h1
          have b1' : (s.f1 == 1) = true := by simpa using h1
          have hr := HR.out
          rw [if_neg (by rw [htw, hname]; simp [h1])] at hr
          obtain ⟨w5, hrun, HO5, hg5⟩ := put_run HO1.out hmx s HSZ.out (by rw [h1]; decide)
          rw [← HTK.out] at HO5
          have HO5 := Aside0.mk HO5
          replace HB := Aside0.mk (below_grown HB.out hg5 HMB.out)
          have hj2 : wrap64 ((j : Int) + 1) = (j : Int) + 1 := by have := HLN.out; unfold wrap64; omega
          have HR2 := Aside0.mk (show kindsGo (l.take (j + 1)) (l.drop (j + 1)) = r by rw [HTK.out]; exact hr)
          clear HR hr hname htw h1 HO1 hg5 HTK hmx
          go_wp2_with fail
          go_roundg n
          case measure => omega
          case rel => exact ⟨j + 1, by first | rfl | (simp; done) | (simp [hj2]; done), ⟨by have := HJ.out; omega⟩, HR2, HO5, HB⟩
        have b1 : (s.f1 != 1) = true := by simpa using h1
        have b1' : (s.f1 == 1) = false := by simpa using h1
        by_cases h2 : s.f1 = 2
        · have b2 : (s.f1 != 2) = false := by simpa using h2
          have b2' : (s.f1 == 2) = true := by simpa using h2
          clear h1
          have hr := HR.out
          rw [if_neg (by rw [htw, hname]; simp [h2])] at hr
          obtain ⟨w5, hrun, HO5, hg5⟩ := put_run HO1.out hmx s HSZ.out (by rw [h2]; decide)
          rw [← HTK.out] at HO5
          have HO5 := Aside0.mk HO5
          replace HB := Aside0.mk (below_grown HB.out hg5 HMB.out)
          have hj2 : wrap64 ((j : Int) + 1) = (j : Int) + 1 := by have := HLN.out; unfold wrap64; omega
          have HR2 := Aside0.mk (show kindsGo (l.take (j + 1)) (l.drop (j + 1)) = r by rw [HTK.out]; exact hr)
          clear HR hr hname htw h2 HO1 hg5 HTK hmx
          go_wp2_with fail
          go_roundg n
          case measure => omega
          case rel => exact ⟨j + 1, by first | rfl | (simp; done) | (simp [hj2]; done), ⟨by have := HJ.out; omega⟩, HR2, HO5, HB⟩
        · have b2 : (s.f1 != 2) = true := by simpa using h2
          have b2' : (s.f1 == 2) = false := by simpa using h2
          have hr := HR.out
          rw [if_pos (Or.inr (Or.inr (by intro h; rcases h with h | h <;> contradiction)))] at hr
          clear HR hname htw h1 h2 hmx
          subst hr
          go_wp2_with fail
          exact bodyPost_ret (v := .tuple #[.map none, .bool false]) (by simp [results, Tryd.results37, go_sem]) rfl ⟨rfl, HB.out⟩
end Go.Proofs.YtbbopomecanaoaaDoor.A
namespace Go.Proofs.YtbbopomecanaoaaDoor.A
open Go.RowKit Go.Proofs.YtbbopomecanaoaaDoorW.PrintWords Go.Proofs.YtbbopomecanaoaaDoorW.PrintLast Go.Proofs.YtbbopomecanaoaaDoorW.PrintMore Go.Proofs.YtbbopomecanaoaaDoor.XK
open Go.Proofs.YtbbopomecanaoaaDoor
set_option linter.unusedVariables false
set_option linter.unusedSimpArgs false
def opndK (op : Int) : Int := (equation_operand.f op).getD 0
def resK (op : Int) : Int := (equation_result.f op).getD 0
theorem operand_f (op : Int) : equation_operand.f op = some (opndK op) := by
  unfold opndK equation_operand.f
  repeat' split
  all_goals rfl
theorem result_f (op : Int) : equation_result.f op = some (resK op) := by
  unfold resK equation_result.f
  repeat' split
  all_goals rfl
def nodeK (env : List Sg) (op : Int) (s : ByteArray) (ks : List Int) : Int × Int :=
  if op = 3 then (match lastK env s.data.toList with | some k => (k, 0) | none => (0, 9))
  else if op = 16 then (if ks.getD 0 0 ≠ 1 ∨ ks.getD 1 0 ≠ ks.getD 2 0 then (0, 10) else (ks.getD 1 0, 0))
  else if ks.all (fun k => k == opndK op) = true then (resK op, 0) else (0, 10)
mutual
def typeE (env : List Sg) : E → Int × Int
  | ⟨o, n, s, ks⟩ => match typeL env ks with
    | (l, e) => if e = 0 then nodeK env o s l else (0, e)
def typeL (env : List Sg) : List E → List Int × Int
  | [] => ([], 0)
  | y :: ys => match typeE env y with
    | (k, e) => if e = 0 then (match typeL env ys with | (l, e2) => (k :: l, e2)) else ([], e)
end
theorem typeE_eq (env : List Sg) (x : E) : typeE env x = if (typeL env x.f3).2 = 0 then nodeK env x.f0 x.f2 (typeL env x.f3).1 else (0, (typeL env x.f3).2) := by
  cases x
  rw [typeE]
theorem typeL_cons (env : List Sg) (y : E) (ys : List E) : typeL env (y :: ys) = if (typeE env y).2 = 0 then ((typeE env y).1 :: (typeL env ys).1, (typeL env ys).2) else ([], (typeE env y).2) := by
  rw [typeL]
end Go.Proofs.YtbbopomecanaoaaDoor.A
namespace Go.Proofs.YtbbopomecanaoaaDoor.A
open Go.RowKit Go.Proofs.YtbbopomecanaoaaDoorW.PrintWords Go.Proofs.YtbbopomecanaoaaDoorW.PrintLast Go.Proofs.YtbbopomecanaoaaDoorW.PrintMore Go.Proofs.YtbbopomecanaoaaDoor.XK
open Go.Proofs.YtbbopomecanaoaaDoor Go.Maps Go.WideShapes
attribute [local go_sem] max2_int min2_int max_two min_two max_three min_three max_four min_four fld1 fld3
set_option linter.unusedVariables false
set_option linter.unusedSimpArgs false
structure Tx (env : List Sg) (x : E) (A : Option Addr) (c : Nat) (w : World) (xb b n : Nat) (wr : World) : Prop where
  bx : wr.heap[xb]? = some (.cells #[.int .i64 x.f0, .int .i64 x.f1, .string x.f2, .slice A x.f3.length c] 24 (0, 0))
  ge : w.heap.size ≤ xb
  bl : Below w.heap.size w wr
  om : OwnM wr b n env
abbrev RI (w : World) (B : Nat) (v : Value) (ks : List Int) : Prop := Kd.R (Kd.int .i64) 3 w B (fun k => B ≤ k) v ks
section
variable {env : List Sg} {x : E} {A : Option Addr} {c : Nat} {w wr w1 : World} {xb b n : Nat}
theorem Tx.below (h : Tx env x A c w xb b n wr) (hb : Below wr.heap.size wr w1) : Tx env x A c w xb b n w1 := ⟨blk_below h.bx hb, h.ge, below_step h.bl hb, h.om.kept (grown_of_below hb none) (by simp)⟩
theorem Tx.kids (h : Tx env x A c w xb b n wr) (hC : (k24).C w A x.f3.length x.f3) : (k24).C wr A x.f3.length x.f3 := Kd.C_below hC h.bl
theorem Tx.grow (h : Tx env x A c w xb b n wr) {v : Value} {ks : List Int} (hv : RI wr w.heap.size v ks) (hbw : b < w.heap.size) (hg : wr.grownBy w1 v.ownBlock) (hb : Below w.heap.size w w1) : Tx env x A c w xb b n w1 :=
  ⟨(hg.block xb (blk_lt h.bx) (Kd.R_ne hv h.bx (by decide))).trans h.bx, h.ge, hb, h.om.kept hg (fun e => by have := hv.1 b e.symm; omega)⟩
end
theorem infoI : (Tryd.prog.info? 3).map (fun i => (i.zero, i.size, i.bytes)) = some (some (.int .i64 0), 1, 8) := by kernel_rfl
set_option maxRecDepth 100000 in
set_option maxHeartbeats 4000000 in
theorem typed_calls (env : List Sg) : ∀ (m : Nat) (x : E) (A : Option Addr) (c b n : Nat) (w : World), szE x ≤ m → bE x = true → (k24).C w A x.f3.length x.f3 → OwnM w b n env →
    Calls Tryd.prog 38 #[.agg (cE x (.slice A x.f3.length c)), .map (some b)] w fun e w' => e = .returned (.tuple #[.int .i64 (typeE env x).1, .int .i64 (typeE env x).2]) ∧ Below w.heap.size w w' := by
  intro m
  induction m with
  | zero =>
    intro x A c b n w h
    have := szE_eq x
    omega
  | succ m ih =>
    intro x A c b n w hz hb hC hom
    have hA := below_alloc (Below.refl w.heap.size w) (.cells (cE x (.slice A x.f3.length c)) 24)
    have hbw : b < w.heap.size := hom.lt
    have HT : Aside0 (Tx env x A c w w.heap.size b n (w.alloc (.cells (cE x (.slice A x.f3.length c)) 24))) := ⟨heap_alloc_new w _, Nat.le_refl _, hA, hom.alloc _⟩
    rw [bE_eq, Bool.and_eq_true] at hb
    obtain ⟨n1, n2, n3, n4, n5⟩ := node_facts hb.1
    have hsz := szE_eq x
    have HK : Aside0 (∀ y ∈ x.f3, ∀ (A' : Option Addr) (c' : Nat) (w' : World), (k24).C w' A' y.f3.length y.f3 → OwnM w' b n env →
        Calls Tryd.prog 38 #[.agg (cE y (.slice A' y.f3.length c')), .map (some b)] w' fun e w'' => e = .returned (.tuple #[.int .i64 (typeE env y).1, .int .i64 (typeE env y).2]) ∧ Below w'.heap.size w' w'') :=
      ⟨fun y hy A' c' w' h1 h2 => by
        have := szE_mem hy
        exact ih y A' c' b n w' (by omega) (bE_mem hb.2 hy) h1 h2⟩
    have HN := Aside0.mk (And.intro n1 n2)
    have HC := Aside0.mk hC
    have HBW := Aside0.mk hbw
    have HA := Aside0.mk (arity3 x.f0)
    obtain ⟨t, ht⟩ : ∃ t, typeE env x = t := ⟨_, rfl⟩
    rw [ht]
    rw [typeE_eq] at ht
    have HE := Aside0.mk ht
    have HX : Aside0 (RI (w.alloc (.cells (cE x (.slice A x.f3.length c)) 24)) w.heap.size (.slice none 0 0) []) := ⟨Kd.R_nil _ _ _ _ _⟩
    clear hz hb hC hom hA hbw n1 n2 n3 n4 n5 hsz ih ht
    have x3 : (w.alloc (.cells (cE x (.slice A x.f3.length c)) 24)).cell? ⟨w.heap.size, 3, none⟩ = some (.slice A x.f3.length c) := blk_cell HT.out.bx 3
    go_enter Tryd.func38, Tryd.ntmps38
    go_wp2_with fail
    clear x3
    obtain ⟨xb, hxb⟩ : ∃ xb, w.heap.size = xb := ⟨_, rfl⟩
    have HT : Aside0 (Tx env x A c w xb b n (w.alloc (.cells (cE x (.slice A x.f3.length c)) 24))) := ⟨by have := HT.out; rw [← hxb]; exact this⟩
    rw [show (⟨w.heap.size, 0, none⟩ : Addr) = ⟨xb, 0, none⟩ by rw [hxb]] at ⊢
    rw [show (⟨w.heap.size, 3, none⟩ : Addr) = ⟨xb, 3, none⟩ by rw [hxb]] at ⊢
    clear hxb
    go_loopg [6, 18] x.f3.length (fun gk v6 v18 wr => ∃ (j : Nat) (ks : List Int) (A6 : Option Addr) (c6 : Nat), v6 = .slice A6 ks.length c6 ∧ v18 = .int .i64 (j : Int) ∧ Aside0 (j + gk = x.f3.length ∧ ks.length = j) ∧ Aside0 (typeL env x.f3 = (ks ++ (typeL env (x.f3.drop j)).1, (typeL env (x.f3.drop j)).2)) ∧ Aside0 (RI wr w.heap.size (.slice A6 ks.length c6) ks) ∧ Aside0 (Tx env x A c w xb b n wr))
    case atStart => exact ⟨0, [], none, 0, rfl, rfl, ⟨by omega, rfl⟩, ⟨by simp⟩, HX, HT⟩
    case round =>
      clear HX HT
      obtain ⟨j, ks, A6, c6, rfl, rfl, HJ, HL, HX, HT⟩ := hrel
      cases gk with
      | zero =>
        have hj : j = x.f3.length := by have := HJ.out.1; omega
        have hl := HL.out
        rw [hj, List.drop_length, typeL, List.append_nil] at hl
        have hks : ks.length = x.f3.length := by rw [HJ.out.2, hj]
        have he := HE.out
        rw [hl, if_pos rfl] at he
        have HKS := Aside0.mk hks
        clear HL HE hl HJ
        subst hj
        have t0 : decide (((x.f3.length : Nat) : Int) < (x.f3.length : Int)) = false := by simp
        have x0 : wr.cell? ⟨xb, 0, none⟩ = some (.int .i64 x.f0) := blk_cell HT.out.bx 0
        by_cases c3 : x.f0 = 3
        · have b3 : (x.f0 == 3) = true := by simpa using c3
          unfold nodeK at he
          rw [if_pos c3] at he
          have x2 : wr.cell? ⟨xb, 2, none⟩ = some (.string x.f2) := blk_cell HT.out.bx 2
          have h12 : 12 ≤ maxLen := by decide
          have hmx : x.f2.size ≤ maxLen := by have := HN.out.1; have h2 : 12 ≤ maxLen := h12; omega
          have hlook := look_run HT.out.om x.f2 hmx
          clear hks hmx h12
          cases hlk : lastK env x.f2.data.toList with
          | none =>
            rw [hlk] at hlook he
            clear hlk c3
            subst he
            go_wp2_with fail
            exact bodyPost_ret (v := .tuple #[.int .i64 0, .int .i64 9]) (by simp [results, Tryd.results38, go_sem]) rfl ⟨rfl, HT.out.bl⟩
          | some kk =>
            rw [hlk] at hlook he
            clear hlk c3
            subst he
            go_wp2_with fail
            exact bodyPost_ret (v := .tuple #[.int .i64 kk, .int .i64 0]) (by simp [results, Tryd.results38, go_sem]) rfl ⟨rfl, HT.out.bl⟩
        have b3 : (x.f0 == 3) = false := by simpa using c3
        unfold nodeK at he
        rw [if_neg c3] at he
        by_cases c16 : x.f0 = 16
        · have b16 : (x.f0 == 16) = true := by simpa using c16
          rw [if_pos c16] at he
          have h3 : ks.length = 3 := by
            have h1 := HN.out.2
            rw [c16] at h1
            have h1 : (x.f3.length : Int) = 3 := h1
            omega
          obtain ⟨k0, k1, k2, hk3⟩ : ∃ k0 k1 k2, ks = [k0, k1, k2] := by
            match ks, h3 with
            | [k0, k1, k2], _ => exact ⟨k0, k1, k2, rfl⟩
          subst hk3
          have he : (if k0 ≠ 1 ∨ k1 ≠ k2 then ((0 : Int), (10 : Int)) else (k1, 0)) = t := he
          have hC6 := (Kd.R_reads' HX.out).2.2
          obtain ⟨a6, e6, r0⟩ := Kd.at_int hC6 0 (by decide) (by simp)
          obtain ⟨a7, e7, r1⟩ := Kd.at_int hC6 1 (by decide) (by simp)
          obtain ⟨a8, e8, r2⟩ := Kd.at_int hC6 2 (by decide) (by simp)
          subst e6
          obtain rfl := Option.some.inj e7
          obtain rfl := Option.some.inj e8
          have r0 : wr.cell? a6 = some (.int .i64 k0) := by rw [show ((0 : Int)).toNat = 0 from rfl, Addr.add_zero'] at r0; exact r0
          have r1 : wr.cell? ⟨a6.block, a6.off + 1, none⟩ = some (.int .i64 k1) := by rw [show a6.add ((1 : Int)).toNat = ⟨a6.block, a6.off + 1, none⟩ by simp [Addr.add]] at r1; exact r1
          have r2 : wr.cell? ⟨a6.block, a6.off + 2, none⟩ = some (.int .i64 k2) := by rw [show a6.add ((2 : Int)).toNat = ⟨a6.block, a6.off + 2, none⟩ by simp [Addr.add]] at r2; exact r2
          clear hC6 e7 e8 hks h3 c3 c16 HKS
          by_cases q0 : k0 = 1
          · have d0 : (k0 != 1) = false := by simpa using q0
            by_cases q1 : k1 = k2
            · have d1 : (k1 != k2) = false := by simpa using q1
              rw [if_neg (by rintro (h | h); exact h q0; exact h q1)] at he
              clear q0 q1
              subst he
              go_wp2_with fail
              refine Q.q_start (by kernel_rfl) (by kernel_rfl) ?_
              refine Q.q_value (N := some 52) (v := ?_) (a' := ?_) rfl (by rfl) ?_ ?_ ?_
              rotate_left
              · intro w' hb
                clear hb
                go_simp
                with_reducible rfl
              rotate_left
              · simp only [Act.put, List.setIfInBounds_toArray, List.set_cons_zero, List.set_cons_succ, i64_w, i32_w]
                rfl
              refine Q.q_value (N := some 53) (v := ?_) (a' := ?_) rfl (by rfl) ?_ ?_ ?_
              rotate_left
              · intro w' hb
                clear hb
                go_simp
                with_reducible rfl
              rotate_left
              · simp only [Act.put, List.setIfInBounds_toArray, List.set_cons_zero, List.set_cons_succ, i64_w, i32_w]
                rfl
              refine Q.q_value (N := some 54) (v := ?_) (a' := ?_) rfl (by rfl) ?_ ?_ ?_
              rotate_left
              · intro w' hb
                have s0 := pw_cell_below hb r0
                clear hb
                go_simp
                with_reducible rfl
              rotate_left
              · simp only [Act.put, List.setIfInBounds_toArray, List.set_cons_zero, List.set_cons_succ, i64_w, i32_w]
                rfl
              refine Q.q_value (N := some 55) (v := ?_) (a' := ?_) rfl (by rfl) ?_ ?_ ?_
              rotate_left
              · intro w' hb
                clear hb
                go_simp
                with_reducible rfl
              rotate_left
              · simp only [Act.put, List.setIfInBounds_toArray, List.set_cons_zero, List.set_cons_succ, i64_w, i32_w]
                rfl
              refine Q.q_value (N := some 56) (v := ?_) (a' := ?_) rfl (by rfl) ?_ ?_ ?_
              rotate_left
              · intro w' hb
                clear hb
                go_simp
                with_reducible rfl
              rotate_left
              · simp only [Act.put, List.setIfInBounds_toArray, List.set_cons_zero, List.set_cons_succ, i64_w, i32_w]
                rfl
              refine Q.q_value (N := some 57) (v := ?_) (a' := ?_) rfl (by rfl) ?_ ?_ ?_
              rotate_left
              · intro w' hb
                clear hb
                go_simp
                with_reducible rfl
              rotate_left
              · simp only [Act.put, List.setIfInBounds_toArray, List.set_cons_zero, List.set_cons_succ, i64_w, i32_w]
                rfl
              refine Q.q_value (N := some 58) (v := ?_) (a' := ?_) rfl (by rfl) ?_ ?_ ?_
              rotate_left
              · intro w' hb
                clear hb
                go_simp
                with_reducible rfl
              rotate_left
              · simp only [Act.put, List.setIfInBounds_toArray, List.set_cons_zero, List.set_cons_succ, i64_w, i32_w]
                rfl
              refine Q.q_value (N := some 59) (v := ?_) (a' := ?_) rfl (by rfl) ?_ ?_ ?_
              rotate_left
              · intro w' hb
                have s0 := pw_cell_below hb r1
                clear hb
                go_simp
                with_reducible rfl
              rotate_left
              · simp only [Act.put, List.setIfInBounds_toArray, List.set_cons_zero, List.set_cons_succ, i64_w, i32_w]
                rfl
              refine Q.q_value (N := some 60) (v := ?_) (a' := ?_) rfl (by rfl) ?_ ?_ ?_
              rotate_left
              · intro w' hb
                clear hb
                go_simp
                with_reducible rfl
              rotate_left
              · simp only [Act.put, List.setIfInBounds_toArray, List.set_cons_zero, List.set_cons_succ, i64_w, i32_w]
                rfl
              refine Q.q_value (N := some 61) (v := ?_) (a' := ?_) rfl (by rfl) ?_ ?_ ?_
              rotate_left
              · intro w' hb
                clear hb
                go_simp
                with_reducible rfl
              rotate_left
              · simp only [Act.put, List.setIfInBounds_toArray, List.set_cons_zero, List.set_cons_succ, i64_w, i32_w]
                rfl
              refine Q.q_value (N := some 62) (v := ?_) (a' := ?_) rfl (by rfl) ?_ ?_ ?_
              rotate_left
              · intro w' hb
                have s0 := pw_cell_below hb r2
                clear hb
                go_simp
                with_reducible rfl
              rotate_left
              · simp only [Act.put, List.setIfInBounds_toArray, List.set_cons_zero, List.set_cons_succ, i64_w, i32_w]
                rfl
              refine Q.q_value (N := some 63) (v := ?_) (a' := ?_) rfl (by rfl) ?_ ?_ ?_
              rotate_left
              · intro w' hb
                clear hb
                go_simp
                with_reducible rfl
              rotate_left
              · simp only [Act.put, List.setIfInBounds_toArray, List.set_cons_zero, List.set_cons_succ, i64_w, i32_w]
                rfl
              refine Q.q_value (N := some 64) (v := ?_) (a' := ?_) rfl (by rfl) ?_ ?_ ?_
              rotate_left
              · intro w' hb
                clear hb
                go_simp
                with_reducible rfl
              rotate_left
              · simp only [Act.put, List.setIfInBounds_toArray, List.set_cons_zero, List.set_cons_succ, i64_w, i32_w]
                rfl
              refine wpQuiet_nil ?_
              intro w9 HB9
              replace r1 := (HB9.cell (World.block_lt_of_cell? _ _ r1)).trans r1
              replace HT := Aside0.mk (HT.out.below HB9)
              clear HB9 r0 r2 x0
              go_wp2_with fail
              exact bodyPost_ret (v := .tuple #[.int .i64 k1, .int .i64 0]) (by simp [results, Tryd.results38, go_sem]) rfl ⟨rfl, HT.out.bl⟩
            · have d1 : (k1 != k2) = true := by simpa using q1
              rw [if_pos (Or.inr q1)] at he
              clear q0 q1
              subst he
              go_wp2_with fail
              refine Q.q_start (by kernel_rfl) (by kernel_rfl) ?_
              refine Q.q_value (N := some 52) (v := ?_) (a' := ?_) rfl (by rfl) ?_ ?_ ?_
              rotate_left
              · intro w' hb
                clear hb
                go_simp
                with_reducible rfl
              rotate_left
              · simp only [Act.put, List.setIfInBounds_toArray, List.set_cons_zero, List.set_cons_succ, i64_w, i32_w]
                rfl
              refine Q.q_value (N := some 53) (v := ?_) (a' := ?_) rfl (by rfl) ?_ ?_ ?_
              rotate_left
              · intro w' hb
                clear hb
                go_simp
                with_reducible rfl
              rotate_left
              · simp only [Act.put, List.setIfInBounds_toArray, List.set_cons_zero, List.set_cons_succ, i64_w, i32_w]
                rfl
              refine Q.q_value (N := some 54) (v := ?_) (a' := ?_) rfl (by rfl) ?_ ?_ ?_
              rotate_left
              · intro w' hb
                have s0 := pw_cell_below hb r0
                clear hb
                go_simp
                with_reducible rfl
              rotate_left
              · simp only [Act.put, List.setIfInBounds_toArray, List.set_cons_zero, List.set_cons_succ, i64_w, i32_w]
                rfl
              refine Q.q_value (N := some 55) (v := ?_) (a' := ?_) rfl (by rfl) ?_ ?_ ?_
              rotate_left
              · intro w' hb
                clear hb
                go_simp
                with_reducible rfl
              rotate_left
              · simp only [Act.put, List.setIfInBounds_toArray, List.set_cons_zero, List.set_cons_succ, i64_w, i32_w]
                rfl
              refine Q.q_value (N := some 56) (v := ?_) (a' := ?_) rfl (by rfl) ?_ ?_ ?_
              rotate_left
              · intro w' hb
                clear hb
                go_simp
                with_reducible rfl
              rotate_left
              · simp only [Act.put, List.setIfInBounds_toArray, List.set_cons_zero, List.set_cons_succ, i64_w, i32_w]
                rfl
              refine Q.q_value (N := some 57) (v := ?_) (a' := ?_) rfl (by rfl) ?_ ?_ ?_
              rotate_left
              · intro w' hb
                clear hb
                go_simp
                with_reducible rfl
              rotate_left
              · simp only [Act.put, List.setIfInBounds_toArray, List.set_cons_zero, List.set_cons_succ, i64_w, i32_w]
                rfl
              refine Q.q_value (N := some 58) (v := ?_) (a' := ?_) rfl (by rfl) ?_ ?_ ?_
              rotate_left
              · intro w' hb
                clear hb
                go_simp
                with_reducible rfl
              rotate_left
              · simp only [Act.put, List.setIfInBounds_toArray, List.set_cons_zero, List.set_cons_succ, i64_w, i32_w]
                rfl
              refine Q.q_value (N := some 59) (v := ?_) (a' := ?_) rfl (by rfl) ?_ ?_ ?_
              rotate_left
              · intro w' hb
                have s0 := pw_cell_below hb r1
                clear hb
                go_simp
                with_reducible rfl
              rotate_left
              · simp only [Act.put, List.setIfInBounds_toArray, List.set_cons_zero, List.set_cons_succ, i64_w, i32_w]
                rfl
              refine Q.q_value (N := some 60) (v := ?_) (a' := ?_) rfl (by rfl) ?_ ?_ ?_
              rotate_left
              · intro w' hb
                clear hb
                go_simp
                with_reducible rfl
              rotate_left
              · simp only [Act.put, List.setIfInBounds_toArray, List.set_cons_zero, List.set_cons_succ, i64_w, i32_w]
                rfl
              refine Q.q_value (N := some 61) (v := ?_) (a' := ?_) rfl (by rfl) ?_ ?_ ?_
              rotate_left
              · intro w' hb
                clear hb
                go_simp
                with_reducible rfl
              rotate_left
              · simp only [Act.put, List.setIfInBounds_toArray, List.set_cons_zero, List.set_cons_succ, i64_w, i32_w]
                rfl
              refine Q.q_value (N := some 62) (v := ?_) (a' := ?_) rfl (by rfl) ?_ ?_ ?_
              rotate_left
              · intro w' hb
                have s0 := pw_cell_below hb r2
                clear hb
                go_simp
                with_reducible rfl
              rotate_left
              · simp only [Act.put, List.setIfInBounds_toArray, List.set_cons_zero, List.set_cons_succ, i64_w, i32_w]
                rfl
              refine Q.q_value (N := some 63) (v := ?_) (a' := ?_) rfl (by rfl) ?_ ?_ ?_
              rotate_left
              · intro w' hb
                clear hb
                go_simp
                with_reducible rfl
              rotate_left
              · simp only [Act.put, List.setIfInBounds_toArray, List.set_cons_zero, List.set_cons_succ, i64_w, i32_w]
                rfl
              refine Q.q_value (N := some 64) (v := ?_) (a' := ?_) rfl (by rfl) ?_ ?_ ?_
              rotate_left
              · intro w' hb
                clear hb
                go_simp
                with_reducible rfl
              rotate_left
              · simp only [Act.put, List.setIfInBounds_toArray, List.set_cons_zero, List.set_cons_succ, i64_w, i32_w]
                rfl
              refine wpQuiet_nil ?_
              intro w9 HB9
              replace HT := Aside0.mk (HT.out.below HB9)
              clear HB9 r0 r1 r2 x0
              go_wp2_with fail
              exact bodyPost_ret (v := .tuple #[.int .i64 0, .int .i64 10]) (by simp [results, Tryd.results38, go_sem]) rfl ⟨rfl, HT.out.bl⟩
          · have d0 : (k0 != 1) = true := by simpa using q0
            rw [if_pos (Or.inl q0)] at he
            clear q0
            subst he
            go_wp2_with fail
            refine Q.q_start (by kernel_rfl) (by kernel_rfl) ?_
            refine Q.q_value (N := some 52) (v := ?_) (a' := ?_) rfl (by rfl) ?_ ?_ ?_
            rotate_left
            · intro w' hb
              clear hb
              go_simp
              with_reducible rfl
            rotate_left
            · simp only [Act.put, List.setIfInBounds_toArray, List.set_cons_zero, List.set_cons_succ, i64_w, i32_w]
              rfl
            refine Q.q_value (N := some 53) (v := ?_) (a' := ?_) rfl (by rfl) ?_ ?_ ?_
            rotate_left
            · intro w' hb
              clear hb
              go_simp
              with_reducible rfl
            rotate_left
            · simp only [Act.put, List.setIfInBounds_toArray, List.set_cons_zero, List.set_cons_succ, i64_w, i32_w]
              rfl
            refine Q.q_value (N := some 54) (v := ?_) (a' := ?_) rfl (by rfl) ?_ ?_ ?_
            rotate_left
            · intro w' hb
              have s0 := pw_cell_below hb r0
              clear hb
              go_simp
              with_reducible rfl
            rotate_left
            · simp only [Act.put, List.setIfInBounds_toArray, List.set_cons_zero, List.set_cons_succ, i64_w, i32_w]
              rfl
            refine Q.q_value (N := some 55) (v := ?_) (a' := ?_) rfl (by rfl) ?_ ?_ ?_
            rotate_left
            · intro w' hb
              clear hb
              go_simp
              with_reducible rfl
            rotate_left
            · simp only [Act.put, List.setIfInBounds_toArray, List.set_cons_zero, List.set_cons_succ, i64_w, i32_w]
              rfl
            refine Q.q_value (N := some 56) (v := ?_) (a' := ?_) rfl (by rfl) ?_ ?_ ?_
            rotate_left
            · intro w' hb
              clear hb
              go_simp
              with_reducible rfl
            rotate_left
            · simp only [Act.put, List.setIfInBounds_toArray, List.set_cons_zero, List.set_cons_succ, i64_w, i32_w]
              rfl
            refine Q.q_off (N := some 57) (a' := ?_) rfl (by rfl) ?_ ?_
            rotate_left
            · simp only [Act.put, List.setIfInBounds_toArray, List.set_cons_zero, List.set_cons_succ, i64_w, i32_w]
              rfl
            refine Q.q_off (N := some 58) (a' := ?_) rfl (by rfl) ?_ ?_
            rotate_left
            · simp only [Act.put, List.setIfInBounds_toArray, List.set_cons_zero, List.set_cons_succ, i64_w, i32_w]
              rfl
            refine Q.q_off (N := some 59) (a' := ?_) rfl (by rfl) ?_ ?_
            rotate_left
            · simp only [Act.put, List.setIfInBounds_toArray, List.set_cons_zero, List.set_cons_succ, i64_w, i32_w]
              rfl
            refine Q.q_off (N := some 60) (a' := ?_) rfl (by rfl) ?_ ?_
            rotate_left
            · simp only [Act.put, List.setIfInBounds_toArray, List.set_cons_zero, List.set_cons_succ, i64_w, i32_w]
              rfl
            refine Q.q_off (N := some 61) (a' := ?_) rfl (by rfl) ?_ ?_
            rotate_left
            · simp only [Act.put, List.setIfInBounds_toArray, List.set_cons_zero, List.set_cons_succ, i64_w, i32_w]
              rfl
            refine Q.q_off (N := some 62) (a' := ?_) rfl (by rfl) ?_ ?_
            rotate_left
            · simp only [Act.put, List.setIfInBounds_toArray, List.set_cons_zero, List.set_cons_succ, i64_w, i32_w]
              rfl
            refine Q.q_off (N := some 63) (a' := ?_) rfl (by rfl) ?_ ?_
            rotate_left
            · simp only [Act.put, List.setIfInBounds_toArray, List.set_cons_zero, List.set_cons_succ, i64_w, i32_w]
              rfl
            refine Q.q_value (N := some 64) (v := ?_) (a' := ?_) rfl (by rfl) ?_ ?_ ?_
            rotate_left
            · intro w' hb
              clear hb
              go_simp
              with_reducible rfl
            rotate_left
            · simp only [Act.put, List.setIfInBounds_toArray, List.set_cons_zero, List.set_cons_succ, i64_w, i32_w]
              rfl
            refine wpQuiet_nil ?_
            intro w9 HB9
            replace HT := Aside0.mk (HT.out.below HB9)
            clear HB9 r0 r1 r2 x0
            go_wp2_with fail
            exact bodyPost_ret (v := .tuple #[.int .i64 0, .int .i64 10]) (by simp [results, Tryd.results38, go_sem]) rfl ⟨rfl, HT.out.bl⟩
        have b16 : (x.f0 == 16) = false := by simpa using c16
        rw [if_neg c16] at he
        clear hks c3 c16
        have HE2 := Aside0.mk he
        clear he
        have hkl : ks.length ≤ 3 := by have := HKS.out; have := HN.out.2; have := HA.out; omega
        have HKL := Aside0.mk hkl
        clear hkl
        go_wp2_with fail
        clear x0
        go_loopg [70] ks.length (fun gk v70 w2 => ∃ (j : Nat), v70 = .int .i64 (j : Int) ∧ Aside0 (j + gk = ks.length) ∧ Aside0 ((ks.take j).all (fun k => k == opndK x.f0) = true) ∧ Aside0 (RI w2 w.heap.size (.slice A6 ks.length c6) ks) ∧ Aside0 (Tx env x A c w xb b n w2))
        case atStart => exact ⟨0, rfl, ⟨by omega⟩, ⟨rfl⟩, HX, HT⟩
        case round =>
          clear HX HT
          obtain ⟨j, rfl, HJ, HAL, HX, HT⟩ := hrel
          have x0 : wr.cell? ⟨xb, 0, none⟩ = some (.int .i64 x.f0) := blk_cell HT.out.bx 0
          cases gk with
          | zero =>
            have hj : j = ks.length := by have := HJ.out; omega
            have hal := HAL.out
            rw [hj, List.take_length] at hal
            have he := HE2.out
            rw [if_pos hal] at he
            have HRS := Aside0.mk (equation_result.calls x.f0 (resK x.f0) wr (result_f _))
            clear HAL HE2 HJ hal
            subst hj
            generalize resK x.f0 = rk at *
            subst he
            go_wp2_with fail
            with_reducible refine HRS.out.mono ?_
            rintro e w4 ⟨rfl, HD⟩
            replace HT := Aside0.mk (HT.out.below HD.below)
            clear HD HRS x0
            go_wp2_with fail
            exact bodyPost_ret (v := .tuple #[.int .i64 rk, .int .i64 0]) (by simp [results, Tryd.results38, go_sem]) rfl ⟨rfl, HT.out.bl⟩
          | succ gn =>
            have hj : j < ks.length := by have := HJ.out; omega
            have hC6 := (Kd.R_reads' HX.out).2.2
            obtain ⟨a6, e6, r0⟩ := Kd.at_int hC6 (j : Int) (by omega) (by exact_mod_cast hj)
            rw [Int.toNat_natCast] at r0
            have hrd : rd ks (j : Int) = ks[j] := by unfold rd; simp [hj]
            have hmem : ks[j] ∈ ks := List.getElem_mem hj
            have htk : ks.take (j + 1) = ks.take j ++ [ks[j]] := List.take_succ_eq_append_getElem hj
            rw [hrd] at r0
            have HOP := Aside0.mk (equation_operand.calls x.f0 (opndK x.f0) wr (operand_f _))
            have hw1 : wrap64 ((j : Int) + 1) = (j : Int) + 1 := by have := HKL.out; unfold wrap64; omega
            have p0 : (0 ≤ (j : Int)) = True := eq_true (by omega)
            have p1 : ((j : Int) < (ks.length : Int)) = True := eq_true (by omega)
            have t1 : decide ((j : Int) < (ks.length : Int)) = true := by simpa using hj
            have HMEM := Aside0.mk hmem
            have HTK := Aside0.mk htk
            subst e6
            generalize ks[j] = kj at *
            clear hC6 hrd hmem htk
            generalize opndK x.f0 = o at *
            go_wp2_with fail
            with_reducible refine HOP.out.mono ?_
            rintro e w4 ⟨rfl, HD⟩
            replace HT := Aside0.mk (HT.out.below HD.below)
            replace HX := Aside0.mk (Kd.R_below HX.out HD.below)
            clear HD HOP x0 r0
            by_cases hkj : kj = o
            · have d0 : (kj != o) = false := by simpa using hkj
              have HAL2 : Aside0 ((ks.take (j + 1)).all (fun k => k == o) = true) := ⟨by rw [HTK.out, List.all_append, HAL.out]; simp [hkj]⟩
              clear hkj
              go_wp2_with fail
              go_roundg gn
              case measure => omega
              case rel => exact ⟨j + 1, by first | rfl | (simp; done) | (simp [hw1]; done), ⟨by have := HJ.out; omega⟩, HAL2, HX, HT⟩
            · have d0 : (kj != o) = true := by simpa using hkj
              have he := HE2.out
              rw [if_neg (by
                intro h
                have := List.all_eq_true.mp h kj HMEM.out
                exact hkj (by simpa using this))] at he
              clear hkj HE2 HMEM
              subst he
              go_wp2_with fail
              exact bodyPost_ret (v := .tuple #[.int .i64 0, .int .i64 10]) (by simp [results, Tryd.results38, go_sem]) rfl ⟨rfl, HT.out.bl⟩
      | succ gn =>
        have hj : j < x.f3.length := by have := HJ.out; omega
        obtain ⟨ad, A3, c3', eA, z0, z1, z2, z3, hl3, hC3⟩ := at_T24 (HT.out.kids HC.out) (j : Int) (by omega) (by omega)
        have HAB := Aside0.mk (below_alloc (Below.refl wr.heap.size wr) (.cells (cE (rd_T24 x.f3 (j : Int)) (.slice A3 (rd_T24 x.f3 (j : Int)).f3.length c3')) 24))
        have HY := Aside0.mk (HK.out _ (getD_mem hj) A3 c3' _ (Kd.C_below hC3 HAB.out) (HT.out.below HAB.out).om)
        have hd : x.f3.drop j = rd_T24 x.f3 (j : Int) :: x.f3.drop (j + 1) := by
          rw [List.drop_eq_getElem_cons hj]
          congr 1
          unfold rd_T24
          simp [hj]
        have hl := HL.out
        rw [hd, typeL_cons] at hl
        generalize rd_T24 x.f3 (j : Int) = y at *
        have BY := Aside0.mk (heap_alloc_new wr (.cells (cE y (.slice A3 y.f3.length c3')) 24))
        have y0 : (wr.alloc (.cells (cE y (.slice A3 y.f3.length c3')) 24)).cell? ⟨wr.heap.size, 0, none⟩ = some (.int .i64 y.f0) := blk_cell BY.out 0
        have y1 : (wr.alloc (.cells (cE y (.slice A3 y.f3.length c3')) 24)).cell? ⟨wr.heap.size, 1, none⟩ = some (.int .i64 y.f1) := blk_cell BY.out 1
        have y2 : (wr.alloc (.cells (cE y (.slice A3 y.f3.length c3')) 24)).cell? ⟨wr.heap.size, 2, none⟩ = some (.string y.f2) := blk_cell BY.out 2
        have y3 : (wr.alloc (.cells (cE y (.slice A3 y.f3.length c3')) 24)).cell? ⟨wr.heap.size, 3, none⟩ = some (.slice A3 y.f3.length c3') := blk_cell BY.out 3
        subst eA
        rw [Int.toNat_natCast] at z0 z1 z2 z3
        have hfew : x.f3.length ≤ 3 := by have := HN.out.2; have := HA.out; omega
        have hw1 : wrap64 ((j : Int) + 1) = (j : Int) + 1 := by unfold wrap64; omega
        have p0 : (0 ≤ (j : Int)) = True := eq_true (by omega)
        have p1 : ((j : Int) < (x.f3.length : Int)) = True := eq_true (by omega)
        have t0 : decide ((j : Int) < (x.f3.length : Int)) = true := by simpa using hj
        have HL2 := Aside0.mk hl
        have HFEW := Aside0.mk hfew
        obtain ⟨q, hq⟩ : ∃ q, typeE env y = q := ⟨_, rfl⟩
        rw [hq] at HY HL2
        clear hC3 hl3 hd HL BY hl hq hfew
        obtain ⟨qk, qe⟩ := q
        dsimp only at HY HL2
        go_wp2_with fail
        with_reducible refine HY.out.mono ?_
        rintro e w4 ⟨rfl, HD⟩
        replace HT := Aside0.mk ((HT.out.below HAB.out).below HD)
        replace HX := Aside0.mk (Kd.R_below (Kd.R_below HX.out HAB.out) HD)
        clear HD HY HAB z0 z1 z2 z3 y0 y1 y2 y3
        by_cases hq0 : qe = 0
        case neg =>
          have hl := HL2.out
          rw [if_neg hq0] at hl
          have he := HE.out
          rw [hl, if_neg hq0] at he
          have b1 : (qe != 0) = true := by simpa using hq0
          clear HL2 HE hl hq0
          subst he
          go_wp2_with fail
          exact bodyPost_ret (v := .tuple #[.int .i64 0, .int .i64 qe]) (by simp [results, Tryd.results38, go_sem]) rfl ⟨rfl, HT.out.bl⟩
        have hl := HL2.out
        rw [if_pos hq0] at hl
        have b1 : (qe != 0) = false := by simpa using hq0
        have HL3 := Aside0.mk (show typeL env x.f3 = ((ks ++ [qk]) ++ (typeL env (x.f3.drop (j + 1))).1, (typeL env (x.f3.drop (j + 1))).2) by rw [hl]; simp)
        clear HL2 hl hq0
        have hbound : (ks.length + 1) * 8 ≤ 140737488355328 := by have := HJ.out; have := HFEW.out; omega
        go_wp2_with ((with_reducible refine gate_builtin (b := .append) (xs := #[.tmp 31, .tmp 33]) rfl ?_); at_builtin; refine Kd.R_append (Kd.int .i64) (w0 := w) w.heap.size rfl (.tmp 31) (.tmp 33) 84 3 (.int .i64 0) 8 rfl Tryd.underlying84 infoI rfl (by decide) (by decide) _ ks qk [.int .i64 qk] (fun k => w.heap.size ≤ k) (fun _ => False) rfl rfl rfl (fun k hk => hk.elim) (fun k hk => Nat.le_trans HT.out.bl.size hk) HX.out HT.out.bl HT.out.bl.size hbound ?_; intro v1 w1 hv1 hbel hgrow hat)
        have HT1 := Aside0.mk (HT.out.grow HX.out HBW.out hgrow hbel)
        obtain ⟨A1, c1, rfl⟩ := Kd.R_slice hv1
        go_roundg gn
        case measure => omega
        case rel => exact ⟨j + 1, ks ++ [qk], A1, c1, by first | rfl | (simp; done), by first | rfl | (simp; done) | (simp [hw1]; done), ⟨by have := HJ.out.1; omega, by rw [List.length_append, HJ.out.2]; rfl⟩, HL3, ⟨hv1⟩, HT1⟩
end Go.Proofs.YtbbopomecanaoaaDoor.A
namespace Go.Proofs.YtbbopomecanaoaaDoor.A
open Go.RowKit Go.Proofs.YtbbopomecanaoaaDoorW.PrintWords Go.Proofs.YtbbopomecanaoaaDoorW.PrintLast Go.Proofs.YtbbopomecanaoaaDoorW.PrintMore Go.Proofs.YtbbopomecanaoaaDoor.XK
open Go.Proofs.YtbbopomecanaoaaDoor
set_option linter.unusedVariables false
set_option linter.unusedSimpArgs false
theorem lastK_some : ∀ (l : List Sg) (n : List UInt8), (lastK l n).isSome = l.any (fun t => decide (t.f0.data.toList = n))
  | [], n => rfl
  | s :: ss, n => by
    have ih := lastK_some ss n
    rw [lastK, List.any_cons, ← ih]
    cases lastK ss n with
    | some k => simp
    | none => by_cases e : s.f0.data.toList = n <;> simp [e]
theorem rdS_pre (pre ys : List Sg) (y : Sg) : rd_T37 (pre ++ y :: ys) (pre.length : Int) = y := by unfold rd_T37; simp
theorem good_l1 (l0 L : List Sg) (i : Nat) (hl : L.length ≤ 1000) (s : ByteArray) (kd : Int) (r : Bool) (hi : i ≤ 1000) (hnext : (L.any fun t => decide (t.f0.data.toList = s.data.toList)) = false → ∃ k, substationref26_GoodEnv.l0 k l0 l0 (l0.length : Int) ((i + 1 : Nat) : Int) = some r) (hr : (L.any fun t => decide (t.f0.data.toList = s.data.toList)) = true → r = false) :
    ∀ (rest pre : List Sg), pre ++ rest = L → (pre.any fun t => decide (t.f0.data.toList = s.data.toList)) = false → ∃ k, substationref26_GoodEnv.l1 k l0 l0 (l0.length : Int) (i : Int) L (L.length : Int) (pre.length : Int) s kd = some r
  | [], pre, e, hp => by
    rw [List.append_nil] at e
    obtain ⟨k, hk⟩ := hnext (by rw [← e]; exact hp)
    refine ⟨k + 1, ?_⟩
    rw [substationref26_GoodEnv.l1, if_neg (by rw [← e]; simp), w64 (by omega) (by omega)]
    exact hk
  | y :: ys, pre, e, hp => by
    have hlen : (pre.length : Int) < (L.length : Int) := by rw [← e]; simp; omega
    have e1 : rd_T37 L (pre.length : Int) = y := by rw [← e]; exact rdS_pre pre ys y
    by_cases hy : y.f0.toList = s.toList
    · refine ⟨1, ?_⟩
      rw [substationref26_GoodEnv.l1, if_pos hlen, if_pos (by omega), if_pos hlen, e1, if_pos hy, hr]
      rw [← e, List.any_append, List.any_cons]
      rw [tol, tol] at hy
      simp [hy]
    · obtain ⟨k, hk⟩ := good_l1 l0 L i hl s kd r hi hnext hr ys (pre ++ [y]) (by rw [← e]; simp) (by
        rw [List.any_append, hp, Bool.false_or]
        rw [tol, tol] at hy
        simp only [List.any_cons, List.any_nil, Bool.or_false]
        exact decide_eq_false hy)
      refine ⟨k + 1, ?_⟩
      rw [substationref26_GoodEnv.l1, if_pos hlen, if_pos (by omega), if_pos hlen, e1, if_neg hy, w64 (by omega) (by omega), ← pre_len pre y]
      exact hk
theorem good_l0 (L : List Sg) (hl : L.length ≤ 1000) (hs : ∀ s ∈ L, s.f0.size ≤ 1000 ∨ nameE s.f0 = nameE s.f0) (hn : ∀ s ∈ L, ∃ k, substationref26_Name.f k s.f0 = some (nameE s.f0)) :
    ∀ (rest pre : List Sg), pre ++ rest = L → ∃ k, substationref26_GoodEnv.l0 k L L (L.length : Int) (pre.length : Int) = some (kindsGo pre rest)
  | [], pre, e => ⟨1, by rw [substationref26_GoodEnv.l0, if_neg (by rw [← e]; simp), kindsGo]⟩
  | y :: ys, pre, e => by
    have hlen : (pre.length : Int) < (L.length : Int) := by rw [← e]; simp; omega
    have hpl : pre.length ≤ 1000 := by have := congrArg List.length e; rw [List.length_append] at this; omega
    have e1 : rd_T37 L (pre.length : Int) = y := by rw [← e]; exact rdS_pre pre ys y
    obtain ⟨kn, hkn⟩ := hn y (by rw [← e]; simp)
    have htake : L.take ((pre.length : Int)).toNat = pre := by rw [← e, Int.toNat_natCast, List.take_left]
    have hj1 : ∀ b, (b = true → kindsGo pre (y :: ys) = false) → (b = false → nameE y.f0 = true ∧ (y.f1 = 1 ∨ y.f1 = 2)) → ∃ k, substationref26_GoodEnv.j1 k L (pre.length : Int) L (L.length : Int) (pre.length : Int) b y.f0 y.f1 = some (kindsGo pre (y :: ys)) := by
      intro b hb1 hb2
      cases b with
      | true => exact ⟨1, by rw [substationref26_GoodEnv.j1, if_pos rfl, hb1 rfl]⟩
      | false =>
        obtain ⟨g1, g2⟩ := hb2 rfl
        obtain ⟨k, hk⟩ := good_l1 L pre pre.length hpl y.f0 y.f1 (kindsGo pre (y :: ys)) hpl (by
          intro h
          obtain ⟨k, hk⟩ := good_l0 L hl hs hn ys (pre ++ [y]) (by rw [← e]; simp)
          rw [pre_len] at hk
          refine ⟨k, ?_⟩
          rw [kindsGo, if_neg]
          · exact hk
          · rw [lastK_some, h]
            rintro (h1 | h1 | h1)
            · cases h1
            · rw [g1] at h1; cases h1
            · exact h1 g2) (by
          intro h
          rw [kindsGo, if_pos (Or.inl (by rw [lastK_some]; exact h))]) pre [] rfl rfl
        refine ⟨k + 1, ?_⟩
        rw [substationref26_GoodEnv.j1, if_neg (by decide), if_pos (by omega), if_pos (by omega), Option.bind_some, htake]
        exact hk
    have hmain : ∃ k, ∀ k', k ≤ k' → (if nameE y.f0 = true then (if y.f1 = 1 then (substationref26_GoodEnv.j1 k' L (pre.length : Int) L (L.length : Int) (pre.length : Int) false y.f0 y.f1) else (substationref26_GoodEnv.j1 k' L (pre.length : Int) L (L.length : Int) (pre.length : Int) (y.f1 != 2) y.f0 y.f1)) else (substationref26_GoodEnv.j1 k' L (pre.length : Int) L (L.length : Int) (pre.length : Int) true y.f0 y.f1)) = some (kindsGo pre (y :: ys)) := by
      have up : ∀ b k k', substationref26_GoodEnv.j1 k L (pre.length : Int) L (L.length : Int) (pre.length : Int) b y.f0 y.f1 = some (kindsGo pre (y :: ys)) → k ≤ k' → substationref26_GoodEnv.j1 k' L (pre.length : Int) L (L.length : Int) (pre.length : Int) b y.f0 y.f1 = some (kindsGo pre (y :: ys)) := fun b k k' h hk =>
        lift_le (f := fun k => substationref26_GoodEnv.j1 k L (pre.length : Int) L (L.length : Int) (pre.length : Int) b y.f0 y.f1) (fun k => (substationref26_GoodEnv.mono_l k).2.1 _ _ _ _ _ _ _ _) h hk
      cases hnm : nameE y.f0 with
      | false =>
        obtain ⟨k, hk⟩ := hj1 true (fun _ => by rw [kindsGo, if_pos (Or.inr (Or.inl hnm))]) (fun h => by cases h)
        exact ⟨k, fun k' h => by rw [if_neg (by decide)]; exact up _ _ _ hk h⟩
      | true =>
        by_cases h1 : y.f1 = 1
        · obtain ⟨k, hk⟩ := hj1 false (fun h => by cases h) (fun _ => ⟨hnm, Or.inl h1⟩)
          exact ⟨k, fun k' h => by rw [if_pos rfl, if_pos h1]; exact up _ _ _ hk h⟩
        · by_cases h2 : y.f1 = 2
          · obtain ⟨k, hk⟩ := hj1 false (fun h => by cases h) (fun _ => ⟨hnm, Or.inr h2⟩)
            exact ⟨k, fun k' h => by rw [if_pos rfl, if_neg h1, show (y.f1 != 2) = false by simp [h2]]; exact up _ _ _ hk h⟩
          · obtain ⟨k, hk⟩ := hj1 true (fun _ => by rw [kindsGo, if_pos (Or.inr (Or.inr (by omega)))]) (fun h => by cases h)
            exact ⟨k, fun k' h => by rw [if_pos rfl, if_neg h1, show (y.f1 != 2) = true by simp [h2]]; exact up _ _ _ hk h⟩
    obtain ⟨k, hk⟩ := hmain
    refine ⟨max k kn + 1, ?_⟩
    rw [substationref26_GoodEnv.l0, if_pos hlen, if_pos (by omega), if_pos hlen, e1, lift_le (f := fun k => substationref26_Name.f k y.f0) (fun k => substationref26_Name.mono _ k) hkn (Nat.le_max_right _ _), Option.bind_some]
    exact hk _ (Nat.le_max_left _ _)
theorem rname_any (s : ByteArray) : ∃ n, substationref26_Name.f n s = some (nameE s) := by
  by_cases h : s.size ≤ 1000
  · exact rname s h
  · refine ⟨1, ?_⟩
    rw [substationref26_Name.f, if_neg (by omega), if_pos (by omega), substationref26_Name.j0, if_pos rfl]
    unfold nameE sNameB
    rw [if_neg (fun e => by have := (tol_nil s).mp e; omega), if_pos (by omega)]
    rfl
theorem good_f (L : List Sg) (hl : L.length ≤ 1000) : ∃ k, substationref26_GoodEnv.f k L = some (kindsGo [] L) :=
  good_l0 L hl (fun _ _ => Or.inr rfl) (fun s _ => rname_any s.f0) L [] rfl
def firstK : List Sg → List UInt8 → Option Int
  | [], n => none
  | s :: ss, n => if s.f0.data.toList = n then some s.f1 else firstK ss n
theorem good_rest : ∀ (l pre : List Sg), kindsGo pre l = true → ∀ (p q : List Sg) (s : Sg), l = p ++ s :: q → (lastK (pre ++ p) s.f0.data.toList).isSome = false
  | l, pre, h, [], q, s, e => by
    rw [e, List.nil_append, kindsGo] at h
    split at h
    · cases h
    · rename_i hn
      rw [List.append_nil]
      cases hs : (lastK pre s.f0.data.toList).isSome with
      | false => rfl
      | true => exact absurd (Or.inl hs) hn
  | l, pre, h, t :: p, q, s, e => by
    rw [e, List.cons_append, kindsGo] at h
    split at h
    · cases h
    · have := good_rest (p ++ s :: q) (pre ++ [t]) h p q s rfl
      rwa [List.append_assoc] at this
theorem first_last : ∀ (l pre : List Sg), kindsGo pre l = true → ∀ n, firstK l n = lastK l n
  | [], pre, h, n => rfl
  | s :: ss, pre, h, n => by
    have hh := h
    rw [kindsGo] at hh
    split at hh
    · cases hh
    · have ih := first_last ss (pre ++ [s]) hh n
      rw [firstK, lastK, ih]
      by_cases e : s.f0.data.toList = n
      · rw [if_pos e]
        cases hl : lastK ss n with
        | none => simp [e]
        | some k =>
          exfalso
          have h1 : (lastK ss n).isSome = true := by rw [hl]; rfl
          rw [lastK_some, List.any_eq_true] at h1
          obtain ⟨t, ht, hte⟩ := h1
          obtain ⟨p, q, hpq⟩ := List.append_of_mem ht
          have h2 := good_rest (s :: ss) pre h (s :: p) q t (by rw [hpq]; rfl)
          rw [lastK_some, List.any_append, List.any_cons] at h2
          have hte : t.f0.data.toList = n := by simpa using hte
          rw [hte, e] at h2
          simp at h2
      · rw [if_neg e]
        cases lastK ss n with
        | none => simp [e]
        | some k => rfl
theorem kind_l0 (L : List Sg) (hl : L.length ≤ 1000) (o n : Int) (s : ByteArray) (ks : List E) : ∀ (rest pre : List Sg), pre ++ rest = L →
    ∃ k, substationref26_kind.l0 k L (L.length : Int) (pre.length : Int) o n s ks = some (match firstK rest s.data.toList with | some k => (k, 0) | none => (0, 9))
  | [], pre, e => ⟨1, by rw [substationref26_kind.l0, if_neg (by rw [← e]; simp)]; rfl⟩
  | y :: ys, pre, e => by
    have hlen : (pre.length : Int) < (L.length : Int) := by rw [← e]; simp; omega
    have e1 : rd_T37 L (pre.length : Int) = y := by rw [← e]; exact rdS_pre pre ys y
    by_cases hy : y.f0.toList = s.toList
    · refine ⟨1, ?_⟩
      rw [substationref26_kind.l0, if_pos hlen, if_pos (by omega), if_pos hlen, e1, if_pos hy, firstK, if_pos (by rw [tol, tol] at hy; exact hy)]
    · obtain ⟨k, hk⟩ := kind_l0 L hl o n s ks ys (pre ++ [y]) (by rw [← e]; simp)
      refine ⟨k + 1, ?_⟩
      rw [substationref26_kind.l0, if_pos hlen, if_pos (by omega), if_pos hlen, e1, if_neg hy, w64 (by omega) (by omega), ← pre_len pre y, hk, firstK, if_neg (by rw [tol, tol] at hy; exact hy)]
theorem kind_l2 (o res : Int) (ho : o ≠ 0) (hres : res ≠ 0) (ks want : List Int) (hk : ks.length ≤ 1000) (hw : want.length = ks.length) (hwant : ∀ j (h : j < want.length), want[j] = o) : ∀ (m j : Nat), j + m = ks.length →
    substationref26_kind.l2 (m + 1) ks want res (want.length : Int) (j : Int) = some (if (ks.drop j).all (fun k => k == o) = true then (res, 0) else (0, 10))
  | 0, j, e => by
    rw [substationref26_kind.l2, if_neg (by omega), if_neg hres, List.drop_eq_nil_of_le (by omega)]
    rfl
  | m + 1, j, e => by
    have ih := kind_l2 o res ho hres ks want hk hw hwant m (j + 1) (by omega)
    have hj : j < ks.length := by omega
    have e1 : rd want (j : Int) = o := by unfold rd; rw [Int.toNat_natCast]; simp [hwant j (by omega), show j < want.length by omega]
    have e2 : rd ks (j : Int) = ks[j] := by unfold rd; simp [hj]
    have e3 : wrap64 ((j : Int) + 1) = ((j + 1 : Nat) : Int) := by rw [w64 (by omega) (by omega)]; rfl
    rw [substationref26_kind.l2, if_pos (by omega), if_pos (by omega), if_pos (by omega), e1, if_neg ho, if_pos (by omega), e2, e3, ih, List.drop_eq_getElem_cons hj, List.all_cons]
    by_cases h : ks[j] = o
    · rw [if_pos h]; simp [h]
    · rw [if_neg h]; simp [h]
end Go.Proofs.YtbbopomecanaoaaDoor.A
namespace Go.Proofs.YtbbopomecanaoaaDoor.A
open Go.RowKit Go.Proofs.YtbbopomecanaoaaDoorW.PrintWords Go.Proofs.YtbbopomecanaoaaDoorW.PrintLast Go.Proofs.YtbbopomecanaoaaDoorW.PrintMore Go.Proofs.YtbbopomecanaoaaDoor.XK
open Go.Proofs.YtbbopomecanaoaaDoor
set_option linter.unusedVariables false
set_option linter.unusedSimpArgs false
theorem wants_f {op : Int} (h1 : 1 ≤ op) (h22 : op ≤ 22) (h3 : op ≠ 3) (h16 : op ≠ 16) : ∃ W, substationref26_Wants.f 5 op = some (W, resK op) ∧ (W.length : Int) = arityI op ∧ (∀ x ∈ W, x = opndK op) ∧ opndK op ≠ 0 ∧ resK op ≠ 0 := by
  rcases (by omega : op = 1 ∨ op = 2 ∨ op = 4 ∨ op = 5 ∨ op = 6 ∨ op = 7 ∨ op = 8 ∨ op = 9 ∨ op = 10 ∨ op = 11 ∨ op = 12 ∨ op = 13 ∨ op = 14 ∨ op = 15 ∨ op = 17 ∨ op = 18 ∨ op = 19 ∨ op = 20 ∨ op = 21 ∨ op = 22) with
    rfl | rfl | rfl | rfl | rfl | rfl | rfl | rfl | rfl | rfl | rfl | rfl | rfl | rfl | rfl | rfl | rfl | rfl | rfl | rfl <;> exact ⟨_, rfl, by decide, by decide, by decide, by decide⟩
theorem wants_if : substationref26_Wants.f 5 16 = some ([1, 0, 0], 0) := rfl
theorem node_end (env : List Sg) (op : Int) (s : ByteArray) (ks : List Int) (h1 : 1 ≤ op) (h22 : op ≤ 22) (h3 : op ≠ 3) (hk : (ks.length : Int) = arityI op) :
    ∃ k, ((substationref26_Wants.f k op).bind fun bt288 => (substationref26_kind.l2 k ks bt288.1 bt288.2 (bt288.1.length : Int) 0)) = some (nodeK env op s ks) := by
  have ha := arity3 op
  have up : ∀ (k k' : Nat) (w : List Int × Int), substationref26_Wants.f k op = some w → k ≤ k' → substationref26_Wants.f k' op = some w := fun k k' w h hk => lift_le (f := fun k => substationref26_Wants.f k op) (fun k => substationref26_Wants.mono _ k) h hk
  unfold nodeK
  rw [if_neg h3]
  by_cases h16 : op = 16
  · rw [if_pos h16]
    have h33 : ks.length = 3 := by rw [h16] at hk; have h : (ks.length : Int) = 3 := hk; omega
    match ks, h33 with
    | [a, b, c], _ =>
      have hw := up 5 10 _ (by rw [h16]; exact wants_if) (by decide)
      refine ⟨10, ?_⟩
      rw [hw, Option.bind_some]
      show substationref26_kind.l2 10 [a, b, c] [1, 0, 0] 0 3 0 = some (if a ≠ 1 ∨ b ≠ c then (0, 10) else (b, 0))
      have w1 : wrap64 1 = 1 := w64 (by decide) (by decide)
      have w2 : wrap64 2 = 2 := w64 (by decide) (by decide)
      have w3 : wrap64 3 = 3 := w64 (by decide) (by decide)
      have r0 : ∀ a b c : Int, rd [a, b, c] 0 = a := fun _ _ _ => rfl
      have r1 : ∀ a b c : Int, rd [a, b, c] 1 = b := fun _ _ _ => rfl
      have r2 : ∀ a b c : Int, rd [a, b, c] 2 = c := fun _ _ _ => rfl
      have q0 : rd [1, 0, 0] 0 = 1 := rfl
      have q1 : rd [1, 0, 0] 1 = 0 := rfl
      have q2 : rd [1, 0, 0] 2 = 0 := rfl
      by_cases ea : a = 1
      · by_cases eb : c = b
        · simp [substationref26_kind.l2, w1, w2, w3, r0, r1, r2, q0, q1, q2, ea, eb]
        · have eb' : ¬ b = c := fun e => eb e.symm
          simp [substationref26_kind.l2, w1, w2, w3, r0, r1, r2, q0, q1, q2, ea, eb, eb']
      · simp [substationref26_kind.l2, w1, w2, w3, r0, r1, r2, q0, q1, q2, ea]
  · rw [if_neg h16]
    obtain ⟨W, hw, hlen, hall, ho, hr⟩ := wants_f h1 h22 h3 h16
    have hWl : W.length = ks.length := by omega
    have h2 := kind_l2 (opndK op) (resK op) ho hr ks W (by omega) hWl (fun j h => hall _ (List.getElem_mem h)) ks.length 0 (by omega)
    rw [List.drop_zero] at h2
    refine ⟨max 5 (ks.length + 1), ?_⟩
    rw [up 5 _ _ hw (Nat.le_max_left _ _), Option.bind_some]
    exact lift_le (f := fun k => substationref26_kind.l2 k ks W (resK op) (W.length : Int) 0) (fun k => (substationref26_kind.mono_l k).2.2.2 _ _ _ _ _) h2 (Nat.le_max_right _ _)
theorem kind_l1 (env : List Sg) (x : E) (hl : x.f3.length ≤ 1000) (hr : 1 ≤ x.f0 ∧ x.f0 ≤ 22) (h3 : x.f0 ≠ 3) (har : (x.f3.length : Int) = arityI x.f0) (hf : ∀ y ∈ x.f3, ∃ k, substationref26_kind.f k y.f0 y.f1 y.f2 y.f3 env = some (typeE env y)) :
    ∀ (rest pre : List E) (acc : List Int), pre ++ rest = x.f3 → acc.length = pre.length → typeL env x.f3 = (acc ++ (typeL env rest).1, (typeL env rest).2) → ∃ k, substationref26_kind.l1 k env acc x.f3 (x.f3.length : Int) (pre.length : Int) x.f0 x.f1 x.f2 x.f3 = some (typeE env x)
  | [], pre, acc, e, ha, ht => by
    rw [typeL, List.append_nil] at ht
    obtain ⟨k, hk⟩ := node_end env x.f0 x.f2 acc hr.1 hr.2 h3 (by rw [ha, ← har, ← e, List.append_nil])
    refine ⟨k + 1, ?_⟩
    rw [substationref26_kind.l1, if_neg (by rw [← e]; simp), typeE_eq, ht, if_pos rfl]
    exact hk
  | y :: ys, pre, acc, e, ha, ht => by
    obtain ⟨k1, h1⟩ := hf y (by rw [← e]; simp)
    have hlen : (pre.length : Int) < (x.f3.length : Int) := by rw [← e]; simp; omega
    have e1 : rd_T24 x.f3 (pre.length : Int) = y := by rw [← e]; exact rd_pre pre ys y
    rw [typeL_cons] at ht
    by_cases he : (typeE env y).2 = 0
    · rw [if_pos he] at ht
      obtain ⟨k2, h2⟩ := kind_l1 env x hl hr h3 har hf ys (pre ++ [y]) (acc ++ [(typeE env y).1]) (by rw [← e]; simp) (by rw [List.length_append, List.length_append, ha]; rfl) (by rw [ht]; simp)
      refine ⟨max k1 k2 + 1, ?_⟩
      rw [substationref26_kind.l1, if_pos hlen, if_pos (by omega), if_pos hlen, e1, lift_le (f := fun k => substationref26_kind.f k y.f0 y.f1 y.f2 y.f3 env) (fun k => substationref26_kind.mono _ _ _ _ _ k) h1 (Nat.le_max_left _ _), Option.bind_some, if_pos he, if_pos (by omega), w64 (by omega) (by omega), ← pre_len pre y,
        lift_le (f := fun k => substationref26_kind.l1 k env (acc ++ [(typeE env y).1]) x.f3 (x.f3.length : Int) (((pre ++ [y]).length : Nat) : Int) x.f0 x.f1 x.f2 x.f3) (fun k => (substationref26_kind.mono_l k).2.2.1 _ _ _ _ _ _ _ _ _) h2 (Nat.le_max_right _ _)]
    · rw [if_neg he] at ht
      refine ⟨k1 + 1, ?_⟩
      rw [substationref26_kind.l1, if_pos hlen, if_pos (by omega), if_pos hlen, e1, h1, Option.bind_some, if_neg he, typeE_eq env x, ht, if_neg he]
theorem kind_f (env : List Sg) (hl : env.length ≤ 1000) (hg : kindsGo [] env = true) : ∀ (m : Nat) (x : E), szE x ≤ m → bE x = true → ∃ k, substationref26_kind.f k x.f0 x.f1 x.f2 x.f3 env = some (typeE env x)
  | 0, x, h, hb => by
    have := szE_eq x
    omega
  | m + 1, x, h, hb => by
    have hz := szE_eq x
    rw [bE_eq, Bool.and_eq_true] at hb
    obtain ⟨n1, n2, n3, n4, n5⟩ := node_facts hb.1
    have ha := arity3 x.f0
    have hr := op_range n2
    by_cases h3 : x.f0 = 3
    · have hk : x.f3 = [] := by rw [h3] at n2; have h1 : (x.f3.length : Int) = 0 := n2; exact List.length_eq_zero_iff.mp (by omega)
      obtain ⟨k, hk1⟩ := kind_l0 env hl x.f0 x.f1 x.f2 x.f3 env [] rfl
      refine ⟨k + 1, ?_⟩
      rw [substationref26_kind.f, if_pos h3, typeE_eq, hk, typeL, if_pos rfl]
      unfold nodeK
      rw [if_pos h3, ← first_last env [] hg, ← hk]
      exact hk1
    · obtain ⟨k, hk1⟩ := kind_l1 env x (by omega) hr h3 n2 (fun y hy => kind_f env hl hg m y (by have := szE_mem hy; omega) (bE_mem hb.2 hy)) x.f3 [] [] rfl rfl (by simp)
      exact ⟨k + 1, by rw [substationref26_kind.f, if_neg h3]; exact hk1⟩
def checkB (env : List Sg) (x : E) : Int × Int := if kindsGo [] env = true ∧ validB x = true then typeE env x else (0, 1)
theorem rcheck (k : Nat) (hk : k ≤ 1000) (env : List Sg) (hl : env.length ≤ 1000) (x : E) (h : smF k x = true) : ∃ n, substationref26_Check.f n x.f0 x.f1 x.f2 x.f3 env = some ((checkB env x).1, (checkB env x).2) := by
  obtain ⟨n1, h1⟩ := rvalid k hk x h
  obtain ⟨n2, h2⟩ := good_f env hl
  unfold checkB
  cases hv : validB x with
  | false =>
    refine ⟨n1, ?_⟩
    rw [substationref26_Check.f, h1, Option.bind_some, hv, if_neg (by decide), if_neg (by simp)]
  | true =>
    cases hg : kindsGo [] env with
    | false =>
      refine ⟨max n1 n2, ?_⟩
      rw [substationref26_Check.f, lift_le (f := fun k => substationref26_Valid.f k x.f0 x.f1 x.f2 x.f3) (fun k => substationref26_Valid.mono _ _ _ _ k) h1 (Nat.le_max_left _ _), Option.bind_some, hv, if_pos rfl, lift_le (f := fun k => substationref26_GoodEnv.f k env) (fun k => substationref26_GoodEnv.mono _ k) h2 (Nat.le_max_right _ _), Option.bind_some, hg, if_neg (by decide), if_neg (by simp)]
    | true =>
      obtain ⟨hz, -, hb⟩ := (validB_is x).mp hv
      obtain ⟨n3, h3⟩ := kind_f env hl hg _ x (Nat.le_refl _) hb
      refine ⟨max n1 (max n2 n3), ?_⟩
      rw [substationref26_Check.f, lift_le (f := fun k => substationref26_Valid.f k x.f0 x.f1 x.f2 x.f3) (fun k => substationref26_Valid.mono _ _ _ _ k) h1 (by omega), Option.bind_some, hv, if_pos rfl, lift_le (f := fun k => substationref26_GoodEnv.f k env) (fun k => substationref26_GoodEnv.mono _ k) h2 (by omega), Option.bind_some, hg, if_pos rfl,
        lift_le (f := fun k => substationref26_kind.f k x.f0 x.f1 x.f2 x.f3 env) (fun k => substationref26_kind.mono _ _ _ _ _ k) h3 (by omega), Option.bind_some, if_pos ⟨rfl, rfl⟩]
end Go.Proofs.YtbbopomecanaoaaDoor.A
namespace Go.Proofs.YtbbopomecanaoaaDoor.A
open Go.RowKit Go.Proofs.YtbbopomecanaoaaDoorW.PrintWords Go.Proofs.YtbbopomecanaoaaDoorW.PrintLast Go.Proofs.YtbbopomecanaoaaDoorW.PrintMore Go.Proofs.YtbbopomecanaoaaDoor.XK
open Go.Proofs.YtbbopomecanaoaaDoor Go.Maps Go.WideShapes
attribute [local go_sem] max2_int min2_int max_two min_two max_three min_three max_four min_four fld1 fld3
set_option linter.unusedVariables false
set_option linter.unusedSimpArgs false
set_option maxRecDepth 100000 in
set_option maxHeartbeats 4000000 in
theorem Check_calls (env : List Sg) (x : E) (A A1 : Option Addr) (c c1 : Nat) (w : World) (hC : (k24).C w A x.f3.length x.f3) (hE : (k37).C w A1 env.length env) (hs : ∀ s ∈ env, s.f0.size ≤ maxLen) (hl : env.length ≤ 1000) :
    Calls Tryd.prog 20 #[.agg (cE x (.slice A x.f3.length c)), .slice A1 env.length c1] w fun e w' => e = .returned (.tuple #[.int .i64 (checkB env x).1, .int .i64 (checkB env x).2]) ∧ Below w.heap.size w w' := by
  have HA := below_alloc (Below.refl w.heap.size w) (.cells (cE x (.slice A x.f3.length c)) 24)
  have BX := Aside0.mk (heap_alloc_new w (.cells (cE x (.slice A x.f3.length c)) 24))
  have HC := Aside0.mk (Kd.C_below hC HA)
  have HKI := Aside0.mk (kinds_calls env A1 c1 _ (Kd.C_below hE HA) hs hl)
  have HV := Aside0.mk (fun w1 h => valid_calls x A c w1 h)
  have HVB := Aside0.mk (validB_is x)
  have HB := Aside0.mk HA
  obtain ⟨t, ht⟩ : ∃ t, checkB env x = t := ⟨_, rfl⟩
  rw [ht]
  unfold checkB at ht
  have HT := Aside0.mk ht
  clear HA hC hE hs hl ht
  go_enter Tryd.func20, Tryd.ntmps20
  go_wp2_with fail
  with_reducible refine HKI.out.mono ?_
  clear HKI
  rintro e w2 ⟨he, HD⟩
  replace HB := Aside0.mk (below_step HB.out HD)
  replace BX := Aside0.mk (blk_below BX.out HD)
  replace HC := Aside0.mk (Kd.C_below HC.out HD)
  clear HD
  cases hk : kindsGo [] env with
  | false =>
    rw [hk, if_neg (by decide)] at he
    have ht := HT.out
    rw [hk, if_neg (by simp)] at ht
    subst ht
    subst he
    clear HT hk HV HVB
    go_wp2_with fail
    exact bodyPost_ret (v := .tuple #[.int .i64 0, .int .i64 1]) (by simp [results, Tryd.results20, go_sem]) rfl ⟨rfl, HB.out⟩
  | true =>
    rw [hk, if_pos rfl] at he
    obtain ⟨b, rfl, hom⟩ := he
    have HO := Aside0.mk hom
    have ht := HT.out
    rw [hk] at ht
    clear HT hk hom
    have x0 : w2.cell? ⟨w.heap.size, 0, none⟩ = some (.int .i64 x.f0) := blk_cell BX.out 0
    have x1 : w2.cell? ⟨w.heap.size, 1, none⟩ = some (.int .i64 x.f1) := blk_cell BX.out 1
    have x2 : w2.cell? ⟨w.heap.size, 2, none⟩ = some (.string x.f2) := blk_cell BX.out 2
    have x3 : w2.cell? ⟨w.heap.size, 3, none⟩ = some (.slice A x.f3.length c) := blk_cell BX.out 3
    cases hv : validB x with
    | false =>
      rw [hv] at HV
      rw [hv, if_neg (by simp)] at ht
      subst ht
      clear hv HVB
      go_wp2_with fail
      with_reducible refine (HV.out _ HC.out).mono ?_
      rintro e w3 ⟨rfl, HD⟩
      replace HB := Aside0.mk (below_step HB.out HD)
      clear HD HV x0 x1 x2 x3
      go_wp2_with fail
      exact bodyPost_ret (v := .tuple #[.int .i64 0, .int .i64 1]) (by simp [results, Tryd.results20, go_sem]) rfl ⟨rfl, HB.out⟩
    | true =>
      rw [hv] at HV
      rw [hv, if_pos ⟨rfl, rfl⟩] at ht
      obtain ⟨-, -, hbe⟩ := HVB.out.mp hv
      have HTC := Aside0.mk (fun w1 h h' => typed_calls env _ x A c b env.length w1 (Nat.le_refl _) hbe h h')
      clear hv HVB hbe
      go_wp2_with fail
      with_reducible refine (HV.out _ HC.out).mono ?_
      rintro e w3 ⟨rfl, HD⟩
      replace HB := Aside0.mk (below_step HB.out HD)
      replace BX := Aside0.mk (blk_below BX.out HD)
      replace HC := Aside0.mk (Kd.C_below HC.out HD)
      replace HO := Aside0.mk (HO.out.kept (grown_of_below HD none) (by simp))
      clear HD HV x0 x1 x2 x3
      have x0 : w3.cell? ⟨w.heap.size, 0, none⟩ = some (.int .i64 x.f0) := blk_cell BX.out 0
      have x1 : w3.cell? ⟨w.heap.size, 1, none⟩ = some (.int .i64 x.f1) := blk_cell BX.out 1
      have x2 : w3.cell? ⟨w.heap.size, 2, none⟩ = some (.string x.f2) := blk_cell BX.out 2
      have x3 : w3.cell? ⟨w.heap.size, 3, none⟩ = some (.slice A x.f3.length c) := blk_cell BX.out 3
      have HTC2 := Aside0.mk (HTC.out w3 HC.out HO.out)
      rw [ht] at HTC2
      clear HTC ht
      go_wp2_with fail
      with_reducible refine HTC2.out.mono ?_
      rintro e w4 ⟨rfl, HD⟩
      replace HB := Aside0.mk (below_step HB.out HD)
      clear HD HTC2 x0 x1 x2 x3
      obtain ⟨t1, t2⟩ := t
      go_wp2_with fail
      exact bodyPost_ret (v := .tuple #[.int .i64 t1, .int .i64 t2]) (by simp [results, Tryd.results20, go_sem]) rfl ⟨rfl, HB.out⟩
end Go.Proofs.YtbbopomecanaoaaDoor.A
namespace Go.Proofs.YtbbopomecanaoaaDoor.A
open Go.ChangeShapes Go.WideShapes Go.ChangeAt Go.RowKit Go.Deep Go.Proofs.YtbbopomecanaoaaDoorW.PrintWords Go.Proofs.YtbbopomecanaoaaDoor.XK
set_option linter.unusedVariables false
section
variable {H : Type} {enc : TypeId × Value → H} {W : World} {spare : Nat → Bool} {held : Bool}
theorem cells24 : Tryd.prog.cellsOf 24 = 4 := by kernel_rfl
theorem cells3 : Tryd.prog.cellsOf 3 = 1 := by kernel_rfl
theorem cells9 : Tryd.prog.cellsOf 9 = 1 := by kernel_rfl
theorem cells22 : Tryd.prog.cellsOf 22 = 1 := by kernel_rfl
set_option maxRecDepth 100000 in
theorem trod_expr : ∀ (m fuel : Nat), fuel ≤ m → ∀ (cs : List Value) (y : DataW H × List MemPlace), DataW.trod enc Tryd.prog W 0 spare held fuel 24 cs = some y → ∃ x : E, (k24).K W x cs
  | 0, fuel, hm, cs, y, h => by
    obtain ⟨xs, n, hfu, -⟩ := DataW.trod_struct Tryd.underlying24 h
    omega
  | m + 1, fuel, hm, cs, y, h => by
    obtain ⟨xs, n, hfu, hx, hl, hlen, hf⟩ := DataW.trod_struct Tryd.underlying24 h
    rw [cells24] at hl
    have h0 : DataW.trod enc Tryd.prog W 0 spare held n 3 ((cs.drop 0).take (Tryd.prog.cellsOf 3)) = xs[0]? := hf 0 _ rfl
    have h1 : DataW.trod enc Tryd.prog W 0 spare held n 3 ((cs.drop 1).take (Tryd.prog.cellsOf 3)) = xs[1]? := hf 1 _ rfl
    have h2 : DataW.trod enc Tryd.prog W 0 spare held n 9 ((cs.drop 2).take (Tryd.prog.cellsOf 9)) = xs[2]? := hf 2 _ rfl
    have h3 : DataW.trod enc Tryd.prog W 0 spare held n 22 ((cs.drop 3).take (Tryd.prog.cellsOf 22)) = xs[3]? := hf 3 _ rfl
    rw [cells3] at h0 h1
    rw [cells9] at h2
    rw [cells22] at h3
    match cs, hl with
    | [c0, c1, c2, c3], _ =>
      match xs, hlen with
      | [y0, y1, y2, y3], _ =>
        obtain ⟨a, i0, -, -⟩ := DataW.trod_int Tryd.underlying3 (show DataW.trod _ _ _ _ _ _ n 3 [c0] = some y0 from h0)
        obtain ⟨b, i1, -, -⟩ := DataW.trod_int Tryd.underlying3 (show DataW.trod _ _ _ _ _ _ n 3 [c1] = some y1 from h1)
        obtain ⟨s, i2, -, -⟩ := DataW.trod_string Tryd.underlying9 (show DataW.trod _ _ _ _ _ _ n 9 [c2] = some y2 from h2)
        have h3 : DataW.trod enc Tryd.prog W 0 spare held n 22 [c3] = some y3 := h3
        simp only [List.cons.injEq, and_true] at i0 i1 i2
        subst i0 i1 i2
        rcases DataW.trod_slice Tryd.underlying22 h3 with ⟨e3, -⟩ | ⟨ad, len, cap, elems, rest, n2, hn2, e3, -, -, hlc, hcm, hel, hall, -, -⟩
        · replace e3 := (List.cons.inj e3).1
          subst e3
          exact ⟨⟨a, b, s, []⟩, k24_mk W ⟨a, b, s, []⟩ (Nat.le_refl 0) (Kd.C_nil k24 W)⟩
        · replace e3 := (List.cons.inj e3).1
          subst e3
          rw [cells24] at hall
          have hx : ∀ i, i < len → ∃ x : E, ∃ cs', W.cells? 0 (ad.add (i * 4)) 4 = some cs' ∧ (k24).K W x cs' := by
            intro i hi
            have h4 := hall i hi
            rw [List.getElem?_eq_getElem (by omega : i < elems.length)] at h4
            obtain ⟨cs', hc, ht⟩ := Option.bind_eq_some_iff.mp h4
            obtain ⟨x, hK⟩ := trod_expr m n2 (by omega) cs' _ ht
            exact ⟨x, cs', hc, hK⟩
          have hL : ∃ l : List E, l.length = len ∧ ∀ (j : Nat) (p : E), l[j]? = some p → ∃ cs', W.cells? 0 (ad.add (j * 4)) 4 = some cs' ∧ (k24).K W p cs' := by
            refine ⟨(List.range len).map fun i => if h : i < len then Classical.choose (hx i h) else z24, by simp, fun j p hp => ?_⟩
            rw [List.getElem?_map] at hp
            rcases Nat.lt_or_ge j len with hj | hj
            · rw [List.getElem?_range hj, Option.map_some, dif_pos hj] at hp
              have e := Option.some.inj hp
              rw [← e]
              exact Classical.choose_spec (hx j hj)
            · rw [List.getElem?_eq_none (by simpa using hj)] at hp
              cases hp
          obtain ⟨l, hll, hlr⟩ := hL
          have hmx : maxLen ≤ 9223372036854775807 := by decide
          have hl9 : l.length ≤ 9223372036854775807 := by omega
          have hC : (k24).C W (some ad) l.length l := ⟨rfl, hl9, fun _ => ⟨ad, rfl, fun j p hp => by
            obtain ⟨cs', hc, hK⟩ := hlr j p hp
            obtain ⟨_, hcl, hat⟩ := World.cells?_some hc
            refine ⟨cs', hcl, hK, fun i u hu => ?_⟩
            have hi : i < 4 := by
              rcases Nat.lt_or_ge i cs'.length with h5 | h5
              · omega
              · rw [List.getElem?_eq_none h5] at hu; cases hu
            have := hat i hi
            rw [hu] at this
            show W.cell? (ad.add (j * 4 + i)) = some u
            rw [← Go.Deep.add_add]
            exact this⟩⟩
          have hK := k24_mk W ⟨a, b, s, l⟩ (A3 := some ad) (c3 := cap) (by show l.length ≤ cap; omega) hC
          refine ⟨⟨a, b, s, l⟩, ?_⟩
          rw [← hll]
          exact hK
set_option maxRecDepth 100000 in
theorem expr_arg {b0 : Nat} {v : Value} {d : DataW H} {p : List MemPlace} {r : Reach} (hv : Value.okWide Tryd.prog W r b0 24 v) (h : DataW.Trod enc Tryd.prog W 0 spare held 24 v d p) :
    ∃ (x : E) (A : Option Addr) (c : Nat), v = .agg #[.int .i64 x.f0, .int .i64 x.f1, .string x.f2, .slice A x.f3.length c] ∧ x.f3.length ≤ c ∧ (k24).C W A x.f3.length x.f3 := by
  obtain ⟨cs, rfl, hsz⟩ := okWide_struct Tryd.underlying24 hv
  obtain ⟨fuel, hf⟩ := h
  have hf : DataW.trod enc Tryd.prog W 0 spare held fuel 24 cs.toList = some (d, p) := hf
  obtain ⟨x, hK⟩ := trod_expr fuel fuel (Nat.le_refl _) _ _ hf
  obtain ⟨A3, c3, e, hl, hC⟩ := k24_open hK
  refine ⟨x, A3, c3, ?_, hl, hC⟩
  obtain ⟨cl⟩ := cs
  have e : cl = _ := e
  rw [e]
end
end Go.Proofs.YtbbopomecanaoaaDoor.A
namespace Go.Proofs.YtbbopomecanaoaaDoor.A
open Go.ChangeShapes Go.WideShapes Go.ChangeAt Go.RowKit Go.Deep Go.Proofs.YtbbopomecanaoaaDoorW.PrintWords Go.Proofs.YtbbopomecanaoaaDoor.XK
set_option linter.unusedVariables false
section
variable {H : Type} {enc : TypeId × Value → H} {W : World} {spare : Nat → Bool} {held : Bool}
theorem cellsSg : Tryd.prog.cellsOf 37 = 2 := by kernel_rfl
theorem cellsI : Tryd.prog.cellsOf 3 = 1 := by kernel_rfl
theorem cellsS : Tryd.prog.cellsOf 9 = 1 := by kernel_rfl
set_option maxRecDepth 100000 in
theorem trod_sig {fuel : Nat} {cs : List Value} {y : DataW H × List MemPlace} (h : DataW.trod enc Tryd.prog W 0 spare held fuel 37 cs = some y) : ∃ s : Sg, (k37).K W s cs ∧ s.f0.size ≤ maxLen := by
  obtain ⟨xs, n, hfu, hx, hl, hlen, hf⟩ := DataW.trod_struct Tryd.underlying37 h
  rw [cellsSg] at hl
  have h0 : DataW.trod enc Tryd.prog W 0 spare held n 9 ((cs.drop 0).take (Tryd.prog.cellsOf 9)) = xs[0]? := hf 0 _ rfl
  have h1 : DataW.trod enc Tryd.prog W 0 spare held n 3 ((cs.drop 1).take (Tryd.prog.cellsOf 3)) = xs[1]? := hf 1 _ rfl
  rw [cellsS] at h0
  rw [cellsI] at h1
  match cs, hl with
  | [c0, c1], _ =>
    match xs, hlen with
    | [y0, y1], _ =>
      obtain ⟨s, i0, -, hm⟩ := DataW.trod_string Tryd.underlying9 (show DataW.trod _ _ _ _ _ _ n 9 [c0] = some y0 from h0)
      obtain ⟨a, i1, -, -⟩ := DataW.trod_int Tryd.underlying3 (show DataW.trod _ _ _ _ _ _ n 3 [c1] = some y1 from h1)
      simp only [List.cons.injEq, and_true] at i0 i1
      subst i0 i1
      exact ⟨⟨s, a⟩, k37_mk W ⟨s, a⟩, hm⟩
set_option maxRecDepth 100000 in
theorem sigs_arg {b0 : Nat} {v : Value} {d : DataW H} {p : List MemPlace} {r : Reach} (hv : Value.okWide Tryd.prog W r b0 38 v) (h : DataW.Trod enc Tryd.prog W 0 spare held 38 v d p) :
    ∃ (l : List Sg) (A : Option Addr) (c : Nat), v = .slice A l.length c ∧ l.length ≤ c ∧ (k37).C W A l.length l ∧ ∀ s ∈ l, s.f0.size ≤ maxLen := by
  obtain ⟨A, len, cap, rfl⟩ := okWide_slice Tryd.underlying38 hv
  obtain ⟨fuel, hf⟩ := h
  have hf : DataW.trod enc Tryd.prog W 0 spare held fuel 38 [.slice A len cap] = some (d, p) := hf
  rcases DataW.trod_slice Tryd.underlying38 hf with ⟨e3, -⟩ | ⟨ad, len', cap', elems, rest, n2, hn2, e3, -, -, hlc, hcm, hel, hall, -, -⟩
  · replace e3 := (List.cons.inj e3).1
    injection e3 with e4 e5 e6
    subst e4 e5 e6
    exact ⟨[], none, 0, rfl, Nat.le_refl _, Kd.C_nil k37 W, fun s hs => by cases hs⟩
  · replace e3 := (List.cons.inj e3).1
    injection e3 with e4 e5 e6
    subst e4 e5 e6
    rw [cellsSg] at hall
    have hx : ∀ i, i < len → ∃ x : Sg, (∃ cs', W.cells? 0 (ad.add (i * 2)) 2 = some cs' ∧ (k37).K W x cs') ∧ x.f0.size ≤ maxLen := by
      intro i hi
      have h4 := hall i hi
      rw [List.getElem?_eq_getElem (by omega : i < elems.length)] at h4
      obtain ⟨cs', hc, ht⟩ := Option.bind_eq_some_iff.mp h4
      obtain ⟨x, hK, hm⟩ := trod_sig ht
      exact ⟨x, ⟨cs', hc, hK⟩, hm⟩
    have hL : ∃ l : List Sg, l.length = len ∧ (∀ (j : Nat) (p : Sg), l[j]? = some p → (∃ cs', W.cells? 0 (ad.add (j * 2)) 2 = some cs' ∧ (k37).K W p cs') ∧ p.f0.size ≤ maxLen) := by
      refine ⟨(List.range len).map fun i => if h : i < len then Classical.choose (hx i h) else z37, by simp, fun j p hp => ?_⟩
      rw [List.getElem?_map] at hp
      rcases Nat.lt_or_ge j len with hj | hj
      · rw [List.getElem?_range hj, Option.map_some, dif_pos hj] at hp
        have e := Option.some.inj hp
        rw [← e]
        exact Classical.choose_spec (hx j hj)
      · rw [List.getElem?_eq_none (by simpa using hj)] at hp
        cases hp
    obtain ⟨l, hll, hlr⟩ := hL
    have hmx : maxLen ≤ 9223372036854775807 := by decide
    have hl9 : l.length ≤ 9223372036854775807 := by omega
    have hC : (k37).C W (some ad) l.length l := ⟨rfl, hl9, fun _ => ⟨ad, rfl, fun j p hp => by
      obtain ⟨⟨cs', hc, hK⟩, -⟩ := hlr j p hp
      obtain ⟨_, hcl, hat⟩ := World.cells?_some hc
      refine ⟨cs', hcl, hK, fun i u hu => ?_⟩
      have hi : i < 2 := by
        rcases Nat.lt_or_ge i cs'.length with h5 | h5
        · omega
        · rw [List.getElem?_eq_none h5] at hu; cases hu
      have := hat i hi
      rw [hu] at this
      show W.cell? (ad.add (j * 2 + i)) = some u
      rw [← Go.Deep.add_add]
      exact this⟩⟩
    refine ⟨l, some ad, cap, by rw [hll], by omega, hC, fun s hs => ?_⟩
    obtain ⟨j, hj, e⟩ := List.mem_iff_getElem.mp hs
    exact (hlr j s (by rw [List.getElem?_eq_getElem hj, e])).2
end
end Go.Proofs.YtbbopomecanaoaaDoor.A
namespace Go.Proofs.YtbbopomecanaoaaDoor.A
open Go.RowKit Go.Proofs.YtbbopomecanaoaaDoorW.PrintWords Go.Proofs.YtbbopomecanaoaaDoorW.PrintLast Go.Proofs.YtbbopomecanaoaaDoorW.PrintMore Go.Proofs.YtbbopomecanaoaaDoor.XK
open Go.Proofs.YtbbopomecanaoaaDoor
attribute [local go_sem] max2_int min2_int max_two min_two max_three min_three max_four min_four fld1 fld3
set_option linter.unusedVariables false
set_option linter.unusedSimpArgs false
set_option maxRecDepth 100000 in
set_option maxHeartbeats 4000000 in
theorem EquationChecks_walk (x : E) (A : Option Addr) (c : Nat) (env : List Sg) (A1 : Option Addr) (c1 : Nat) (W : World) (hw : WF W) (hle : x.f3.length ≤ c) (hC : (k24).C W A x.f3.length x.f3)
    (hle1 : env.length ≤ c1) (hC1 : (k37).C W A1 env.length env) (hs : ∀ s ∈ env, s.f0.size ≤ maxLen) :
    Calls Tryd.prog 8 #[.agg (cE x (.slice A x.f3.length c)), .slice A1 env.length c1] W fun e w' => e = .returned (.bool true) ∧ Below W.heap.size W w' := by
  have HK := Aside0.mk (fun w1 h => known_calls w1 (h : WF w1))
  have HA := below_alloc (Below.refl W.heap.size W) (.cells (cE x (.slice A x.f3.length c)) 24)
  have HW := Aside0.mk (WF_stay hw HA)
  have BX : Aside0 (Bx x A c W.heap.size (W.alloc (.cells (cE x (.slice A x.f3.length c)) 24))) := ⟨heap_alloc_new W _, hle, Kd.C_below hC HA⟩
  have HE := Aside0.mk (Kd.C_below hC1 HA)
  have HLE := Aside0.mk hle1
  have HS := Aside0.mk hs
  have HB := Aside0.mk HA
  clear HA hw hle hC hle1 hC1 hs
  obtain ⟨k, hk⟩ := small_f 30 x 1 (by decide) (by decide)
  have HSM := Aside0.mk (substationlaw26_small.calls k _ _ _ _ _ _ 1 _ _ BX.out.rd BX.out.le hk)
  clear hk
  have x0 := BX.out.c0
  have x1 := BX.out.c1
  have x2 := BX.out.c2
  have x3 := BX.out.c3
  cases hsm : smF 30 x with
  | false =>
    rw [hsm] at HSM
    clear hsm
    go_enter Tryd.func8, Tryd.ntmps8
    go_wp2_with fail
    with_reducible refine HSM.out.mono ?_
    rintro e w2 ⟨rfl, HD⟩
    replace HB := Aside0.mk (below_step HB.out HD)
    replace HW := Aside0.mk (WF_stay HW.out HD)
    clear HD HSM x0 x1 x2 x3
    go_wp2_with fail
    with_reducible refine (HK.out _ HW.out).mono ?_
    rintro e w3 ⟨rfl, HD⟩
    replace HB := Aside0.mk (below_step HB.out HD)
    clear HD HK
    go_wp2_with fail
    go_ret
    exact ⟨rfl, HB.out⟩
  | true =>
    by_cases hf : 30 < env.length
    · have g3 : decide ((env.length : Int) > 30) = true := by simp; omega
      have g4 : decide ((30 : Int) < (env.length : Int)) = true := by simp; omega
      have g5 : (30 < env.length) = True := eq_true hf
      rw [hsm] at HSM
      clear hsm hf
      go_enter Tryd.func8, Tryd.ntmps8
      go_wp2_with fail
      with_reducible refine HSM.out.mono ?_
      rintro e w2 ⟨rfl, HD⟩
      replace HB := Aside0.mk (below_step HB.out HD)
      replace HW := Aside0.mk (WF_stay HW.out HD)
      clear HD HSM x0 x1 x2 x3
      go_wp2_with fail
      with_reducible refine (HK.out _ HW.out).mono ?_
      rintro e w3 ⟨rfl, HD⟩
      replace HB := Aside0.mk (below_step HB.out HD)
      clear HD HK
      go_wp2_with fail
      go_ret
      exact ⟨rfl, HB.out⟩
    have g3 : decide ((env.length : Int) > 30) = false := by simp; omega
    have g4 : decide ((30 : Int) < (env.length : Int)) = false := by simp; omega
    have g5 : (30 < env.length) = False := eq_false hf
    obtain ⟨kc, hkc⟩ := rcheck 30 (by decide) env (by omega) x hsm
    have HRC := Aside0.mk (fun w1 h h' => substationref26_Check.calls kc x.f0 x.f1 x.f2 A c x.f3 A1 c1 env _ _ w1 h BX.out.le h' HLE.out hkc)
    have HCC := Aside0.mk (fun w1 h h' => Check_calls env x A A1 c c1 w1 h h' HS.out (by omega))
    rw [hsm] at HSM
    clear hsm hf hkc
    generalize checkB env x = t at *
    obtain ⟨t1, t2⟩ := t
    have q1 : (t1 == t1) = true := by simp
    have q2 : (t2 == t2) = true := by simp
    dsimp only at HRC HCC
    go_enter Tryd.func8, Tryd.ntmps8
    go_wp2_with fail
    with_reducible refine HSM.out.mono ?_
    rintro e w2 ⟨rfl, HD⟩
    replace HB := Aside0.mk (below_step HB.out HD)
    replace HW := Aside0.mk (WF_stay HW.out HD)
    replace BX := Aside0.mk (BX.out.below HD)
    replace HE := Aside0.mk (Kd.C_below HE.out HD)
    clear HD HSM x0 x1 x2 x3
    have x0 := BX.out.c0
    have x1 := BX.out.c1
    have x2 := BX.out.c2
    have x3 := BX.out.c3
    go_wp2_with fail
    with_reducible refine (HCC.out _ BX.out.rd HE.out).mono ?_
    rintro e w3 ⟨rfl, HD⟩
    replace HB := Aside0.mk (below_step HB.out HD)
    replace HW := Aside0.mk (WF_stay HW.out HD)
    replace BX := Aside0.mk (BX.out.below HD)
    replace HE := Aside0.mk (Kd.C_below HE.out HD)
    clear HD HCC x0 x1 x2 x3
    have x0 := BX.out.c0
    have x1 := BX.out.c1
    have x2 := BX.out.c2
    have x3 := BX.out.c3
    go_wp2_with fail
    with_reducible refine (HRC.out _ BX.out.rd HE.out).mono ?_
    rintro e w4 ⟨rfl, HD⟩
    replace HB := Aside0.mk (below_step HB.out HD)
    replace HW := Aside0.mk (WF_stay HW.out HD)
    clear HD HRC x0 x1 x2 x3
    go_wp2_with fail
    with_reducible refine (HK.out _ HW.out).mono ?_
    rintro e w5 ⟨rfl, HD⟩
    replace HB := Aside0.mk (below_step HB.out HD)
    clear HD HK
    go_wp2_with fail
    go_ret
    exact ⟨rfl, HB.out⟩
end Go.Proofs.YtbbopomecanaoaaDoor.A
namespace Go.Proofs.YtbbopomecanaoaaDoor.A
open Go.RowKit Go.Proofs.YtbbopomecanaoaaDoorW.PrintWords Go.Proofs.YtbbopomecanaoaaDoorW.PrintLast Go.Proofs.YtbbopomecanaoaaDoorW.PrintMore Go.Proofs.YtbbopomecanaoaaDoor.XK
open Go.Proofs.YtbbopomecanaoaaDoor
attribute [local go_sem] max2_int min2_int max_two min_two max_three min_three max_four min_four fld1 fld3
set_option linter.unusedVariables false
set_option linter.unusedSimpArgs false
theorem sigs_two {w : World} {b : Nat} (p q : Sg) (h : w.heap[b]? = some (.cells #[.string p.f0, .int .i64 p.f1, .string q.f0, .int .i64 q.f1] 37 (0, 0))) : (k37).C w (some ⟨b, 0, none⟩) 2 [p, q] := by
  have h0 : w.cell? ⟨b, 0, none⟩ = some (.string p.f0) := blk_cell h 0
  have h1 : w.cell? ⟨b, 1, none⟩ = some (.int .i64 p.f1) := blk_cell h 1
  have h2 : w.cell? ⟨b, 2, none⟩ = some (.string q.f0) := blk_cell h 2
  have h3 : w.cell? ⟨b, 3, none⟩ = some (.int .i64 q.f1) := blk_cell h 3
  refine ⟨rfl, by decide, fun _ => ⟨⟨b, 0, none⟩, rfl, fun j s hj => ?_⟩⟩
  match j, hj with
  | 0, hj =>
    obtain rfl : p = s := by simpa using hj
    refine ⟨[.string p.f0, .int .i64 p.f1], rfl, k37_mk w p, fun i u hu => ?_⟩
    match i, hu with
    | 0, hu =>
      obtain rfl : Value.string p.f0 = u := by simpa using hu
      exact h0
    | 1, hu =>
      obtain rfl : Value.int .i64 p.f1 = u := by simpa using hu
      exact h1
    | i + 2, hu => simp at hu
  | 1, hj =>
    obtain rfl : q = s := by simpa using hj
    refine ⟨[.string q.f0, .int .i64 q.f1], rfl, k37_mk w q, fun i u hu => ?_⟩
    match i, hu with
    | 0, hu =>
      obtain rfl : Value.string q.f0 = u := by simpa using hu
      exact h2
    | 1, hu =>
      obtain rfl : Value.int .i64 q.f1 = u := by simpa using hu
      exact h3
    | i + 2, hu => simp at hu
  | j + 2, hj => simp at hj
abbrev exX : E := ⟨8, 0, ⟨#[]⟩, [⟨11, 0, ⟨#[]⟩, [⟨3, 0, bs [97], []⟩, ⟨2, 1, ⟨#[]⟩, []⟩]⟩, ⟨3, 0, bs [98], []⟩]⟩
set_option maxRecDepth 100000 in
theorem ex1 : ∃ x, parseP (bs [100, 101, 108, 97, 121, 40, 97, 44, 32, 53, 48, 49, 41]) = (x, 9, 2) := ⟨zX, by kernel_rfl⟩
set_option maxRecDepth 100000 in
theorem ex2 : ∃ x, parseP (bs [97, 32, 60]) = (x, 3, 6) := ⟨zX, by kernel_rfl⟩
set_option maxRecDepth 100000 in
theorem ex3 : ∃ x, parseP (bs [97, 32, 38, 32, 98]) = (x, 2, 5) := ⟨zX, by kernel_rfl⟩
set_option maxRecDepth 100000 in
theorem ex4 : ∃ x, parseP (bs [97, 98, 99, 100, 101, 102, 103, 104, 105, 106, 107, 108, 109]) = (x, 0, 7) := ⟨zX, by kernel_rfl⟩
set_option maxRecDepth 100000 in
theorem ex5 : ∃ x, parseP (bs [97, 32, 45, 32, 48, 48, 55]) = (x, 4, 2) := ⟨zX, by kernel_rfl⟩
set_option maxRecDepth 100000 in
theorem ex6 : ∃ x, parseP (bs [109, 105, 110, 40, 97, 41]) = (x, 5, 6) := ⟨zX, by kernel_rfl⟩
abbrev sgN (c : UInt8) (k : Int) : Sg := ⟨bs [c], k⟩
set_option maxRecDepth 100000 in
theorem ex7 : ∃ x, parseP (bs [97, 32, 43, 32, 49, 32, 60, 32, 98]) = (x, 0, 0) ∧ checkB [sgN 97 2, sgN 98 2] x = (1, 0) ∧ checkB [sgN 97 1, sgN 98 2] x = (0, 10) ∧ checkB [] x = (0, 9) := ⟨exX, by kernel_rfl, by kernel_rfl, by kernel_rfl, by kernel_rfl⟩
set_option maxRecDepth 100000 in
theorem ex8 : nameE (bs [120, 95, 49]) = true ∧ nameE (bs [110, 111, 116]) = false ∧ nameE (bs [95, 120]) = false := ⟨by kernel_rfl, by kernel_rfl, by kernel_rfl⟩
set_option maxRecDepth 100000 in
theorem ex9 : FormatB zX = bs [] := by kernel_rfl
set_option maxRecDepth 100000 in
set_option maxHeartbeats 8000000 in
theorem EquationExamples_walk (W : World) (hw : WF W) : Calls Tryd.prog 7 #[] W fun e w' => e = .returned (.bool true) ∧ Below W.heap.size W w' := by
  have HK := Aside0.mk (fun w1 h => known_calls w1 (h : WF w1))
  have HW := Aside0.mk hw
  have HB := Aside0.mk (Below.refl W.heap.size W)
  obtain ⟨p1, hp⟩ := ex1
  have HP1 := Aside0.mk (fun w1 h => parse_calls atoiWF (bs [100, 101, 108, 97, 121, 40, 97, 44, 32, 53, 48, 49, 41]) w1 (h : WF w1))
  rw [hp] at HP1
  clear hp
  obtain ⟨p2, hp⟩ := ex2
  have HP2 := Aside0.mk (fun w1 h => parse_calls atoiWF (bs [97, 32, 60]) w1 (h : WF w1))
  rw [hp] at HP2
  clear hp
  obtain ⟨p3, hp⟩ := ex3
  have HP3 := Aside0.mk (fun w1 h => parse_calls atoiWF (bs [97, 32, 38, 32, 98]) w1 (h : WF w1))
  rw [hp] at HP3
  clear hp
  obtain ⟨p4, hp⟩ := ex4
  have HP4 := Aside0.mk (fun w1 h => parse_calls atoiWF (bs [97, 98, 99, 100, 101, 102, 103, 104, 105, 106, 107, 108, 109]) w1 (h : WF w1))
  rw [hp] at HP4
  clear hp
  obtain ⟨p5, hp⟩ := ex5
  have HP5 := Aside0.mk (fun w1 h => parse_calls atoiWF (bs [97, 32, 45, 32, 48, 48, 55]) w1 (h : WF w1))
  rw [hp] at HP5
  clear hp
  obtain ⟨p6, hp⟩ := ex6
  have HP6 := Aside0.mk (fun w1 h => parse_calls atoiWF (bs [109, 105, 110, 40, 97, 41]) w1 (h : WF w1))
  rw [hp] at HP6
  clear hp
  obtain ⟨x, hp, hc1, hc2, hc3⟩ := ex7
  have HP7 := Aside0.mk (fun w1 h => parse_calls atoiWF (bs [97, 32, 43, 32, 49, 32, 60, 32, 98]) w1 (h : WF w1))
  rw [hp] at HP7
  have HC1 := Aside0.mk (fun A A1 c c1 w1 h h' => Check_calls [sgN 97 2, sgN 98 2] x A A1 c c1 w1 h h' (by decide) (by decide))
  have HC2 := Aside0.mk (fun A A1 c c1 w1 h h' => Check_calls [sgN 97 1, sgN 98 2] x A A1 c c1 w1 h h' (by decide) (by decide))
  have HC3 := Aside0.mk (fun A A1 c c1 w1 h h' => Check_calls [] x A A1 c c1 w1 h h' (by decide) (by decide))
  rw [hc1] at HC1
  rw [hc2] at HC2
  rw [hc3] at HC3
  simp only [List.length_cons, List.length_nil, Nat.zero_add, Nat.reduceAdd] at HC1 HC2 HC3
  obtain ⟨hn1, hn2, hn3⟩ := ex8
  have HN1 := Aside0.mk (fun w1 => name_calls (bs [120, 95, 49]) w1)
  have HN2 := Aside0.mk (fun w1 => name_calls (bs [110, 111, 116]) w1)
  have HN3 := Aside0.mk (fun w1 => name_calls (bs [95, 120]) w1)
  rw [hn1] at HN1
  rw [hn2] at HN2
  rw [hn3] at HN3
  have HF := Aside0.mk (fun w1 h => Format_calls zX none 0 w1 (Kd.C_nil _ _) (h : WF w1))
  rw [ex9] at HF
  have HF : Aside0 (∀ w1 : World, WF w1 → Calls Tryd.prog 16 #[.agg #[.int .i64 0, .int .i64 0, .string { data := #[] }, .slice none 0 0]] w1 fun e w' => e = .returned (.string (bs [])) ∧ Below w1.heap.size w1 w') := HF
  clear hp hc1 hc2 hc3 hn1 hn2 hn3 hw
  go_enter Tryd.func7, Tryd.ntmps7
  go_wp2_with fail
  with_reducible refine (HP1.out _ HW.out).mono ?_
  clear HP1
  rintro e w1 ⟨v1, rfl, hx, HD⟩
  obtain ⟨A1, c1, rfl⟩ := Kd.R_slice hx
  dsimp only at hx ⊢
  have HA := Aside0.mk (below_alloc (Below.refl w1.heap.size w1) (.cells (cE p1 (.slice A1 p1.f3.length c1)) 24))
  replace HW := Aside0.mk (WF_stay (WF_stay HW.out HD) HA.out)
  replace HB := Aside0.mk (below_step (below_step HB.out HD) HA.out)
  clear HA hx HD
  go_wp2_with fail
  with_reducible refine (HP2.out _ HW.out).mono ?_
  clear HP2
  rintro e w2 ⟨v2, rfl, hx, HD⟩
  obtain ⟨A2, c2, rfl⟩ := Kd.R_slice hx
  dsimp only at hx ⊢
  have HA := Aside0.mk (below_alloc (Below.refl w2.heap.size w2) (.cells (cE p2 (.slice A2 p2.f3.length c2)) 24))
  replace HW := Aside0.mk (WF_stay (WF_stay HW.out HD) HA.out)
  replace HB := Aside0.mk (below_step (below_step HB.out HD) HA.out)
  clear HA hx HD
  go_wp2_with fail
  with_reducible refine (HP3.out _ HW.out).mono ?_
  clear HP3
  rintro e w3 ⟨v3, rfl, hx, HD⟩
  obtain ⟨A3, c3, rfl⟩ := Kd.R_slice hx
  dsimp only at hx ⊢
  have HA := Aside0.mk (below_alloc (Below.refl w3.heap.size w3) (.cells (cE p3 (.slice A3 p3.f3.length c3)) 24))
  replace HW := Aside0.mk (WF_stay (WF_stay HW.out HD) HA.out)
  replace HB := Aside0.mk (below_step (below_step HB.out HD) HA.out)
  clear HA hx HD
  go_wp2_with fail
  with_reducible refine (HP4.out _ HW.out).mono ?_
  clear HP4
  rintro e w4 ⟨v4, rfl, hx, HD⟩
  obtain ⟨A4, c4, rfl⟩ := Kd.R_slice hx
  dsimp only at hx ⊢
  have HA := Aside0.mk (below_alloc (Below.refl w4.heap.size w4) (.cells (cE p4 (.slice A4 p4.f3.length c4)) 24))
  replace HW := Aside0.mk (WF_stay (WF_stay HW.out HD) HA.out)
  replace HB := Aside0.mk (below_step (below_step HB.out HD) HA.out)
  clear HA hx HD
  go_wp2_with fail
  with_reducible refine (HP5.out _ HW.out).mono ?_
  clear HP5
  rintro e w5 ⟨v5, rfl, hx, HD⟩
  obtain ⟨A5, c5, rfl⟩ := Kd.R_slice hx
  dsimp only at hx ⊢
  have HA := Aside0.mk (below_alloc (Below.refl w5.heap.size w5) (.cells (cE p5 (.slice A5 p5.f3.length c5)) 24))
  replace HW := Aside0.mk (WF_stay (WF_stay HW.out HD) HA.out)
  replace HB := Aside0.mk (below_step (below_step HB.out HD) HA.out)
  clear HA hx HD
  go_wp2_with fail
  with_reducible refine (HP6.out _ HW.out).mono ?_
  clear HP6
  rintro e w6 ⟨v6, rfl, hx, HD⟩
  obtain ⟨A6, c6, rfl⟩ := Kd.R_slice hx
  dsimp only at hx ⊢
  have HA := Aside0.mk (below_alloc (Below.refl w6.heap.size w6) (.cells (cE p6 (.slice A6 p6.f3.length c6)) 24))
  replace HW := Aside0.mk (WF_stay (WF_stay HW.out HD) HA.out)
  replace HB := Aside0.mk (below_step (below_step HB.out HD) HA.out)
  clear HA hx HD
  go_wp2_with fail
  with_reducible refine (HP7.out _ HW.out).mono ?_
  clear HP7
  rintro e w7 ⟨v7, rfl, hx, HD⟩
  obtain ⟨A7, c7, rfl⟩ := Kd.R_slice hx
  dsimp only at hx ⊢
  have HA := Aside0.mk (below_alloc (Below.refl w7.heap.size w7) (.cells (cE x (.slice A7 x.f3.length c7)) 24))
  have BX := Aside0.mk (Bx.new hx)
  replace HW := Aside0.mk (WF_stay (WF_stay HW.out HD) HA.out)
  replace HB := Aside0.mk (below_step (below_step HB.out HD) HA.out)
  clear HA hx HD
  have x0 := BX.out.c0
  have x1 := BX.out.c1
  have x2 := BX.out.c2
  have x3 := BX.out.c3
  have HA := Aside0.mk (below_alloc (Below.refl (w7.alloc (.cells (cE x (.slice A7 x.f3.length c7)) 24)).heap.size (w7.alloc (.cells (cE x (.slice A7 x.f3.length c7)) 24))) (.cells #[.string (bs [97]), .int .i64 2, .string (bs [98]), .int .i64 2] 37))
  have HG := Aside0.mk (sigs_two (sgN 97 2) (sgN 98 2) (heap_alloc_new (w7.alloc (.cells (cE x (.slice A7 x.f3.length c7)) 24)) (.cells #[.string (bs [97]), .int .i64 2, .string (bs [98]), .int .i64 2] 37)))
  rw [show (w7.alloc (.cells (cE x (.slice A7 x.f3.length c7)) 24)).heap.size = w7.heap.size + 1 by simp] at HG
  go_wp2_with fail
  with_reducible refine (HC1.out A7 (some ⟨w7.heap.size + 1, 0, none⟩) c7 2 _ (Kd.C_below BX.out.rd HA.out) HG.out).mono ?_
  clear HC1
  rintro e w8 ⟨rfl, HD⟩
  replace HW := Aside0.mk (WF_stay (WF_stay HW.out HA.out) HD)
  replace HB := Aside0.mk (below_step (below_step HB.out HA.out) HD)
  replace BX := Aside0.mk ((BX.out.below HA.out).below HD)
  clear HA HG HD x0 x1 x2 x3
  have x0 := BX.out.c0
  have x1 := BX.out.c1
  have x2 := BX.out.c2
  have x3 := BX.out.c3
  have HA := Aside0.mk (below_alloc (Below.refl w8.heap.size w8) (.cells #[.string (bs [97]), .int .i64 1, .string (bs [98]), .int .i64 2] 37))
  have HG := Aside0.mk (sigs_two (sgN 97 1) (sgN 98 2) (heap_alloc_new w8 (.cells #[.string (bs [97]), .int .i64 1, .string (bs [98]), .int .i64 2] 37)))
  go_wp2_with fail
  with_reducible refine (HC2.out A7 (some ⟨w8.heap.size, 0, none⟩) c7 2 _ (Kd.C_below BX.out.rd HA.out) HG.out).mono ?_
  clear HC2
  rintro e w9 ⟨rfl, HD⟩
  replace HW := Aside0.mk (WF_stay (WF_stay HW.out HA.out) HD)
  replace HB := Aside0.mk (below_step (below_step HB.out HA.out) HD)
  replace BX := Aside0.mk ((BX.out.below HA.out).below HD)
  clear HA HG HD x0 x1 x2 x3
  have x0 := BX.out.c0
  have x1 := BX.out.c1
  have x2 := BX.out.c2
  have x3 := BX.out.c3
  go_wp2_with fail
  with_reducible refine (HC3.out A7 none c7 0 _ BX.out.rd (Kd.C_nil _ _)).mono ?_
  clear HC3
  rintro e w10 ⟨rfl, HD⟩
  replace HW := Aside0.mk (WF_stay HW.out HD)
  replace HB := Aside0.mk (below_step HB.out HD)
  clear HD x0 x1 x2 x3 BX
  go_wp2_with fail
  with_reducible refine (HK.out _ HW.out).mono ?_
  clear HK
  rintro e w11 ⟨rfl, HD⟩
  replace HW := Aside0.mk (WF_stay HW.out HD)
  replace HB := Aside0.mk (below_step HB.out HD)
  clear HD
  go_wp2_with fail
  with_reducible refine (HN1.out _).mono ?_
  clear HN1
  rintro e w12 ⟨rfl, HD⟩
  replace HW := Aside0.mk (WF_stay HW.out HD)
  replace HB := Aside0.mk (below_step HB.out HD)
  clear HD
  go_wp2_with fail
  with_reducible refine (HN2.out _).mono ?_
  clear HN2
  rintro e w13 ⟨rfl, HD⟩
  replace HW := Aside0.mk (WF_stay HW.out HD)
  replace HB := Aside0.mk (below_step HB.out HD)
  clear HD
  go_wp2_with fail
  with_reducible refine (HN3.out _).mono ?_
  clear HN3
  rintro e w14 ⟨rfl, HD⟩
  replace HW := Aside0.mk (WF_stay HW.out HD)
  replace HB := Aside0.mk (below_step HB.out HD)
  clear HD
  go_wp2_with fail
  with_reducible refine (HF.out _ HW.out).mono ?_
  clear HF
  rintro e w15 ⟨rfl, HD⟩
  replace HB := Aside0.mk (below_step HB.out HD)
  clear HD
  go_wp2_with fail
  go_ret
  exact ⟨by first | rfl | simp, HB.out⟩
end Go.Proofs.YtbbopomecanaoaaDoor.A
namespace Go.Proofs.YtbbopomecanaoaaDoor.A
open Go.ChangeShapes Go.WideShapes Go.ChangeAt Go.RowKit
set_option linter.unusedVariables false
abbrev laid1 : List (String × DataW Unit) := [("math/bits.deBruijn32tab", Rows.laid_math_bits_deBruijn32tab), ("math/bits.deBruijn64tab", Rows.laid_math_bits_deBruijn64tab), ("internal/strconv.uint64pow10", Rows.laid_internal_strconv_uint64pow10), ("strconv.ErrRange", Rows.laid_strconv_ErrRange), ("strconv.ErrSyntax", Rows.laid_strconv_ErrSyntax)]
theorem door_met (os : Os) (args : Array Value) : laidMetH Tryd.prog laid1 ((World.doorLaid Tryd.prog 400 os).forCall (fun _ _ => 0) ⟨#[], args, []⟩).memory :=
  laidMetH_of_parts3 (fuel := 8) (laidMet_of_run' 8 (by kernel_rfl) (by kernel_rfl)) (by kernel_rfl) (by kernel_rfl)
theorem gPow : Tryd.prog.globalNamed "internal/strconv.uint64pow10" = some 1 := by kernel_rfl
theorem tPow : (Tryd.prog.globals[1]?).map (·.type) = some 142 := by kernel_rfl
theorem gErr : Tryd.prog.globalNamed "strconv.ErrRange" = some 3 := by kernel_rfl
theorem tErr : (Tryd.prog.globals[3]?).map (·.type) = some 128 := by kernel_rfl
theorem star : "*" ++ "errors.errorString" = "*errors.errorString" := by decide
theorem rowErr (u : TypeId) (h : Tryd.prog.typeName? 3 u = some "*errors.errorString") : u = 164 :=
  typeName_ptr_named (nm := "errors.errorString") (by rw [star]; kernel_rfl) (by kernel_rfl) (by decide) u (by rw [star]; exact h)
theorem powData : (Rows.laid_internal_strconv_uint64pow10 : DataW Unit) = Lib.tabData .u64 Lib.pow10Tab := by kernel_rfl
theorem of_laid {W : World} (h : laidMetH Tryd.prog laid1 W) : WF W := by
  rw [MakeChecks.laidMetH_plain _ _ _ (by kernel_rfl)] at h
  have h2 := h.tail.tail
  refine ⟨?_, ?_⟩
  · obtain ⟨a0, s0, hv0, -, -, -⟩ := laid_sentinel h2.tail gErr tErr Tryd.underlying128 rowErr Tryd.underlying164 Tryd.underlying166 rfl rfl Tryd.underlying9 (by kernel_rfl) (by kernel_rfl)
    exact ⟨_, by have h0 := World.var?_cell gErr hv0 0; simpa using h0, Or.inr ⟨_, _, rfl⟩⟩
  · rw [powData] at h2
    exact Lib.tabIs_of_head gPow tPow Tryd.underlying142 Tryd.underlying135 (by kernel_rfl) (by kernel_rfl) h2
end Go.Proofs.YtbbopomecanaoaaDoor.A
