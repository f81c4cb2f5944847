import Derived.Test.YtbbopomecanaoaaDoorBA10
import Derived.Laws.IdiomStrings
import Derived.ProofKit
import Derived.Deep.Slices
import Derived.Deep.Fields
import Derived.OpenShut
import Derived.Test.YtbbopomecanaoaaDoorRows
import Derived.LaidMore
import Derived.LaidOnce
import Derived.Stop.Joined
import Derived.Stop.LaidErr
import Derived.Lib.LaidTab
/- The texts that the law's proof stands on, merged and pruned by program. No condition. -/
namespace Go.Proofs.YtbbopomecanaoaaDoor.A
open Go.RowKit Go.Proofs.YtbbopomecanaoaaDoorW.PrintWords Go.Proofs.YtbbopomecanaoaaDoorW.PrintLast Go.Proofs.YtbbopomecanaoaaDoorW.PrintMore Go.Proofs.YtbbopomecanaoaaDoor.XK
open Go.Proofs.YtbbopomecanaoaaDoor
attribute [local go_sem] max2_int min2_int max_two min_two max_three min_three max_four min_four fld1 fld3
set_option linter.unusedVariables false
set_option linter.unusedSimpArgs false
def WI (w : World) : Prop := Lib.TabIs Tryd.prog w "internal/strconv.uint64pow10" .u64 Lib.pow10Tab
theorem WI_stay {w w' : World} (h : WI w) (hb : Below w.heap.size w w') : WI w' := by
  unfold WI Lib.TabIs World.var? at *
  cases hg : Tryd.prog.globalNamed "internal/strconv.uint64pow10" with
  | none => simp [hg] at h
  | some g =>
    simp only [hg, Option.bind_some] at h ⊢
    have hlt : g < w.heap.size := by
      rcases Nat.lt_or_ge g w.heap.size with h' | h'
      · exact h'
      · rw [Array.getElem?_eq_none h'] at h; simp at h
    rw [hb.block g hlt]
    exact h
theorem below_growN (w : World) (k : Nat) (os : Array Obj) : Below w.heap.size w (Sort.grow (w.drewN k) os) := by
  have h := pw_below_drewN (Below.refl w.heap.size w) k
  exact ⟨h.os, h.tape, h.output, by
    show _ ≤ ((w.drewN k).heap ++ os).size
    rw [Array.size_append]
    have := h.size
    omega, fun j hj => by
    show ((w.drewN k).heap ++ os)[j]? = _
    rw [Array.getElem?_append_left (by have := h.size; omega)]
    exact h.block j hj⟩
theorem itoa_calls (n : Int) (h0 : 0 ≤ n) (h1 : n ≤ 32767) (w : World) (hw : WI w) : Calls Tryd.prog 54 #[.int .i64 n] w fun e w' => e = .returned (.string (numB n)) ∧ Below w.heap.size w w' := by
  refine (Tryd.strconv_Itoa n (by omega) (by omega) w hw).mono ?_
  rintro e w' ⟨rfl, k, os, rfl⟩
  refine ⟨?_, below_growN w k os⟩
  have e1 : Lib.itoa n = Lib.decDigits n.toNat := by
    unfold Lib.itoa
    rw [if_neg (by omega)]
  rw [e1]
  rfl
theorem fmtL_get : ∀ (l : List E) (i : Nat), i < l.length → (fmtL l).getD i ByteArray.empty = fmtE (rd_T24 l (i : Int))
  | [], i, h => absurd h (by simp)
  | y :: ys, 0, h => by rw [fmtL]; rfl
  | y :: ys, i + 1, h => by
    rw [fmtL]
    show (fmtL ys).getD i ByteArray.empty = _
    rw [fmtL_get ys i (by simpa using h)]
    rfl
theorem getD_mem {l : List E} {i : Nat} (h : i < l.length) : rd_T24 l (i : Int) ∈ l := by
  unfold rd_T24
  simp [h]
structure Fx (x : E) (A : Option Addr) (c : Nat) (w : World) (xb : Nat) (wr : World) : Prop where
  bx : wr.heap[xb]? = some (.cells #[.int .i64 x.f0, .int .i64 x.f1, .string x.f2, .slice A x.f3.length c] 24 (0, 0))
  ge : w.heap.size ≤ xb
  bl : Below w.heap.size w wr
  wi : WI wr
section
variable {x : E} {A : Option Addr} {c : Nat} {w wr w1 : World} {xb : Nat}
theorem Fx.below (h : Fx x A c w xb wr) (hb : Below wr.heap.size wr w1) : Fx x A c w xb w1 := ⟨blk_below h.bx hb, h.ge, below_step h.bl hb, WI_stay h.wi hb⟩
theorem Fx.kids (h : Fx x A c w xb wr) (hC : (k24).C w A x.f3.length x.f3) : (k24).C wr A x.f3.length x.f3 := Kd.C_below hC h.bl
end
theorem argsB_nil (b : Bool) (a : ByteArray) : argsB b a [] = a := by cases b <;> rfl
theorem argsB_snoc (z : ByteArray) : ∀ (l : List ByteArray) (b : Bool) (a : ByteArray), l ≠ [] → argsB b a (l ++ [z]) = (argsB b a l ++ bs [44, 32]) ++ z
  | [], b, a, h => absurd rfl h
  | [y], true, a, _ => rfl
  | [y], false, a, _ => rfl
  | y :: y2 :: ys, true, a, _ => by
    show argsB false (a ++ y) ((y2 :: ys) ++ [z]) = _
    rw [argsB_snoc z (y2 :: ys) false _ (by simp)]
    rfl
  | y :: y2 :: ys, false, a, _ => by
    show argsB false ((a ++ bs [44, 32]) ++ y) ((y2 :: ys) ++ [z]) = _
    rw [argsB_snoc z (y2 :: ys) false _ (by simp)]
    rfl
set_option maxRecDepth 100000 in
set_option maxHeartbeats 4000000 in
theorem format_calls : ∀ (m : Nat) (x : E) (A : Option Addr) (c : Nat) (w : World), szE x ≤ m → m ≤ 1000 → bE x = true → (k24).C w A x.f3.length x.f3 → WI w →
    Calls Tryd.prog 33 #[.agg (cE x (.slice A x.f3.length c))] w fun e w' => e = .returned (.string (fmtE x)) ∧ Below w.heap.size w w' := by
  intro m
  induction m with
  | zero =>
    intro x A c w h
    have := szE_eq x
    omega
  | succ m ih =>
    intro x A c w hz hm hb hC hw
    have hA := below_alloc (Below.refl w.heap.size w) (.cells (cE x (.slice A x.f3.length c)) 24)
    have HF : Aside0 (Fx x A c w w.heap.size (w.alloc (.cells (cE x (.slice A x.f3.length c)) 24))) := ⟨heap_alloc_new w _, Nat.le_refl _, hA, WI_stay hw hA⟩
    have hbx := hb
    rw [bE_eq, Bool.and_eq_true] at hb
    obtain ⟨n1, n2, n3, n4, -⟩ := node_facts hb.1
    have hsz := szE_eq x
    have hks := fmtL_size x.f3 hb.2
    have HK : Aside0 (∀ i : Nat, i < x.f3.length → ∀ (A' : Option Addr) (c' : Nat) (w' : World), (k24).C w' A' (rd_T24 x.f3 i).f3.length (rd_T24 x.f3 i).f3 → WI w' →
        Calls Tryd.prog 33 #[.agg (cE (rd_T24 x.f3 i) (.slice A' (rd_T24 x.f3 i).f3.length c'))] w' fun e w'' => e = .returned (.string (fmtE (rd_T24 x.f3 i))) ∧ Below w'.heap.size w' w'') :=
      ⟨fun i hi A' c' w' h1 h2 => by
        have hmem := getD_mem hi
        have := szE_mem hmem
        exact ih _ A' c' w' (by omega) (by omega) (bE_mem hb.2 hmem) h1 h2⟩
    have HN := Aside0.mk (And.intro n2 (And.intro n3 n4))
    have HS := Aside0.mk (show sumS (fmtL x.f3) ≤ 31000 by omega)
    have HC := Aside0.mk hC
    have HL := Aside0.mk (fmtL_len x.f3)
    have HA := Aside0.mk (arity3 x.f0)
    have HE := Aside0.mk (fmtE_eq x)
    rw [HE.out]
    clear hz hm hb hC hw hA hbx n1 n2 n3 n4 hsz hks ih HE
    unfold fmtN
    have x0 : (w.alloc (.cells (cE x (.slice A x.f3.length c)) 24)).cell? ⟨w.heap.size, 0, none⟩ = some (.int .i64 x.f0) := blk_cell HF.out.bx 0
    have x1 : (w.alloc (.cells (cE x (.slice A x.f3.length c)) 24)).cell? ⟨w.heap.size, 1, none⟩ = some (.int .i64 x.f1) := blk_cell HF.out.bx 1
    have x2 : (w.alloc (.cells (cE x (.slice A x.f3.length c)) 24)).cell? ⟨w.heap.size, 2, none⟩ = some (.string x.f2) := blk_cell HF.out.bx 2
    have x3 : (w.alloc (.cells (cE x (.slice A x.f3.length c)) 24)).cell? ⟨w.heap.size, 3, none⟩ = some (.slice A x.f3.length c) := blk_cell HF.out.bx 3
    by_cases c1 : x.f0 = 1
    · rw [if_pos c1]
      have b1 : (x.f0 == 1) = true := by simpa using c1
      have HB := Aside0.mk (strconv_FormatBool_53.calls (x.f1 == 1) (if x.f1 = 1 then bs [116, 114, 117, 101] else bs [102, 97, 108, 115, 101]) (w.alloc (.cells (cE x (.slice A x.f3.length c)) 24)) (by
        unfold strconv_FormatBool_53.f strconv_FormatBool_75.f
        by_cases h : x.f1 = 1 <;> simp [h]))
      clear c1
      generalize (if x.f1 = 1 then bs [116, 114, 117, 101] else bs [102, 97, 108, 115, 101]) = r at *
      go_enter Tryd.func33, Tryd.ntmps33
      go_wp2_with fail
      with_reducible refine HB.out.mono ?_
      rintro e w2 ⟨rfl, HD⟩
      replace HF := Aside0.mk (HF.out.below HD.below)
      clear HD HB x0 x1 x2 x3
      go_wp2_with fail
      go_ret
      exact ⟨rfl, HF.out.bl⟩
    rw [if_neg c1]
    have b1 : (x.f0 == 1) = false := by simpa using c1
    by_cases c2 : x.f0 = 2
    · rw [if_pos c2]
      have b2 : (x.f0 == 2) = true := by simpa using c2
      have HB := Aside0.mk (itoa_calls x.f1 HN.out.2.1 (by have := HN.out.2.2; rw [c2] at this; exact this) _ HF.out.wi)
      clear c1 c2
      go_enter Tryd.func33, Tryd.ntmps33
      go_wp2_with fail
      with_reducible refine HB.out.mono ?_
      rintro e w2 ⟨rfl, HD⟩
      replace HF := Aside0.mk (HF.out.below HD)
      clear HD HB x0 x1 x2 x3
      go_wp2_with fail
      go_ret
      exact ⟨rfl, HF.out.bl⟩
    rw [if_neg c2]
    have b2 : (x.f0 == 2) = false := by simpa using c2
    by_cases c3 : x.f0 = 3
    · rw [if_pos c3]
      have b3 : (x.f0 == 3) = true := by simpa using c3
      clear c1 c2 c3
      go_enter Tryd.func33, Tryd.ntmps33
      go_wp2_with fail
      go_ret
      exact ⟨rfl, HF.out.bl⟩
    rw [if_neg c3]
    have b3 : (x.f0 == 3) = false := by simpa using c3
    by_cases c4 : x.f0 = 4
    · rw [if_pos c4]
      have b4 : (x.f0 == 4) = true := by simpa using c4
      have hl : 0 < x.f3.length := by have := HN.out.1; rw [c4] at this; have h1 : (x.f3.length : Int) = 1 := this; omega
      obtain ⟨ad, A3, c3', eA, z0, z1, z2, z3, hl3, hC3⟩ := at_T24 (HF.out.kids HC.out) ((0 : Nat) : Int) (by omega) (by omega)
      have HY := Aside0.mk (HK.out 0 hl A3 c3' _ hC3 HF.out.wi)
      have HG := fmtL_get x.f3 0 hl
      have hsum := getS_le (fmtL x.f3)
      have hs1 := HS.out
      rw [HG] at hsum ⊢
      generalize rd_T24 x.f3 ((0 : Nat) : Int) = y at *
      generalize fmtE y = r at *
      have s1 : (9223372036854775807 < 5 + r.size) = False := eq_false (by omega)
      have s2 : (9223372036854775807 < 5 + r.size + 1) = False := eq_false (by omega)
      have p0 : (0 < (x.f3.length : Int)) = True := eq_true (by omega)
      have p1 : (0 < x.f3.length) = True := eq_true hl
      subst eA
      rw [show (((0 : Nat) : Int)).toNat = 0 from rfl] at z0 z1 z2 z3
      rw [Nat.zero_mul, Addr.add_zero'] at z0 z1 z2 z3
      clear c1 c2 c3 c4 HG hsum hs1 hl hl3 hC3
      go_enter Tryd.func33, Tryd.ntmps33
      go_wp2_with fail
      with_reducible refine HY.out.mono ?_
      rintro e w2 ⟨rfl, HD⟩
      replace HF := Aside0.mk (HF.out.below HD)
      clear HD HY x0 x1 x2 x3 z0 z1 z2 z3
      go_wp2_with fail
      go_ret
      exact ⟨rfl, HF.out.bl⟩
    rw [if_neg c4]
    have b4 : (x.f0 == 4) = false := by simpa using c4
    by_cases c12 : x.f0 ≤ 12
    · rw [if_pos c12]
      have hop : 5 ≤ x.f0 := by
        have h1 := HN.out.1
        cases Int.lt_or_le x.f0 5 with
        | inr h => exact h
        | inl h =>
          have : arityI x.f0 = -1 := by unfold arityI; rw [if_neg (by omega), if_neg (by omega), if_neg (by omega), if_neg (by omega)]
          omega
      have hl : x.f3.length = 2 := by
        have h1 := HN.out.1
        have : arityI x.f0 = 2 := by unfold arityI; rw [if_neg (by omega), if_neg (by omega), if_pos (by omega)]
        omega
      obtain ⟨ad, A3, c3', eA, z0, z1, z2, z3, hl3, hC3⟩ := at_T24 (HF.out.kids HC.out) ((0 : Nat) : Int) (by omega) (by omega)
      obtain ⟨ad2, A4, c4', eA2, u0, u1, u2, u3, hl4, hC4⟩ := at_T24 (HF.out.kids HC.out) ((1 : Nat) : Int) (by omega) (by omega)
      rw [eA] at eA2
      obtain rfl := Option.some.inj eA2
      have HCY := Aside0.mk hC3
      have HCZ := Aside0.mk hC4
      have HY := Aside0.mk (fun w' => HK.out 0 (by omega) A3 c3' w')
      have HZ := Aside0.mk (fun w' => HK.out 1 (by omega) A4 c4' w')
      have HG := fmtL_get x.f3 0 (by omega)
      have HG2 := fmtL_get x.f3 1 (by omega)
      have hsum := getS_le (fmtL x.f3)
      have hs1 := HS.out
      rw [HG, HG2] at hsum ⊢
      have HSG := Aside0.mk (equation_sign.calls x.f0 (bs (signL x.f0)) (w.alloc (.cells (cE x (.slice A x.f3.length c)) 24)) (by
        have : x.f0 = 5 ∨ x.f0 = 6 ∨ x.f0 = 7 ∨ x.f0 = 8 ∨ x.f0 = 9 ∨ x.f0 = 10 ∨ x.f0 = 11 ∨ x.f0 = 12 := by omega
        rcases this with h | h | h | h | h | h | h | h <;> rw [h] <;> rfl))
      have hsn : ((bs (signL x.f0)).toList != []) = true := by
        rw [bs_list]
        have : x.f0 = 5 ∨ x.f0 = 6 ∨ x.f0 = 7 ∨ x.f0 = 8 ∨ x.f0 = 9 ∨ x.f0 = 10 ∨ x.f0 = 11 ∨ x.f0 = 12 := by omega
        rcases this with h | h | h | h | h | h | h | h <;> rw [h] <;> rfl
      have hsl : (bs (signL x.f0)).size ≤ 3 := by rw [bs_size]; exact sign_len _
      generalize bs (signL x.f0) = sg at *
      generalize rd_T24 x.f3 ((0 : Nat) : Int) = y at *
      generalize rd_T24 x.f3 ((1 : Nat) : Int) = z at *
      generalize fmtE y = r1 at *
      generalize fmtE z = r2 at *
      have s1 : (9223372036854775807 < 1 + r1.size) = False := eq_false (by omega)
      have s2 : (9223372036854775807 < 1 + r1.size + 1) = False := eq_false (by omega)
      have s3 : (9223372036854775807 < 1 + r1.size + 1 + sg.size) = False := eq_false (by omega)
      have s4 : (9223372036854775807 < 1 + r1.size + 1 + sg.size + 1) = False := eq_false (by omega)
      have s5 : (9223372036854775807 < 1 + r1.size + 1 + sg.size + 1 + r2.size) = False := eq_false (by omega)
      have s6 : (9223372036854775807 < 1 + r1.size + 1 + sg.size + 1 + r2.size + 1) = False := eq_false (by omega)
      have p0 : (0 < (x.f3.length : Int)) = True := eq_true (by omega)
      have p1 : (0 < x.f3.length) = True := eq_true (by omega)
      have p2 : (1 < (x.f3.length : Int)) = True := eq_true (by omega)
      have p3 : (1 < x.f3.length) = True := eq_true (by omega)
      have hsn2 : (sg.toList == []) = false := by simpa using hsn
      subst eA
      rw [show (((0 : Nat) : Int)).toNat = 0 from rfl] at z0 z1 z2 z3
      rw [Nat.zero_mul, Addr.add_zero'] at z0 z1 z2 z3
      rw [show (((1 : Nat) : Int)).toNat * 4 = 4 from rfl, show ad.add 4 = ⟨ad.block, ad.off + 4, none⟩ by simp [Addr.add]] at u0 u1 u2 u3
      dsimp only at u1 u2 u3
      clear c1 c2 c3 c4 c12 HG HG2 hsum hs1 hl hl3 hC3 hl4 hC4 hop hsl
      go_enter Tryd.func33, Tryd.ntmps33
      go_wp2_with fail
      with_reducible refine HSG.out.mono ?_
      rintro e w2 ⟨rfl, HD⟩
      replace HD := Aside0.mk HD.below
      replace HF := Aside0.mk (HF.out.below HD.out)
      replace HCY := Aside0.mk (Kd.C_below HCY.out HD.out)
      replace HCZ := Aside0.mk (Kd.C_below HCZ.out HD.out)
      replace z0 := (HD.out.cell (World.block_lt_of_cell? _ _ z0)).trans z0
      replace z1 := (HD.out.cell (World.block_lt_of_cell? _ _ z1)).trans z1
      replace z2 := (HD.out.cell (World.block_lt_of_cell? _ _ z2)).trans z2
      replace z3 := (HD.out.cell (World.block_lt_of_cell? _ _ z3)).trans z3
      replace u0 := (HD.out.cell (World.block_lt_of_cell? _ _ u0)).trans u0
      replace u1 := (HD.out.cell (World.block_lt_of_cell? _ _ u1)).trans u1
      replace u2 := (HD.out.cell (World.block_lt_of_cell? _ _ u2)).trans u2
      replace u3 := (HD.out.cell (World.block_lt_of_cell? _ _ u3)).trans u3
      clear HD HSG x0 x1 x2
      replace x3 : w2.cell? ⟨w.heap.size, 3, none⟩ = some (.slice (some ad) x.f3.length c) := blk_cell HF.out.bx 3
      go_wp2_with fail
      refine Q.q_start (by kernel_rfl) (by kernel_rfl) ?_
      refine Q.q_value (N := some 38) (v := ?_) (a' := ?_) rfl (by rfl) ?_ ?_ ?_
      rotate_left
      · intro w' hb
        clear hb
        go_simp
        with_reducible rfl
      rotate_left
      · simp only [Act.put, List.setIfInBounds_toArray, List.set_cons_zero, List.set_cons_succ, i64_w, i32_w]
        rfl
      refine Q.q_value (N := some 39) (v := ?_) (a' := ?_) rfl (by rfl) ?_ ?_ ?_
      rotate_left
      · intro w' hb
        have s0 := pw_cell_below hb x3
        clear hb
        go_simp
        with_reducible rfl
      rotate_left
      · simp only [Act.put, List.setIfInBounds_toArray, List.set_cons_zero, List.set_cons_succ, i64_w, i32_w]
        rfl
      refine Q.q_value (N := some 40) (v := ?_) (a' := ?_) rfl (by rfl) ?_ ?_ ?_
      rotate_left
      · intro w' hb
        clear hb
        go_simp
        with_reducible rfl
      rotate_left
      · simp only [Act.put, List.setIfInBounds_toArray, List.set_cons_zero, List.set_cons_succ, i64_w, i32_w]
        rfl
      refine Q.q_value (N := some 41) (v := ?_) (a' := ?_) rfl (by rfl) ?_ ?_ ?_
      rotate_left
      · intro w' hb
        have s0 := pw_cell_below hb z0
        have s1 := pw_cell_below hb z1
        have s2 := pw_cell_below hb z2
        have s3 := pw_cell_below hb z3
        clear hb
        go_simp
        with_reducible rfl
      rotate_left
      · simp only [Act.put, List.setIfInBounds_toArray, List.set_cons_zero, List.set_cons_succ, i64_w, i32_w]
        rfl
      refine Q.q_call (N := some 42) (v := .string r1) (a' := ?_) 33 #[.agg (cE y (.slice A3 y.f3.length c3'))] rfl (by rfl) Tryd.func33 (by kernel_rfl) rfl (by rfl) (by first | rfl | (simp only [List.map_toArray, List.map_cons, List.map_nil]; done) | (simp only [List.map_toArray, List.map_cons, List.map_nil]; rfl)) (fun w' hb => (HY.out w' (Kd.C_below HCY.out hb) (WI_stay HF.out.wi hb)).mono fun e w'' ⟨he, hb'⟩ => ⟨he, below_step hb hb'⟩) ?_ ?_
      rotate_left
      · simp only [Act.put, List.setIfInBounds_toArray, List.set_cons_zero, List.set_cons_succ, i64_w, i32_w]
        rfl
      refine Q.q_value (N := some 43) (v := ?_) (a' := ?_) rfl (by rfl) ?_ ?_ ?_
      rotate_left
      · intro w' hb
        clear hb
        go_simp
        with_reducible rfl
      rotate_left
      · simp only [Act.put, List.setIfInBounds_toArray, List.set_cons_zero, List.set_cons_succ, i64_w, i32_w]
        rfl
      refine Q.q_value (N := some 44) (v := ?_) (a' := ?_) rfl (by rfl) ?_ ?_ ?_
      rotate_left
      · intro w' hb
        clear hb
        go_simp
        with_reducible rfl
      rotate_left
      · simp only [Act.put, List.setIfInBounds_toArray, List.set_cons_zero, List.set_cons_succ, i64_w, i32_w]
        rfl
      refine Q.q_value (N := some 45) (v := ?_) (a' := ?_) rfl (by rfl) ?_ ?_ ?_
      rotate_left
      · intro w' hb
        clear hb
        go_simp
        with_reducible rfl
      rotate_left
      · simp only [Act.put, List.setIfInBounds_toArray, List.set_cons_zero, List.set_cons_succ, i64_w, i32_w]
        rfl
      refine Q.q_value (N := some 46) (v := ?_) (a' := ?_) rfl (by rfl) ?_ ?_ ?_
      rotate_left
      · intro w' hb
        clear hb
        go_simp
        with_reducible rfl
      rotate_left
      · simp only [Act.put, List.setIfInBounds_toArray, List.set_cons_zero, List.set_cons_succ, i64_w, i32_w]
        rfl
      refine Q.q_value (N := some 47) (v := ?_) (a' := ?_) rfl (by rfl) ?_ ?_ ?_
      rotate_left
      · intro w' hb
        clear hb
        go_simp
        with_reducible rfl
      rotate_left
      · simp only [Act.put, List.setIfInBounds_toArray, List.set_cons_zero, List.set_cons_succ, i64_w, i32_w]
        rfl
      refine Q.q_value (N := some 48) (v := ?_) (a' := ?_) rfl (by rfl) ?_ ?_ ?_
      rotate_left
      · intro w' hb
        clear hb
        go_simp
        with_reducible rfl
      rotate_left
      · simp only [Act.put, List.setIfInBounds_toArray, List.set_cons_zero, List.set_cons_succ, i64_w, i32_w]
        rfl
      refine Q.q_value (N := some 49) (v := ?_) (a' := ?_) rfl (by rfl) ?_ ?_ ?_
      rotate_left
      · intro w' hb
        have s0 := pw_cell_below hb x3
        clear hb
        go_simp
        with_reducible rfl
      rotate_left
      · simp only [Act.put, List.setIfInBounds_toArray, List.set_cons_zero, List.set_cons_succ, i64_w, i32_w]
        rfl
      refine Q.q_value (N := some 50) (v := ?_) (a' := ?_) rfl (by rfl) ?_ ?_ ?_
      rotate_left
      · intro w' hb
        clear hb
        go_simp
        with_reducible rfl
      rotate_left
      · simp only [Act.put, List.setIfInBounds_toArray, List.set_cons_zero, List.set_cons_succ, i64_w, i32_w]
        rfl
      refine Q.q_value (N := some 51) (v := ?_) (a' := ?_) rfl (by rfl) ?_ ?_ ?_
      rotate_left
      · intro w' hb
        have s0 := pw_cell_below hb u0
        have s1 := pw_cell_below hb u1
        have s2 := pw_cell_below hb u2
        have s3 := pw_cell_below hb u3
        clear hb
        go_simp
        with_reducible rfl
      rotate_left
      · simp only [Act.put, List.setIfInBounds_toArray, List.set_cons_zero, List.set_cons_succ, i64_w, i32_w]
        rfl
      refine Q.q_call (N := some 52) (v := .string r2) (a' := ?_) 33 #[.agg (cE z (.slice A4 z.f3.length c4'))] rfl (by rfl) Tryd.func33 (by kernel_rfl) rfl (by rfl) (by first | rfl | (simp only [List.map_toArray, List.map_cons, List.map_nil]; done) | (simp only [List.map_toArray, List.map_cons, List.map_nil]; rfl)) (fun w' hb => (HZ.out w' (Kd.C_below HCZ.out hb) (WI_stay HF.out.wi hb)).mono fun e w'' ⟨he, hb'⟩ => ⟨he, below_step hb hb'⟩) ?_ ?_
      rotate_left
      · simp only [Act.put, List.setIfInBounds_toArray, List.set_cons_zero, List.set_cons_succ, i64_w, i32_w]
        rfl
      refine Q.q_value (N := some 53) (v := ?_) (a' := ?_) rfl (by rfl) ?_ ?_ ?_
      rotate_left
      · intro w' hb
        clear hb
        go_simp
        with_reducible rfl
      rotate_left
      · simp only [Act.put, List.setIfInBounds_toArray, List.set_cons_zero, List.set_cons_succ, i64_w, i32_w]
        rfl
      refine Q.q_value (N := some 54) (v := ?_) (a' := ?_) rfl (by rfl) ?_ ?_ ?_
      rotate_left
      · intro w' hb
        clear hb
        go_simp
        with_reducible rfl
      rotate_left
      · simp only [Act.put, List.setIfInBounds_toArray, List.set_cons_zero, List.set_cons_succ, i64_w, i32_w]
        rfl
      refine Q.q_value (N := some 2) (v := ?_) (a' := ?_) rfl (by rfl) ?_ ?_ ?_
      rotate_left
      · intro w' hb
        clear hb
        go_simp
        with_reducible rfl
      rotate_left
      · simp only [Act.put, List.setIfInBounds_toArray, List.set_cons_zero, List.set_cons_succ, i64_w, i32_w]
        rfl
      refine wpQuiet_nil ?_
      intro w9 HB9
      replace HF := Aside0.mk (HF.out.below HB9)
      clear HB9 x3 z0 z1 z2 z3 u0 u1 u2 u3
      go_wp2_with fail
      go_ret
      exact ⟨rfl, HF.out.bl⟩
    rw [if_neg c12]
    have hop : 13 ≤ x.f0 ∧ x.f0 ≤ 22 := by
      have h1 := HN.out.1
      refine ⟨by omega, ?_⟩
      cases Int.lt_or_le 22 x.f0 with
      | inr h => exact h
      | inl h =>
        have : arityI x.f0 = -1 := by unfold arityI; rw [if_neg (by omega), if_neg (by omega), if_neg (by omega), if_neg (by omega)]
        omega
    have hop2 : x.f0 = 13 ∨ x.f0 = 14 ∨ x.f0 = 15 ∨ x.f0 = 16 ∨ x.f0 = 17 ∨ x.f0 = 18 ∨ x.f0 = 19 ∨ x.f0 = 20 ∨ x.f0 = 21 ∨ x.f0 = 22 := by omega
    have hl : 0 < x.f3.length := by
      have h1 := HN.out.1
      rcases hop2 with h | h | h | h | h | h | h | h | h | h <;> (rw [h] at h1; revert h1; unfold arityI; simp; omega)
    have HSG := Aside0.mk (equation_sign.calls x.f0 (⟨#[]⟩ : ByteArray) (w.alloc (.cells (cE x (.slice A x.f3.length c)) 24)) (by
      rcases hop2 with h | h | h | h | h | h | h | h | h | h <;> rw [h] <;> rfl))
    have HCF : Aside0 (equation_call.f x.f0 = some (bs (callL x.f0))) := ⟨by
      rcases hop2 with h | h | h | h | h | h | h | h | h | h <;> rw [h] <;> rfl⟩
    have hcl : (bs (callL x.f0)).size ≤ 5 := by rw [bs_size]; exact call_len _
    have hnum := numB_size x.f1 (by have := HN.out.2.2; have := bound_le x.f0; omega)
    have HT : Aside0 ((if x.f0 = 19 ∨ x.f0 = 20 then (argsB true (bs (callL x.f0) ++ bs [40]) (fmtL x.f3) ++ (bs [44, 32] ++ numB x.f1)) else argsB true (bs (callL x.f0) ++ bs [40]) (fmtL x.f3)) ++ bs [41] = argsB true (bs (callL x.f0) ++ bs [40]) (if x.f0 = 19 ∨ x.f0 = 20 then fmtL x.f3 ++ [numB x.f1] else fmtL x.f3) ++ bs [41]) := ⟨by
      by_cases h : x.f0 = 19 ∨ x.f0 = 20
      · have ha : ∀ a b c : ByteArray, a ++ b ++ c = a ++ (b ++ c) := fun _ _ _ => ByteArray.append_assoc
        rw [if_pos h, if_pos h, argsB_snoc _ _ _ _ (by intro e; have := HL.out; rw [e] at this; simp at this; omega), ha (argsB true (bs (callL x.f0) ++ bs [40]) (fmtL x.f3)) (bs [44, 32]) (numB x.f1)]
      · rw [if_neg h, if_neg h]⟩
    rw [← HT.out]
    have HI := Aside0.mk (itoa_calls x.f1 HN.out.2.1 (by have := HN.out.2.2; have := bound_le x.f0; omega))
    clear HT c1 c2 c3 c4 c12 hop
    have HO2 := Aside0.mk hop2
    have HHL := Aside0.mk hl
    clear hop2 hl
    obtain ⟨cl, hcl2⟩ : ∃ cl, bs (callL x.f0) = cl := ⟨_, rfl⟩
    obtain ⟨nu, hnu2⟩ : ∃ nu, numB x.f1 = nu := ⟨_, rfl⟩
    rw [hcl2] at HCF hcl ⊢
    rw [hnu2] at HI hnum ⊢
    clear hcl2 hnu2
    have HM := Aside0.mk (And.intro hcl hnum)
    obtain ⟨R, hR⟩ : ∃ R, argsB true (cl ++ bs [40]) (fmtL x.f3) = R := ⟨_, rfl⟩
    rw [hR]
    have HR := Aside0.mk hR
    obtain ⟨F, hF⟩ : ∃ F, (if x.f0 = 19 ∨ x.f0 = 20 then R ++ (bs [44, 32] ++ nu) else R) = F := ⟨_, rfl⟩
    rw [hF]
    have HFF := Aside0.mk hF
    clear hR hnum hF
    have s1 : (9223372036854775807 < cl.size + 1) = False := eq_false (by omega)
    clear hcl
    go_enter Tryd.func33, Tryd.ntmps33
    go_wp2_with fail
    with_reducible refine HSG.out.mono ?_
    rintro e w2 ⟨rfl, HD⟩
    replace HF := Aside0.mk (HF.out.below HD.below)
    have HCL := Aside0.mk (equation_call.calls x.f0 cl w2 HCF.out)
    clear HD HSG x0 x1 x2 x3 HCF
    have x0 : w2.cell? ⟨w.heap.size, 0, none⟩ = some (.int .i64 x.f0) := blk_cell HF.out.bx 0
    go_wp2_with fail
    with_reducible refine HCL.out.mono ?_
    rintro e w3 ⟨rfl, HD⟩
    replace HF := Aside0.mk (HF.out.below HD.below)
    clear HD HCL x0
    have x3 : w3.cell? ⟨w.heap.size, 3, none⟩ = some (.slice A x.f3.length c) := blk_cell HF.out.bx 3
    go_wp2_with fail
    clear x3
    go_loopg [4, 62] x.f3.length (fun gk v4 v62 wr => ∃ (j : Nat) (s : ByteArray), v4 = .string s ∧ v62 = .int .i64 (j : Int) ∧ Aside0 (j + gk = x.f3.length) ∧ Aside0 (argsB (decide (j = 0)) s ((fmtL x.f3).drop j) = R) ∧ Aside0 (s.size + sumS ((fmtL x.f3).drop j) + 2 * gk ≤ 40000) ∧ Aside0 (Fx x A c w w.heap.size wr))
    case atStart => exact ⟨0, cl ++ bs [40], rfl, rfl, ⟨by omega⟩, HR, ⟨by
      have hz0 : (bs [40]).size = 1 := rfl
      rw [List.drop_zero, ByteArray.size_append]
      have h1 := HS.out
      have h2 := HM.out.1
      have h3 := HN.out.1
      have h4 := HA.out
      omega⟩, HF⟩
    case round =>
      clear HR HF s1
      obtain ⟨j, s, rfl, rfl, HJ, HR, HZ, HF⟩ := hrel
      have x0 : wr.cell? ⟨w.heap.size, 0, none⟩ = some (.int .i64 x.f0) := blk_cell HF.out.bx 0
      cases gk with
      | zero =>
        have hj : j = x.f3.length := HJ.out
        have hr := HR.out
        rw [List.drop_eq_nil_of_le (by rw [HL.out]; omega), argsB_nil] at hr
        have hz := HZ.out
        have hm := HM.out
        clear HR HJ
        subst hj
        subst hr
        have x1 : wr.cell? ⟨w.heap.size, 1, none⟩ = some (.int .i64 x.f1) := blk_cell HF.out.bx 1
        have s1 : (9223372036854775807 < s.size + 1) = False := eq_false (by omega)
        have s2 : (9223372036854775807 < 2 + nu.size) = False := eq_false (by omega)
        have s3 : (9223372036854775807 < s.size + (2 + nu.size)) = False := eq_false (by omega)
        have s4 : (9223372036854775807 < s.size + (2 + nu.size) + 1) = False := eq_false (by omega)
        clear hz hm HM
        by_cases c19 : x.f0 = 19
        · have hff := HFF.out
          rw [if_pos (Or.inl c19)] at hff
          clear HFF
          subst hff
          have d1 : (x.f0 == 19) = true := by simpa using c19
          replace HI := Aside0.mk (HI.out wr HF.out.wi)
          clear c19
          go_wp2_with fail
          with_reducible refine HI.out.mono ?_
          rintro e w4 ⟨rfl, HD⟩
          replace HF := Aside0.mk (HF.out.below HD)
          clear HD HI x0 x1
          go_wp2_with fail
          go_ret
          exact ⟨rfl, HF.out.bl⟩
        have d1 : (x.f0 == 19) = false := by simpa using c19
        by_cases c20 : x.f0 = 20
        · have hff := HFF.out
          rw [if_pos (Or.inr c20)] at hff
          clear HFF
          subst hff
          have d2 : (x.f0 == 20) = true := by simpa using c20
          replace HI := Aside0.mk (HI.out wr HF.out.wi)
          clear c19 c20
          go_wp2_with fail
          with_reducible refine HI.out.mono ?_
          rintro e w4 ⟨rfl, HD⟩
          replace HF := Aside0.mk (HF.out.below HD)
          clear HD HI x0 x1
          go_wp2_with fail
          go_ret
          exact ⟨rfl, HF.out.bl⟩
        have d2 : (x.f0 == 20) = false := by simpa using c20
        have hff := HFF.out
        rw [if_neg (by intro h; rcases h with h | h <;> contradiction)] at hff
        clear HFF
        subst hff
        clear c19 c20 HI
        go_wp2_with fail
        go_ret
        exact ⟨rfl, HF.out.bl⟩
      | succ n =>
        have hj : j < x.f3.length := by have := HJ.out; omega
        obtain ⟨ad, A3, c3', eA, z0, z1, z2, z3, hl3, hC3⟩ := at_T24 (HF.out.kids HC.out) (j : Int) (by omega) (by omega)
        have HAB := Aside0.mk (below_alloc (Below.refl wr.heap.size wr) (.cells (cE (rd_T24 x.f3 (j : Int)) (.slice A3 (rd_T24 x.f3 (j : Int)).f3.length c3')) 24))
        have HY := Aside0.mk (HK.out j hj A3 c3' _ (Kd.C_below hC3 HAB.out) (WI_stay HF.out.wi HAB.out))
        have hr := HR.out
        have hz := HZ.out
        have hd : (fmtL x.f3).drop j = fmtE (rd_T24 x.f3 (j : Int)) :: (fmtL x.f3).drop (j + 1) := by
          rw [List.drop_eq_getElem_cons (by rw [HL.out]; exact hj)]
          congr 1
          have := fmtL_get x.f3 j hj
          rw [List.getD_eq_getElem?_getD, List.getElem?_eq_getElem (by rw [HL.out]; exact hj)] at this
          exact this
        rw [hd, sumS] at hz
        rw [hd] at hr
        generalize rd_T24 x.f3 (j : Int) = y at *
        generalize fmtE y = r at *
        have BY := Aside0.mk (heap_alloc_new wr (.cells (cE y (.slice A3 y.f3.length c3')) 24))
        have y0 : (wr.alloc (.cells (cE y (.slice A3 y.f3.length c3')) 24)).cell? ⟨wr.heap.size, 0, none⟩ = some (.int .i64 y.f0) := blk_cell BY.out 0
        have y1 : (wr.alloc (.cells (cE y (.slice A3 y.f3.length c3')) 24)).cell? ⟨wr.heap.size, 1, none⟩ = some (.int .i64 y.f1) := blk_cell BY.out 1
        have y2 : (wr.alloc (.cells (cE y (.slice A3 y.f3.length c3')) 24)).cell? ⟨wr.heap.size, 2, none⟩ = some (.string y.f2) := blk_cell BY.out 2
        have y3 : (wr.alloc (.cells (cE y (.slice A3 y.f3.length c3')) 24)).cell? ⟨wr.heap.size, 3, none⟩ = some (.slice A3 y.f3.length c3') := blk_cell BY.out 3
        subst eA
        rw [Int.toNat_natCast] at z0 z1 z2 z3
        have hfew : x.f3.length ≤ 3 := by have := HN.out.1; have := HA.out; omega
        have hw1 : wrap64 ((j : Int) + 1) = (j : Int) + 1 := by unfold wrap64; omega
        have p0 : (0 ≤ (j : Int)) = True := eq_true (by omega)
        have p1 : ((j : Int) < (x.f3.length : Int)) = True := eq_true (by omega)
        have t0 : decide ((j : Int) < (x.f3.length : Int)) = true := by simpa using hj
        clear hC3 hl3 hd HR HZ BY
        by_cases hj0 : j = 0
        · have q0 : decide ((j : Int) > 0) = false := by simp; omega
          have q2 : (0 < j) = False := eq_false (by omega)
          have q1 : decide (0 < (j : Int)) = false := by simp; omega
          have s1 : (9223372036854775807 < s.size + r.size) = False := eq_false (by omega)
          rw [show decide (j = 0) = true by simpa using hj0] at hr
          have HR : Aside0 (argsB false (s ++ r) ((fmtL x.f3).drop (j + 1)) = R) := ⟨hr⟩
          have HZ : Aside0 ((s ++ r).size + sumS ((fmtL x.f3).drop (j + 1)) + 2 * n ≤ 40000) := ⟨by rw [ByteArray.size_append]; omega⟩
          clear hr hz hj0 hfew
          go_wp2_with fail
          with_reducible refine HY.out.mono ?_
          rintro e w4 ⟨rfl, HD⟩
          replace HF := Aside0.mk ((HF.out.below HAB.out).below HD)
          clear HD HY x0 z0 z1 z2 z3 y0 y1 y2 y3 HAB
          go_wp2_with fail
          go_roundg n
          case measure => omega
          case rel => exact ⟨j + 1, s ++ r, rfl, by first | rfl | (simp; done) | (simp [hw1]; done), ⟨by have := HJ.out; omega⟩, ⟨by rw [show decide (j + 1 = 0) = false by simp]; exact HR.out⟩, HZ, HF⟩
        · have q0 : decide ((j : Int) > 0) = true := by simp; omega
          have q2 : (0 < j) = True := eq_true (by omega)
          have q1 : decide (0 < (j : Int)) = true := by simp; omega
          have s1 : (9223372036854775807 < s.size + 2) = False := eq_false (by omega)
          have s2 : (9223372036854775807 < s.size + 2 + r.size) = False := eq_false (by omega)
          have s3 : (9223372036854775805 < s.size) = False := eq_false (by omega)
          rw [show decide (j = 0) = false by simpa using hj0] at hr
          have HR : Aside0 (argsB false ((s ++ bs [44, 32]) ++ r) ((fmtL x.f3).drop (j + 1)) = R) := ⟨hr⟩
          have HZ : Aside0 (((s ++ bs [44, 32]) ++ r).size + sumS ((fmtL x.f3).drop (j + 1)) + 2 * n ≤ 40000) := ⟨by
            have z2 : (bs [44, 32]).size = 2 := rfl
            rw [ByteArray.size_append, ByteArray.size_append]; omega⟩
          clear hr hz hj0 hfew
          go_wp2_with fail
          with_reducible refine HY.out.mono ?_
          rintro e w4 ⟨rfl, HD⟩
          replace HF := Aside0.mk ((HF.out.below HAB.out).below HD)
          clear HD HY x0 z0 z1 z2 z3 y0 y1 y2 y3 HAB
          go_wp2_with fail
          go_roundg n
          case measure => omega
          case rel => exact ⟨j + 1, (s ++ bs [44, 32]) ++ r, rfl, by first | rfl | (simp; done) | (simp [hw1]; done), ⟨by have := HJ.out; omega⟩, ⟨by rw [show decide (j + 1 = 0) = false by simp]; exact HR.out⟩, HZ, HF⟩
end Go.Proofs.YtbbopomecanaoaaDoor.A
namespace Go.Proofs.YtbbopomecanaoaaDoor.A
open Go.RowKit Go.Proofs.YtbbopomecanaoaaDoorW.PrintWords Go.Proofs.YtbbopomecanaoaaDoorW.PrintLast Go.Proofs.YtbbopomecanaoaaDoorW.PrintMore Go.Proofs.YtbbopomecanaoaaDoor.XK
open Go.Proofs.YtbbopomecanaoaaDoor
attribute [local go_sem] max2_int min2_int max_two min_two max_three min_three max_four min_four fld1 fld3
set_option linter.unusedVariables false
set_option linter.unusedSimpArgs false
def WF (w : World) : Prop := WR w ∧ WI w
theorem WF_stay {w w' : World} (h : WF w) (hb : Below w.heap.size w w') : WF w' := ⟨atoiF.stay w w' h.1 hb, WI_stay h.2 hb⟩
theorem atoiWF : AtoiF WF := ⟨fun s w hd h1 h2 hw => atoiF.calls s w hd h1 h2 hw.1, fun w w' h hb => WF_stay h hb⟩
set_option maxRecDepth 100000 in
set_option maxHeartbeats 4000000 in
theorem Format_calls (x : E) (A : Option Addr) (c : Nat) (w : World) (hC : (k24).C w A x.f3.length x.f3) (hw : WF w) :
    Calls Tryd.prog 16 #[.agg (cE x (.slice A x.f3.length c))] w fun e w' => e = .returned (.string (FormatB x)) ∧ Below w.heap.size w w' := by
  have HA := Aside0.mk (below_alloc (Below.refl w.heap.size w) (.cells (cE x (.slice A x.f3.length c)) 24))
  have BX := Aside0.mk (heap_alloc_new w (.cells (cE x (.slice A x.f3.length c)) 24))
  have HV := Aside0.mk (valid_calls x A c _ (Kd.C_below hC HA.out))
  have HC := Aside0.mk (Kd.C_below hC HA.out)
  have HW := Aside0.mk (WF_stay hw HA.out)
  have HX := Aside0.mk (validB_is x)
  clear hC hw
  obtain ⟨F, hF⟩ : ∃ F, FormatB x = F := ⟨_, rfl⟩
  rw [hF]
  unfold FormatB at hF
  have HF := Aside0.mk hF
  clear hF
  have x0 : (w.alloc (.cells (cE x (.slice A x.f3.length c)) 24)).cell? ⟨w.heap.size, 0, none⟩ = some (.int .i64 x.f0) := blk_cell BX.out 0
  have x1 : (w.alloc (.cells (cE x (.slice A x.f3.length c)) 24)).cell? ⟨w.heap.size, 1, none⟩ = some (.int .i64 x.f1) := blk_cell BX.out 1
  have x2 : (w.alloc (.cells (cE x (.slice A x.f3.length c)) 24)).cell? ⟨w.heap.size, 2, none⟩ = some (.string x.f2) := blk_cell BX.out 2
  have x3 : (w.alloc (.cells (cE x (.slice A x.f3.length c)) 24)).cell? ⟨w.heap.size, 3, none⟩ = some (.slice A x.f3.length c) := blk_cell BX.out 3
  generalize hb : validB x = b at *
  go_enter Tryd.func16, Tryd.ntmps16
  cases b with
  | false =>
    have hf := HF.out
    rw [if_neg (by simp)] at hf
    clear HF
    subst hf
    clear hb
    go_wp2_with fail
    with_reducible refine HV.out.mono ?_
    rintro e w2 ⟨rfl, HD⟩
    have HB := Aside0.mk (below_step HA.out HD)
    clear HD HV HA x0 x1 x2 x3
    go_wp2_with fail
    go_ret
    exact ⟨rfl, HB.out⟩
  | true =>
    have hf := HF.out
    rw [if_pos (by trivial)] at hf
    clear HF
    subst hf
    obtain ⟨hz, -, hbe⟩ := HX.out.mp rfl
    clear hb
    have HZ := Aside0.mk (And.intro hz hbe)
    clear hz hbe
    go_wp2_with fail
    with_reducible refine HV.out.mono ?_
    rintro e w2 ⟨rfl, HD⟩
    have HB := Aside0.mk (below_step HA.out HD)
    replace BX := Aside0.mk (blk_below BX.out HD)
    have HG := Aside0.mk (format_calls 60 x A c w2 HZ.out.1 (by decide) HZ.out.2 (Kd.C_below HC.out HD) (WF_stay HW.out HD).2)
    clear HD HV HA x0 x1 x2 x3
    have x0 : w2.cell? ⟨w.heap.size, 0, none⟩ = some (.int .i64 x.f0) := blk_cell BX.out 0
    have x1 : w2.cell? ⟨w.heap.size, 1, none⟩ = some (.int .i64 x.f1) := blk_cell BX.out 1
    have x2 : w2.cell? ⟨w.heap.size, 2, none⟩ = some (.string x.f2) := blk_cell BX.out 2
    have x3 : w2.cell? ⟨w.heap.size, 3, none⟩ = some (.slice A x.f3.length c) := blk_cell BX.out 3
    go_wp2_with fail
    with_reducible refine HG.out.mono ?_
    rintro e w3 ⟨rfl, HD⟩
    replace HB := Aside0.mk (below_step HB.out HD)
    clear HD HG x0 x1 x2 x3
    go_wp2_with fail
    go_ret
    exact ⟨rfl, HB.out⟩
abbrev knownS : ByteArray := bs [97, 32, 97, 110, 100, 32, 110, 111, 116, 32, 98, 32, 111, 114, 32, 99]
abbrev knownX : E := ⟨6, 0, ⟨#[]⟩, [⟨5, 0, ⟨#[]⟩, [⟨3, 0, bs [97], []⟩, ⟨4, 0, ⟨#[]⟩, [⟨3, 0, bs [98], []⟩]⟩]⟩, ⟨3, 0, bs [99], []⟩]⟩
set_option maxRecDepth 100000 in
theorem known_parse : parseP knownS = (knownX, 0, 0) := by kernel_rfl
set_option maxRecDepth 100000 in
theorem known_format : FormatB knownX = bs [40, 40, 97, 32, 97, 110, 100, 32, 40, 110, 111, 116, 32, 98, 41, 41, 32, 111, 114, 32, 99, 41] := by kernel_rfl
theorem known_both : ∃ x, parseP knownS = (x, 0, 0) ∧ FormatB x = bs [40, 40, 97, 32, 97, 110, 100, 32, 40, 110, 111, 116, 32, 98, 41, 41, 32, 111, 114, 32, 99, 41] := ⟨knownX, known_parse, known_format⟩
set_option maxRecDepth 100000 in
set_option maxHeartbeats 4000000 in
theorem known_calls (w : World) (hw : WF w) : Calls Tryd.prog 13 #[] w fun e w' => e = .returned (.bool true) ∧ Below w.heap.size w w' := by
  have HP := Aside0.mk (parse_calls atoiWF knownS w hw)
  have HW := Aside0.mk hw
  obtain ⟨x, hk1, hk2⟩ := known_both
  have HK := Aside0.mk hk1
  have HK2 := Aside0.mk hk2
  clear hk1 hk2
  clear hw
  go_enter Tryd.func13, Tryd.ntmps13
  go_wp2_with fail
  with_reducible refine HP.out.mono ?_
  clear HP
  rintro e w2 ⟨v3, rfl, hx, HB⟩
  rw [HK.out] at hx ⊢
  obtain ⟨A, c, rfl⟩ := Kd.R_slice hx
  have hC := (Kd.R_reads' hx).2.2
  dsimp only at hC ⊢
  clear hx HK
  replace HW := Aside0.mk (WF_stay HW.out HB)
  have HB := Aside0.mk HB
  have HA := Aside0.mk (below_alloc (Below.refl w2.heap.size w2) (.cells (cE x (.slice A x.f3.length c)) 24))
  have BX := Aside0.mk (heap_alloc_new w2 (.cells (cE x (.slice A x.f3.length c)) 24))
  have HF := Aside0.mk (Format_calls x A c _ (Kd.C_below hC HA.out) (WF_stay HW.out HA.out))
  rw [HK2.out] at HF
  replace HB := Aside0.mk (below_step HB.out HA.out)
  have x0 : (w2.alloc (.cells (cE x (.slice A x.f3.length c)) 24)).cell? ⟨w2.heap.size, 0, none⟩ = some (.int .i64 x.f0) := blk_cell BX.out 0
  have x1 : (w2.alloc (.cells (cE x (.slice A x.f3.length c)) 24)).cell? ⟨w2.heap.size, 1, none⟩ = some (.int .i64 x.f1) := blk_cell BX.out 1
  have x2 : (w2.alloc (.cells (cE x (.slice A x.f3.length c)) 24)).cell? ⟨w2.heap.size, 2, none⟩ = some (.string x.f2) := blk_cell BX.out 2
  have x3 : (w2.alloc (.cells (cE x (.slice A x.f3.length c)) 24)).cell? ⟨w2.heap.size, 3, none⟩ = some (.slice A x.f3.length c) := blk_cell BX.out 3
  clear hC HA BX
  go_wp2_with fail
  with_reducible refine HF.out.mono ?_
  rintro e w3 ⟨rfl, HD⟩
  replace HB := Aside0.mk (below_step HB.out HD)
  clear HD HF x0 x1 x2 x3
  have ht : ((bs [40, 40, 97, 32, 97, 110, 100, 32, 40, 110, 111, 116, 32, 98, 41, 41, 32, 111, 114, 32, 99, 41]).toList == (⟨#[40, 40, 97, 32, 97, 110, 100, 32, 40, 110, 111, 116, 32, 98, 41, 41, 32, 111, 114, 32, 99, 41]⟩ : ByteArray).toList) = true := by simp
  go_wp2_with fail
  go_ret
  exact ⟨rfl, HB.out⟩
end Go.Proofs.YtbbopomecanaoaaDoor.A
namespace Go.Proofs.YtbbopomecanaoaaDoor.A
open Go.RowKit Go.Proofs.YtbbopomecanaoaaDoorW.PrintWords Go.Proofs.YtbbopomecanaoaaDoorW.PrintLast Go.Proofs.YtbbopomecanaoaaDoorW.PrintMore Go.Proofs.YtbbopomecanaoaaDoor.XK
open Go.Proofs.YtbbopomecanaoaaDoor
set_option linter.unusedVariables false
set_option linter.unusedSimpArgs false
abbrev cI (c : UInt8) : Int := (c.toNat : Int)
def nextL (i : Nat) : List UInt8 → Tk × Nat × Int
  | [] => (⟨0, 0, 0, ⟨#[]⟩⟩, 0, 5)
  | c :: cs =>
    if letterB (cI c) = true then
      (if 12 < ((c :: cs).takeWhile fun b => wordB (cI b)).length then (⟨0, 0, 0, ⟨#[]⟩⟩, 0, 7) else (⟨1, i, 0, bs ((c :: cs).takeWhile fun b => wordB (cI b))⟩, ((c :: cs).takeWhile fun b => wordB (cI b)).length, 0))
    else if digitB (cI c) = true then (numT (bs ((c :: cs).takeWhile fun b => digitB (cI b))) i, ((c :: cs).takeWhile fun b => digitB (cI b)).length, numE (bs ((c :: cs).takeWhile fun b => digitB (cI b))))
    else if symB (cI c) = true then (⟨3, i, 0, bs [c]⟩, 1, 0)
    else (⟨0, 0, 0, ⟨#[]⟩⟩, 0, 5)
def lexL : Nat → List Tk → List UInt8 → Nat → Option LexR
  | 0, _, _, _ => none
  | k + 1, l, [], i => some (.ok l)
  | k + 1, l, c :: cs, i =>
    if cI c = 32 then lexL k l cs (i + 1)
    else if (nextL i (c :: cs)).2.2 = 0 then lexL k (l ++ [(nextL i (c :: cs)).1]) ((c :: cs).drop (nextL i (c :: cs)).2.1) (i + (nextL i (c :: cs)).2.1)
    else some (.bad i (nextL i (c :: cs)).2.2)
theorem byteAt_list (s : ByteArray) (i : Nat) (h : i < s.size) : ∃ c cs, s.data.toList.drop i = c :: cs ∧ byteAt s i = cI c ∧ s.data.toList.drop (i + 1) = cs := by
  have hl : i < s.data.toList.length := h
  refine ⟨s.data.toList[i], s.data.toList.drop (i + 1), List.drop_eq_getElem_cons hl, ?_, rfl⟩
  unfold byteAt
  show ((s.data[i]!).toNat : Int) = _
  rw [getElem!_pos s.data i h]
  simp
theorem runN_list (s : ByteArray) (m : Int → Bool) : ∀ (k i : Nat), i + k = s.size → runN s m k i = i + ((s.data.toList.drop i).takeWhile fun b => m (cI b)).length
  | 0, i, h => by
    have hl : s.data.toList.length = s.size := rfl
    rw [runN, List.drop_eq_nil_of_le (by omega)]
    rfl
  | k + 1, i, h => by
    obtain ⟨c, cs, e1, e2, e3⟩ := byteAt_list s i (by omega)
    rw [runN, e1, e2, List.takeWhile_cons]
    have ih := runN_list s m k (i + 1) (by omega)
    rw [e3] at ih
    cases hm : m (cI c) with
    | true =>
      rw [ih]
      simp [show i < s.size by omega]
      omega
    | false => simp [show i < s.size by omega]
theorem ext_list (s : ByteArray) (i n : Nat) : s.extract i (i + n) = bs ((s.data.toList.drop i).take n) := by
  apply ByteArray.ext
  show (s.extract i (i + n)).data = ((s.data.toList.drop i).take n).toArray
  rw [ByteArray.data_extract]
  apply Array.toList_inj.mp
  rw [Array.toList_extract, List.extract_eq_take_drop]
  simp
theorem take_while (p : UInt8 → Bool) (l : List UInt8) : l.take (l.takeWhile p).length = l.takeWhile p := by
  induction l with
  | nil => rfl
  | cons c cs ih =>
    rw [List.takeWhile_cons]
    cases p c with
    | true => simp [ih]
    | false => rfl
theorem next_list (s : ByteArray) (i : Nat) (h : i < s.size) : (nextP s i).1 = (nextL i (s.data.toList.drop i)).1 ∧ (nextP s i).2.2 = (nextL i (s.data.toList.drop i)).2.2 ∧ ((nextP s i).2.2 = 0 → (nextP s i).2.1 = i + (nextL i (s.data.toList.drop i)).2.1) := by
  obtain ⟨c, cs, e1, e2, e3⟩ := byteAt_list s i h
  have hw := runN_list s wordB (s.size - i) i (by omega)
  have hd := runN_list s digitB (s.size - i) i (by omega)
  have tw := take_while (fun b => wordB (cI b)) (s.data.toList.drop i)
  have td := take_while (fun b => digitB (cI b)) (s.data.toList.drop i)
  have xw := ext_list s i ((s.data.toList.drop i).takeWhile fun b => wordB (cI b)).length
  have xd := ext_list s i ((s.data.toList.drop i).takeWhile fun b => digitB (cI b)).length
  have x1 := ext_list s i 1
  rw [tw] at xw
  rw [td] at xd
  rw [e1] at hw hd xw xd x1 ⊢
  unfold nextP
  rw [nextL, e2, hw, hd, xw, xd, x1]
  generalize ((c :: cs).takeWhile fun b => wordB (cI b)) = W
  generalize ((c :: cs).takeWhile fun b => digitB (cI b)) = D
  have e9 : i + W.length - i = W.length := by omega
  rw [e9]
  by_cases h1 : letterB (cI c) = true
  · rw [if_pos h1, if_pos h1]
    by_cases h2 : 12 < W.length
    · rw [if_pos h2, if_pos h2]; exact ⟨rfl, rfl, fun h => absurd h (by decide)⟩
    · rw [if_neg h2, if_neg h2]; exact ⟨rfl, rfl, fun _ => rfl⟩
  rw [if_neg h1, if_neg h1]
  by_cases h2 : digitB (cI c) = true
  · rw [if_pos h2, if_pos h2]; exact ⟨rfl, rfl, fun _ => rfl⟩
  rw [if_neg h2, if_neg h2]
  by_cases h3 : symB (cI c) = true
  · rw [if_pos h3, if_pos h3]; exact ⟨rfl, rfl, fun _ => rfl⟩
  rw [if_neg h3, if_neg h3]; exact ⟨rfl, rfl, fun h => absurd h (by decide)⟩
theorem lex_list (s : ByteArray) : ∀ (k : Nat) (l : List Tk) (i : Nat), lexP s k l i = lexL k l (s.data.toList.drop i) i
  | 0, l, i => rfl
  | k + 1, l, i => by
    rw [lexP]
    by_cases h : i < s.size
    · rw [if_pos h]
      obtain ⟨c, cs, e1, e2, e3⟩ := byteAt_list s i h
      obtain ⟨n1, n2, n3⟩ := next_list s i h
      have ih1 := lex_list s k l (i + 1)
      rw [e3] at ih1
      rw [e2, e1, lexL, ← e1, ih1, n2]
      by_cases h1 : cI c = 32
      · rw [if_pos h1, if_pos h1]
      rw [if_neg h1, if_neg h1]
      by_cases h2 : (nextL i (s.data.toList.drop i)).2.2 = 0
      · rw [if_pos h2, if_pos h2, n1, n3 (by rw [n2]; exact h2), lex_list s k _ _, List.drop_drop]
      · rw [if_neg h2, if_neg h2]
    · have hl : s.data.toList.length = s.size := rfl
      rw [if_neg h, List.drop_eq_nil_of_le (by omega), lexL]
theorem lex_all (s : ByteArray) (k : Nat) : lexP s k [] 0 = lexL k [] s.data.toList 0 := lex_list s k [] 0
def Lx (l : List Tk) (t : List UInt8) (i : Nat) (l' : List Tk) (t' : List UInt8) (i' : Nat) : Prop := ∃ d, ∀ k, lexL (k + d) l t i = lexL k l' t' i'
theorem Lx.refl (l : List Tk) (t : List UInt8) (i : Nat) : Lx l t i l t i := ⟨0, fun _ => rfl⟩
theorem Lx.trans {l l1 l2 : List Tk} {t t1 t2 : List UInt8} {i i1 i2 : Nat} (h : Lx l t i l1 t1 i1) (h2 : Lx l1 t1 i1 l2 t2 i2) : Lx l t i l2 t2 i2 := by
  obtain ⟨d, hd⟩ := h
  obtain ⟨d2, hd2⟩ := h2
  exact ⟨d2 + d, fun k => by rw [← Nat.add_assoc, hd, hd2]⟩
theorem Lx.space (l : List Tk) (t : List UInt8) (i : Nat) : Lx l (32 :: t) i l t (i + 1) := ⟨1, fun k => by rw [lexL, if_pos (by decide)]⟩
theorem Lx.next {l : List Tk} {c : UInt8} {cs t : List UInt8} {i n : Nat} {tk : Tk} (h32 : cI c ≠ 32) (h : nextL i (c :: cs) = (tk, n, 0)) (hd : (c :: cs).drop n = t) : Lx l (c :: cs) i (l ++ [tk]) t (i + n) :=
  ⟨1, fun k => by rw [lexL, if_neg h32, h, if_pos rfl, hd]⟩
theorem Lx.end_ {l l' : List Tk} {t : List UInt8} {i i' : Nat} (h : Lx l t i l' [] i') : ∃ k, lexL k l t i = some (.ok l') := by
  obtain ⟨d, hd⟩ := h
  exact ⟨1 + d, by rw [hd, lexL]⟩
theorem lexL_mono : ∀ (k : Nat) (l : List Tk) (t : List UInt8) (i : Nat) (r : LexR), lexL k l t i = some r → lexL (k + 1) l t i = some r
  | 0, l, t, i, r, h => by cases h
  | k + 1, l, [], i, r, h => by
    rw [lexL] at h ⊢
    exact h
  | k + 1, l, c :: cs, i, r, h => by
    rw [lexL] at h
    rw [lexL]
    by_cases h1 : cI c = 32
    · rw [if_pos h1] at h ⊢
      exact lexL_mono k _ _ _ _ h
    rw [if_neg h1] at h ⊢
    by_cases h2 : (nextL i (c :: cs)).2.2 = 0
    · rw [if_pos h2] at h ⊢
      exact lexL_mono k _ _ _ _ h
    · rw [if_neg h2] at h ⊢
      exact h
theorem lexL_one {k k' : Nat} {l : List Tk} {t : List UInt8} {i : Nat} {r r' : LexR} (h : lexL k l t i = some r) (h' : lexL k' l t i = some r') : r = r' := by
  have up : ∀ n k r, lexL k l t i = some r → lexL (k + n) l t i = some r := by
    intro n
    induction n with
    | zero => intro k r h; exact h
    | succ n ih => intro k r h; exact lexL_mono _ _ _ _ _ (ih k r h)
  have a := up k' k r h
  have b := up k k' r' h'
  rw [Nat.add_comm] at b
  rw [a] at b
  exact Option.some.inj b
def Sep (t : List UInt8) : Prop := ∀ c cs, t = c :: cs → wordB (cI c) = false
theorem tw_app (p : UInt8 → Bool) : ∀ (w t : List UInt8), (∀ c ∈ w, p c = true) → (∀ c cs, t = c :: cs → p c = false) → (w ++ t).takeWhile p = w
  | [], [], _, _ => rfl
  | [], c :: cs, _, h => by rw [List.nil_append, List.takeWhile_cons, h c cs rfl]; rfl
  | c :: cs, t, hw, h => by
    rw [List.cons_append, List.takeWhile_cons, hw c (by simp)]
    show c :: _ = _
    rw [tw_app p cs t (fun d hd => hw d (by simp [hd])) h]
theorem Lx.word (l : List Tk) (c : UInt8) (w t : List UInt8) (i : Nat) (h1 : letterB (cI c) = true) (hw : ∀ d ∈ w, wordB (cI d) = true) (hl : w.length ≤ 11) (ht : Sep t) :
    Lx l (c :: w ++ t) i (l ++ [⟨1, i, 0, bs (c :: w)⟩]) t (i + (c :: w).length) := by
  have hc : wordB (cI c) = true := by unfold wordB; rw [h1]; rfl
  have e := tw_app (fun b => wordB (cI b)) (c :: w) t (by
    intro d hd
    rcases List.mem_cons.mp hd with rfl | hd
    · exact hc
    · exact hw d hd) ht
  refine Lx.next (cs := w ++ t) ?_ ?_ ?_
  · intro e2
    rw [e2] at h1
    exact absurd h1 (by decide)
  · rw [nextL, if_pos h1, show c :: (w ++ t) = c :: w ++ t from rfl, e, if_neg (by simp; omega)]
  · show (c :: w ++ t).drop (c :: w).length = t
    rw [List.drop_left]
theorem Lx.sym (l : List Tk) (c : UInt8) (t : List UInt8) (i : Nat) (hc : symB (cI c) = true) : Lx l (c :: t) i (l ++ [⟨3, i, 0, bs [c]⟩]) t (i + 1) := by
  have h : cI c = 40 ∨ cI c = 41 ∨ cI c = 44 ∨ cI c = 60 ∨ cI c = 62 ∨ cI c = 61 ∨ cI c = 43 ∨ cI c = 45 := by
    unfold symB at hc
    simp only [Bool.or_eq_true, beq_iff_eq] at hc
    omega
  have h1 : ¬ letterB (cI c) = true := by unfold letterB; simp only [decide_eq_true_eq]; omega
  have h2 : ¬ digitB (cI c) = true := by unfold digitB; simp only [decide_eq_true_eq]; omega
  refine Lx.next (by omega) ?_ rfl
  rw [nextL, if_neg h1, if_neg h2, if_pos hc]
theorem Lx.num (l : List Tk) (c : UInt8) (w t : List UInt8) (i : Nat) (hw : ∀ d ∈ c :: w, digitB (cI d) = true) (hb : numBad (bs (c :: w)) = false) (ht : Sep t) :
    Lx l (c :: w ++ t) i (l ++ [⟨2, i, decV (bs (c :: w)), bs (c :: w)⟩]) t (i + (c :: w).length) := by
  have h2 := hw c (by simp)
  have h2' : 48 ≤ cI c ∧ cI c ≤ 57 := by unfold digitB at h2; simpa using h2
  have h1 : ¬ letterB (cI c) = true := by unfold letterB; simp only [decide_eq_true_eq]; omega
  have e := tw_app (fun b => digitB (cI b)) (c :: w) t hw (fun d ds hd => by
    have := ht d ds hd
    unfold wordB at this
    simp only [Bool.or_eq_false_iff] at this
    exact this.1.2)
  refine Lx.next (cs := w ++ t) (by omega) ?_ ?_
  · rw [nextL, if_neg h1, if_pos h2, show c :: (w ++ t) = c :: w ++ t from rfl, e]
    unfold numT numE
    rw [hb]
    rfl
  · show (c :: w ++ t).drop (c :: w).length = t
    rw [List.drop_left]
end Go.Proofs.YtbbopomecanaoaaDoor.A
namespace Go.Proofs.YtbbopomecanaoaaDoor.A
open Go.RowKit Go.Proofs.YtbbopomecanaoaaDoorW.PrintWords Go.Proofs.YtbbopomecanaoaaDoorW.PrintLast Go.Proofs.YtbbopomecanaoaaDoorW.PrintMore Go.Proofs.YtbbopomecanaoaaDoor.XK
open Go.Proofs.YtbbopomecanaoaaDoor
set_option linter.unusedVariables false
set_option linter.unusedSimpArgs false
def bare (t : Tk) : Int × Int × ByteArray := (t.f0, t.f2, t.f3)
theorem tw_post (p : UInt8 → Bool) (post : List UInt8) (h : ∀ c cs, post = c :: cs → p c = false) : ∀ a : List UInt8, (a ++ post).takeWhile p = a.takeWhile p
  | [] => by
    cases post with
    | nil => rfl
    | cons c cs => rw [List.nil_append, List.takeWhile_cons, h c cs rfl]; rfl
  | c :: cs => by
    rw [List.cons_append, List.takeWhile_cons, List.takeWhile_cons, tw_post p post h cs]
theorem tw_len (p : UInt8 → Bool) : ∀ a : List UInt8, (a.takeWhile p).length ≤ a.length
  | [] => Nat.le_refl _
  | c :: cs => by
    rw [List.takeWhile_cons]
    have := tw_len p cs
    cases p c <;> simp <;> omega
theorem numT_bare (s : ByteArray) (a b : Int) : bare (numT s a) = bare (numT s b) := by
  unfold numT
  split <;> rfl
theorem next_post (i i' : Nat) (c : UInt8) (cs post : List UInt8) (hp : Sep post) (h0 : (nextL i (c :: cs)).2.2 = 0) :
    bare (nextL i' (c :: cs ++ post)).1 = bare (nextL i (c :: cs)).1 ∧ (nextL i' (c :: cs ++ post)).2 = (nextL i (c :: cs)).2 ∧ (nextL i (c :: cs)).2.1 ≤ (c :: cs).length ∧ 0 < (nextL i (c :: cs)).2.1 ∧ ((nextL i (c :: cs)).1.f1 = i) := by
  have hw := tw_post (fun b => wordB (cI b)) post (fun d ds e => hp d ds e) (c :: cs)
  have hd := tw_post (fun b => digitB (cI b)) post (fun d ds e => by
    have := hp d ds e
    unfold wordB at this
    simp only [Bool.or_eq_false_iff] at this
    exact this.1.2) (c :: cs)
  have lw := tw_len (fun b => wordB (cI b)) (c :: cs)
  have ld := tw_len (fun b => digitB (cI b)) (c :: cs)
  have kw : letterB (cI c) = true → 0 < ((c :: cs).takeWhile fun b => wordB (cI b)).length := by
    intro h
    rw [List.takeWhile_cons, show wordB (cI c) = true by unfold wordB; rw [h]; rfl]
    simp
  have kd : digitB (cI c) = true → 0 < ((c :: cs).takeWhile fun b => digitB (cI b)).length := by
    intro h
    rw [List.takeWhile_cons, h]
    simp
  revert h0
  rw [List.cons_append] at hw hd ⊢
  rw [nextL, nextL, hw, hd]
  generalize ((c :: cs).takeWhile fun b => wordB (cI b)) = W at *
  generalize ((c :: cs).takeWhile fun b => digitB (cI b)) = D at *
  by_cases h1 : letterB (cI c) = true
  · rw [if_pos h1, if_pos h1]
    by_cases h2 : 12 < W.length
    · rw [if_pos h2]; intro h; exact absurd h (by decide)
    · rw [if_neg h2, if_neg h2]; intro _; exact ⟨rfl, rfl, lw, kw h1, rfl⟩
  rw [if_neg h1, if_neg h1]
  by_cases h2 : digitB (cI c) = true
  · rw [if_pos h2, if_pos h2]
    intro h
    refine ⟨numT_bare _ _ _, rfl, ld, kd h2, ?_⟩
    have h : numE (bs D) = 0 := h
    show (numT (bs D) i).f1 = i
    unfold numE at h
    unfold numT
    split at h
    · exact absurd h (by decide)
    · rename_i hb
      rw [if_neg hb]
  rw [if_neg h2, if_neg h2]
  by_cases h3 : symB (cI c) = true
  · rw [if_pos h3, if_pos h3]; intro _; exact ⟨rfl, rfl, by simp, Nat.one_pos, rfl⟩
  · rw [if_neg h3]; intro h; exact absurd h (by decide)
theorem lex_post (post : List UInt8) (hp : Sep post) : ∀ (k : Nat) (l : List Tk) (t : List UInt8) (i : Nat) (L : List Tk), lexL k l t i = some (.ok L) →
    ∃ ts, L = l ++ ts ∧ (∀ u ∈ ts, 0 ≤ u.f1) ∧ ∀ (l' : List Tk) (i' : Nat), ∃ ts', ts'.map bare = ts.map bare ∧ Lx l' (t ++ post) i' (l' ++ ts') post (i' + t.length)
  | 0, l, t, i, L, h => by cases h
  | k + 1, l, [], i, L, h => by
    rw [lexL] at h
    cases h
    exact ⟨[], by simp, by simp, fun l' i' => ⟨[], rfl, by simpa using Lx.refl l' post i'⟩⟩
  | k + 1, l, c :: cs, i, L, h => by
    rw [lexL] at h
    by_cases h1 : cI c = 32
    · rw [if_pos h1] at h
      obtain ⟨ts, e, hf, hx⟩ := lex_post post hp k l cs (i + 1) L h
      refine ⟨ts, e, hf, fun l' i' => ?_⟩
      obtain ⟨ts', hb, hl⟩ := hx l' (i' + 1)
      refine ⟨ts', hb, ?_⟩
      have hc : c = 32 := by
        have : c.toNat = 32 := by exact_mod_cast h1
        exact UInt8.toNat_inj.mp this
      subst hc
      rw [List.length_cons, show i' + (cs.length + 1) = i' + 1 + cs.length by omega]
      exact (Lx.space l' (cs ++ post) i').trans hl
    rw [if_neg h1] at h
    by_cases h2 : (nextL i (c :: cs)).2.2 = 0
    · rw [if_pos h2] at h
      obtain ⟨n1, n2, n3, n4, n5⟩ := next_post i i c cs post hp h2
      obtain ⟨ts, e, hf, hx⟩ := lex_post post hp k _ _ _ L h
      refine ⟨(nextL i (c :: cs)).1 :: ts, by rw [e]; simp, fun u hu => ?_, fun l' i' => ?_⟩
      · rcases List.mem_cons.mp hu with rfl | hu
        · rw [n5]; omega
        · exact hf u hu
      obtain ⟨m1, m2, m3, m4, m5⟩ := next_post i i' c cs post hp h2
      obtain ⟨ts', hb, hl⟩ := hx (l' ++ [(nextL i' (c :: cs ++ post)).1]) (i' + (nextL i (c :: cs)).2.1)
      refine ⟨(nextL i' (c :: cs ++ post)).1 :: ts', by rw [List.map_cons, List.map_cons, hb, m1], ?_⟩
      have hd : (c :: cs ++ post).drop (nextL i (c :: cs)).2.1 = (c :: cs).drop (nextL i (c :: cs)).2.1 ++ post := List.drop_append_of_le_length m3
      have hn : nextL i' (c :: (cs ++ post)) = ((nextL i' (c :: cs ++ post)).1, (nextL i (c :: cs)).2.1, 0) := by
        show nextL i' (c :: cs ++ post) = _
        rw [← h2]
        exact Prod.ext rfl (by rw [m2])
      have hs := Lx.next (l := l') (t := (c :: cs).drop (nextL i (c :: cs)).2.1 ++ post) h1 hn hd
      have := hs.trans hl
      rw [List.append_assoc] at this
      rw [show i' + (nextL i (c :: cs)).2.1 + ((c :: cs).drop (nextL i (c :: cs)).2.1).length = i' + (c :: cs).length by rw [List.length_drop]; omega] at this
      exact this
    · rw [if_neg h2] at h
      cases h
structure Between (ts ts' : List Tk) (en en' : Int) : Prop where
  in_ : ∀ i, i < ts.length → (pk ts' en' (i + 1)).f0 = (pk ts en i).f0 ∧ (pk ts' en' (i + 1)).f2 = (pk ts en i).f2 ∧ (pk ts' en' (i + 1)).f3 = (pk ts en i).f3
  end_ : (pk ts' en' (ts.length + 1)).f3.toList = [41]
  pos : ∀ i, i < ts.length → 0 ≤ (pk ts en i).f1
section
variable {ts ts' : List Tk} {en en' : Int}
theorem pk_end (ts : List Tk) (en : Int) : (pk ts en ts.length).f3.toList = [] ∧ (pk ts en ts.length).f0 = 0 := by
  unfold pk
  rw [if_neg (Nat.lt_irrefl _)]
  exact ⟨by rw [ByteArray.toList_eq], rfl⟩
structure OpN (op : ByteArray → Int) : Prop where
  nil : ∀ s : ByteArray, s.toList = [] → op s = 0
  end_ : ∀ s : ByteArray, s.toList = [41] → op s = 0
def ShO (ts : List Tk) (opd opd' : Nat → Int → Option Res) : Prop := ∀ i l x i' l', i ≤ ts.length → opd i l = some (.ok x i' l') → l' < 0 → l' = l ∧ opd' (i + 1) l = some (.ok x (i' + 1) l)
theorem op_same (B : Between ts ts' en en') {op : ByteArray → Int} (ho : OpN op) {i : Nat} (hi : i ≤ ts.length) : op (pk ts' en' (i + 1)).f3 = op (pk ts en i).f3 := by
  rcases Nat.lt_or_ge i ts.length with h | h
  · rw [(B.in_ i h).2.2]
  · obtain rfl : i = ts.length := by omega
    rw [ho.nil _ (pk_end ts en).1, ho.end_ _ B.end_]
theorem op_lt {op : ByteArray → Int} (ho : OpN op) {i : Nat} (hi : i ≤ ts.length) (h : op (pk ts en i).f3 ≠ 0) : i < ts.length := by
  rcases Nat.lt_or_ge i ts.length with h1 | h1
  · exact h1
  · obtain rfl : i = ts.length := by omega
    exact absurd (ho.nil _ (pk_end ts en).1) h
theorem chainL_sh (B : Between ts ts' en en') {opd opd' : Nat → Int → Option Res} {op : ByteArray → Int} (ho : OpN op) (hg : Goes ts opd) (hs : ShO ts opd opd') :
    ∀ (k : Nat) (x : E) (i : Nat) (l : Int) (y : E) (i' : Nat) (l' : Int), i ≤ ts.length → chainL ts en opd op k x i l = some (.ok y i' l') → l' < 0 → l' = l ∧ chainL ts' en' opd' op k x (i + 1) l = some (.ok y (i' + 1) l)
  | 0, x, i, l, y, i', l', hi, h, hl => by cases h
  | k + 1, x, i, l, y, i', l', hi, h, hl => by
    rw [chainL] at h
    rw [chainL, op_same B ho hi]
    by_cases h0 : op (pk ts en i).f3 = 0
    · rw [if_pos h0] at h ⊢
      cases h
      exact ⟨rfl, rfl⟩
    · rw [if_neg h0] at h ⊢
      have hlt := op_lt ho hi h0
      cases ho1 : opd (i + 1) l with
      | none => rw [ho1] at h; cases h
      | some r1 =>
        cases r1 with
        | fail a => rw [ho1] at h; cases h
        | ok y1 i1 l1 =>
          rw [ho1] at h
          have hg1 := hg _ _ _ _ _ ho1
          obtain ⟨e1, h1⟩ := chainL_sh B ho hg hs k _ i1 l1 y i' l' hg1.2 h hl
          obtain ⟨e2, h2⟩ := hs (i + 1) l y1 i1 l1 (by omega) ho1 (by omega)
          subst e2
          rw [h2]
          exact ⟨e1, h1⟩
theorem chainP_sh (B : Between ts ts' en en') {opd opd' : Nat → Int → Option Res} {op : ByteArray → Int} (ho : OpN op) (hg : Goes ts opd) (hs : ShO ts opd opd') (k : Nat) : ShO ts (chainP ts en opd op k) (chainP ts' en' opd' op k) := by
  intro i l x i' l' hi h hl
  unfold chainP at h ⊢
  cases ho1 : opd i l with
  | none => rw [ho1] at h; cases h
  | some r1 =>
    cases r1 with
    | fail a => rw [ho1] at h; cases h
    | ok y1 i1 l1 =>
      rw [ho1] at h
      have hg1 := hg _ _ _ _ _ ho1
      obtain ⟨e1, h1⟩ := chainL_sh B ho hg hs k _ i1 l1 x i' l' hg1.2 h hl
      obtain ⟨e2, h2⟩ := hs i l y1 i1 l1 hi ho1 (by omega)
      subst e2
      rw [h2]
      exact ⟨e1, h1⟩
theorem rel_sh (B : Between ts ts' en en') {opd opd' : Nat → Int → Option Res} (hg : Goes ts opd) (hs : ShO ts opd opd') : ShO ts (relP ts en opd) (relP ts' en' opd') := by
  have ho : OpN cmpOp := ⟨fun s h => by unfold cmpOp; rw [h]; rfl, fun s h => by unfold cmpOp; rw [h]; rfl⟩
  intro i l x i' l' hi h hl
  unfold relP at h ⊢
  cases ho1 : opd i l with
  | none => rw [ho1] at h; cases h
  | some r1 =>
    cases r1 with
    | fail a => rw [ho1] at h; cases h
    | ok y1 i1 l1 =>
      rw [ho1] at h
      have hg1 := hg _ _ _ _ _ ho1
      dsimp only at h
      by_cases h0 : cmpOp (pk ts en i1).f3 = 0
      · rw [if_pos h0] at h
        cases h
        obtain ⟨e2, h2⟩ := hs i l x i' l' hi ho1 hl
        rw [h2]
        refine ⟨e2, ?_⟩
        dsimp only
        rw [op_same B ho hg1.2, if_pos h0]
      · rw [if_neg h0] at h
        have hlt := op_lt ho hg1.2 h0
        cases ho2 : opd (i1 + 1) l1 with
        | none => rw [ho2] at h; cases h
        | some r2 =>
          cases r2 with
          | fail a => rw [ho2] at h; cases h
          | ok y2 i2 l2 =>
            rw [ho2] at h
            cases h
            obtain ⟨e3, h3⟩ := hs (i1 + 1) l1 y2 i' l' (by omega) ho2 hl
            obtain ⟨e2, h2⟩ := hs i l y1 i1 l1 hi ho1 (by omega)
            subst e2
            rw [h2]
            dsimp only
            rw [op_same B ho hg1.2, if_neg h0, h3]
            exact ⟨e3, rfl⟩
theorem not_sh (B : Between ts ts' en en') {self self' rel rel' : Nat → Int → Option Res} (hs : ShO ts self self') (hr : ShO ts rel rel') : ShO ts (notP ts en self rel) (notP ts' en' self' rel') := by
  intro i l x i' l' hi h hl
  unfold notP at h ⊢
  by_cases h0 : (pk ts en i).f3.toList = [110, 111, 116]
  · have hlt : i < ts.length := by
      rcases Nat.lt_or_ge i ts.length with h1 | h1
      · exact h1
      · obtain rfl : i = ts.length := by omega
        rw [(pk_end ts en).1] at h0
        cases h0
    rw [if_pos h0] at h
    rw [(B.in_ i hlt).2.2, if_pos h0]
    cases ho1 : self (i + 1) l with
    | none => rw [ho1] at h; cases h
    | some r1 =>
      cases r1 with
      | fail a => rw [ho1] at h; cases h
      | ok y1 i1 l1 =>
        rw [ho1] at h
        cases h
        obtain ⟨e2, h2⟩ := hs (i + 1) l y1 i' l' (by omega) ho1 hl
        rw [h2]
        exact ⟨e2, rfl⟩
  · rw [if_neg h0] at h
    have h1 : ¬ (pk ts' en' (i + 1)).f3.toList = [110, 111, 116] := by
      rcases Nat.lt_or_ge i ts.length with h1 | h1
      · rw [(B.in_ i h1).2.2]; exact h0
      · obtain rfl : i = ts.length := by omega
        rw [B.end_]; decide
    rw [if_neg h1]
    exact hr i l x i' l' hi h hl
theorem text_lt {i : Nat} (hi : i ≤ ts.length) (h : (pk ts en i).f3.toList ≠ []) : i < ts.length := by
  rcases Nat.lt_or_ge i ts.length with h1 | h1
  · exact h1
  · obtain rfl : i = ts.length := by omega
    exact absurd (pk_end ts en).1 h
theorem args_sh (B : Between ts ts' en en') {ex ex' : Nat → Int → Option Res} (hg : Goes ts ex) (hs : ShO ts ex ex') : ∀ (n j : Nat) (xs : List E) (i : Nat) (l : Int) (ys : List E) (i' : Nat) (l' : Int), i ≤ ts.length →
    argsP ts en ex n j xs i l = some (.ok ys i' l') → l' < 0 → l' = l ∧ argsP ts' en' ex' n j xs (i + 1) l = some (.ok ys (i' + 1) l)
  | 0, j, xs, i, l, ys, i', l', hi, h, hl => by
    rw [argsP] at h ⊢
    cases h
    exact ⟨rfl, rfl⟩
  | n + 1, j, xs, i, l, ys, i', l', hi, h, hl => by
    rw [argsP] at h ⊢
    by_cases h0 : 0 < j ∧ (pk ts en i).f3.toList ≠ [44]
    · rw [if_pos h0] at h; cases h
    rw [if_neg h0] at h
    have hlt : 0 < j → i < ts.length := fun hj => by
      have : (pk ts en i).f3.toList = [44] := by
        cases Decidable.em ((pk ts en i).f3.toList = [44]) with
        | inl e => exact e
        | inr e => exact absurd ⟨hj, e⟩ h0
      exact text_lt hi (by rw [this]; simp)
    have h1 : ¬ (0 < j ∧ (pk ts' en' (i + 1)).f3.toList ≠ [44]) := fun hh => by
      rw [(B.in_ i (hlt hh.1)).2.2] at hh
      exact h0 hh
    rw [if_neg h1]
    have e9 : (if 0 < j then i + 1 + 1 else i + 1) = (if 0 < j then i + 1 else i) + 1 := by split <;> rfl
    rw [e9]
    have hle : (if 0 < j then i + 1 else i) ≤ ts.length := by
      split
      · rename_i hj; have := hlt hj; omega
      · exact hi
    generalize (if 0 < j then i + 1 else i) = i0 at *
    cases ho1 : ex i0 l with
    | none => rw [ho1] at h; cases h
    | some r1 =>
      cases r1 with
      | fail a => rw [ho1] at h; cases h
      | ok y1 i1 l1 =>
        rw [ho1] at h
        have hg1 := hg _ _ _ _ _ ho1
        obtain ⟨e1, h1⟩ := args_sh B hg hs n (j + 1) _ i1 l1 ys i' l' hg1.2 h hl
        obtain ⟨e2, h2⟩ := hs i0 l y1 i1 l1 hle ho1 (by omega)
        subst e2
        rw [h2]
        exact ⟨e1, h1⟩
theorem steps_sh (B : Between ts ts' en en') (op : Int) (xs : List E) (i : Nat) (l : Int) (x : E) (i' : Nat) (l' : Int) (hi : i ≤ ts.length) (h : stepsP ts en op xs i l = .ok x i' l') (hl : l' < 0) :
    l' = l ∧ stepsP ts' en' op xs (i + 1) l = .ok x (i' + 1) l := by
  unfold stepsP at h ⊢
  by_cases h19 : op = 19 ∨ op = 20
  · rw [if_pos h19] at h ⊢
    by_cases h1 : (pk ts en i).f3.toList ≠ [44]
    · rw [if_pos h1] at h; cases h
    rw [if_neg h1] at h
    have hi1 : i < ts.length := text_lt hi (by rw [Decidable.of_not_not h1]; simp)
    by_cases h2 : (pk ts en (i + 1)).f0 ≠ 2
    · rw [if_pos h2] at h; cases h
    rw [if_neg h2] at h
    have hi2 : i + 1 < ts.length := by
      rcases Nat.lt_or_ge (i + 1) ts.length with h3 | h3
      · exact h3
      · have e : i + 1 = ts.length := by omega
        rw [e, (pk_end ts en).2] at h2
        exact absurd (Decidable.of_not_not h2) (by decide)
    by_cases h3 : (pk ts en (i + 2)).f3.toList ≠ [41]
    · rw [if_pos h3] at h; cases h
    rw [if_neg h3] at h
    have hi3 : i + 2 < ts.length := text_lt (by omega) (by rw [Decidable.of_not_not h3]; simp)
    obtain ⟨-, -, b1⟩ := B.in_ i hi1
    obtain ⟨c1, c2, c3⟩ := B.in_ (i + 1) hi2
    obtain ⟨-, -, d1⟩ := B.in_ (i + 2) hi3
    have hp := B.pos (i + 1) hi2
    rw [b1, if_neg h1, show i + 1 + 1 = (i + 1) + 1 from rfl, c1, if_neg h2, show i + 1 + 2 = (i + 2) + 1 by omega, d1, if_neg h3, c2]
    injection h with e1 e2 e3
    have hll : longN ts en (i + 1) l = l := by
      unfold longN at e3 ⊢
      split at e3
      · omega
      · rename_i hn; rw [if_neg hn]
    have hll' : longN ts' en' (i + 1 + 1) l = l := by
      unfold longN at e3 ⊢
      split at e3
      · omega
      · rename_i hn
        rw [c2, if_neg hn]
    rw [hll] at e3
    refine ⟨e3.symm, ?_⟩
    rw [hll', ← e1, ← e2]
  · rw [if_neg h19] at h ⊢
    by_cases h1 : (pk ts en i).f3.toList ≠ [41]
    · rw [if_pos h1] at h; cases h
    rw [if_neg h1] at h
    have hi1 : i < ts.length := text_lt hi (by rw [Decidable.of_not_not h1]; simp)
    obtain ⟨-, -, b1⟩ := B.in_ i hi1
    rw [b1, if_neg h1]
    cases h
    exact ⟨rfl, rfl⟩
theorem call_sh (B : Between ts ts' en en') {ex ex' : Nat → Int → Option Res} (hg : Goes ts ex) (hs : ShO ts ex ex') (op : Int) (i : Nat) (l : Int) (x : E) (i' : Nat) (l' : Int) (hi : i ≤ ts.length)
    (h : callP ts en ex op i l = some (.ok x i' l')) (hl : l' < 0) : l' = l ∧ callP ts' en' ex' op (i + 1) l = some (.ok x (i' + 1) l) := by
  unfold callP at h ⊢
  by_cases h1 : (pk ts en i).f3.toList ≠ [40]
  · rw [if_pos h1] at h; cases h
  rw [if_neg h1] at h
  have hi1 : i < ts.length := text_lt hi (by rw [Decidable.of_not_not h1]; simp)
  obtain ⟨-, -, b1⟩ := B.in_ i hi1
  rw [b1, if_neg h1]
  cases ha : argsP ts en ex (arityN op) 0 [] (i + 1) l with
  | none => rw [ha] at h; cases h
  | some r1 =>
    cases r1 with
    | fail a => rw [ha] at h; cases h
    | ok ys i1 l1 =>
      rw [ha] at h
      have h := Option.some.inj h
      have hle := args_goes (en := en) hg (arityN op) 0 [] (i + 1) l ys i1 l1 (by omega) ha
      obtain ⟨e1, h2⟩ := steps_sh B op ys i1 l1 x i' l' hle.2 h hl
      obtain ⟨e2, h3⟩ := args_sh B hg hs (arityN op) 0 [] (i + 1) l ys i1 l1 (by omega) ha (by omega)
      subst e2
      rw [h3]
      exact ⟨e1, congrArg some h2⟩
theorem prim_sh (B : Between ts ts' en en') {ex ex' : Nat → Int → Option Res} (hg : Goes ts ex) (hs : ShO ts ex ex') : ShO ts (primP ts en ex) (primP ts' en' ex') := by
  intro i l x i' l' hi h hl
  have hlt : i < ts.length := (prim_goes (en := en) hg i l x i' l' h).1 |> fun h1 => by
    rcases Nat.lt_or_ge i ts.length with h2 | h2
    · exact h2
    · have := (prim_goes (en := en) hg i l x i' l' h).2
      omega
  obtain ⟨c1, c2, c3⟩ := B.in_ i hlt
  unfold primP at h ⊢
  rw [c1, c2, c3]
  by_cases h0 : (pk ts en i).f0 = 2
  · rw [if_pos h0] at h ⊢; cases h; exact ⟨rfl, rfl⟩
  rw [if_neg h0] at h ⊢
  by_cases h1 : (pk ts en i).f3.toList = [116, 114, 117, 101]
  · rw [if_pos h1] at h ⊢; cases h; exact ⟨rfl, rfl⟩
  rw [if_neg h1] at h ⊢
  by_cases h2 : (pk ts en i).f3.toList = [102, 97, 108, 115, 101]
  · rw [if_pos h2] at h ⊢; cases h; exact ⟨rfl, rfl⟩
  rw [if_neg h2] at h ⊢
  by_cases h3 : (pk ts en i).f3.toList = [40]
  · rw [if_pos h3] at h ⊢
    cases ho1 : ex (i + 1) l with
    | none => rw [ho1] at h; cases h
    | some r1 =>
      cases r1 with
      | fail a => rw [ho1] at h; cases h
      | ok y1 i1 l1 =>
        rw [ho1] at h
        dsimp only at h
        by_cases h4 : (pk ts en i1).f3.toList = [41]
        · rw [if_pos h4] at h
          cases h
          have hg1 := hg _ _ _ _ _ ho1
          have hi1 : i1 < ts.length := text_lt hg1.2 (by rw [h4]; simp)
          obtain ⟨e2, hx⟩ := hs (i + 1) l x i1 l' (by omega) ho1 hl
          rw [hx]
          dsimp only
          rw [(B.in_ i1 hi1).2.2, if_pos h4]
          exact ⟨e2, rfl⟩
        · rw [if_neg h4] at h; cases h
  rw [if_neg h3] at h ⊢
  by_cases h4 : fnOp (pk ts en i).f3 ≠ 0
  · rw [if_pos h4] at h ⊢
    exact call_sh B hg hs _ (i + 1) l x i' l' (by omega) h hl
  rw [if_neg h4] at h ⊢
  by_cases h5 : (pk ts en i).f0 ≠ 1 ∨ resB (pk ts en i).f3 = true
  · rw [if_pos h5] at h; cases h
  rw [if_neg h5] at h ⊢
  cases h
  exact ⟨rfl, rfl⟩
theorem only_n (t : List UInt8) (ht : t ≠ []) (h41 : t ≠ [41]) (o : Int) : OpN (onlyOp t o) := ⟨fun s h => by unfold onlyOp; rw [h, if_neg (fun e => ht e.symm)], fun s h => by unfold onlyOp; rw [h, if_neg (fun e => h41 e.symm)]⟩
theorem sum_n : OpN sumOp := ⟨fun s h => by unfold sumOp onlyOp; rw [h]; rfl, fun s h => by unfold sumOp onlyOp; rw [h]; rfl⟩
theorem P_sh (B : Between ts ts' en en') : ∀ (k : Nat) (lv : Lv), ShO ts (P ts en k lv) (P ts' en' k lv)
  | 0, lv => fun i l x i' l' hi h hl => by cases h
  | k + 1, lv => by
    cases lv with
    | or => exact chainP_sh B (only_n _ (by decide) (by decide) _) (P_goes ts en k .xor) (P_sh B k .xor) k
    | xor => exact chainP_sh B (only_n _ (by decide) (by decide) _) (P_goes ts en k .and) (P_sh B k .and) k
    | and => exact chainP_sh B (only_n _ (by decide) (by decide) _) (P_goes ts en k .not) (P_sh B k .not) k
    | not => exact not_sh B (P_sh B k .not) (P_sh B k .rel)
    | rel => exact rel_sh B (P_goes ts en k .sum) (P_sh B k .sum)
    | sum => exact chainP_sh B sum_n (P_goes ts en k .prim) (P_sh B k .prim) k
    | prim => exact prim_sh B (P_goes ts en k .or) (P_sh B k .or)
end
end Go.Proofs.YtbbopomecanaoaaDoor.A
namespace Go.Proofs.YtbbopomecanaoaaDoor.A
open Go.RowKit Go.Proofs.YtbbopomecanaoaaDoorW.PrintWords Go.Proofs.YtbbopomecanaoaaDoorW.PrintLast Go.Proofs.YtbbopomecanaoaaDoorW.PrintMore Go.Proofs.YtbbopomecanaoaaDoor.XK
open Go.Proofs.YtbbopomecanaoaaDoor
set_option linter.unusedVariables false
set_option linter.unusedSimpArgs false
def LeF {α : Type} (f g : Nat → Int → Option α) : Prop := ∀ i l r, f i l = some r → g i l = some r
section
variable {ts : List Tk} {en : Int}
theorem chainL_mono {opd opd' : Nat → Int → Option Res} {op : ByteArray → Int} (ho : LeF opd opd') : ∀ (k : Nat) (x : E) (i : Nat) (l : Int) (r : Res), chainL ts en opd op k x i l = some r → chainL ts en opd' op (k + 1) x i l = some r
  | 0, x, i, l, r, h => by cases h
  | k + 1, x, i, l, r, h => by
    rw [chainL] at h ⊢
    by_cases h0 : op (pk ts en i).f3 = 0
    · rw [if_pos h0] at h ⊢; exact h
    rw [if_neg h0] at h ⊢
    cases h1 : opd (i + 1) l with
    | none => rw [h1] at h; cases h
    | some r1 =>
      rw [h1] at h
      rw [ho _ _ _ h1]
      cases r1 with
      | fail a => exact h
      | ok y i1 l1 => exact chainL_mono ho k _ _ _ _ h
theorem chainP_mono {opd opd' : Nat → Int → Option Res} {op : ByteArray → Int} (ho : LeF opd opd') (k : Nat) : LeF (chainP ts en opd op k) (chainP ts en opd' op (k + 1)) := by
  intro i l r h
  unfold chainP at h ⊢
  cases h1 : opd i l with
  | none => rw [h1] at h; cases h
  | some r1 =>
    rw [h1] at h
    rw [ho _ _ _ h1]
    cases r1 with
    | fail a => exact h
    | ok y i1 l1 => exact chainL_mono ho k _ _ _ _ h
theorem rel_mono {opd opd' : Nat → Int → Option Res} (ho : LeF opd opd') : LeF (relP ts en opd) (relP ts en opd') := by
  intro i l r h
  unfold relP at h ⊢
  cases h1 : opd i l with
  | none => rw [h1] at h; cases h
  | some r1 =>
    rw [h1] at h
    rw [ho _ _ _ h1]
    cases r1 with
    | fail a => exact h
    | ok y i1 l1 =>
      dsimp only at h ⊢
      by_cases h0 : cmpOp (pk ts en i1).f3 = 0
      · rw [if_pos h0] at h ⊢; exact h
      rw [if_neg h0] at h ⊢
      cases h2 : opd (i1 + 1) l1 with
      | none => rw [h2] at h; cases h
      | some r2 =>
        rw [h2] at h
        rw [ho _ _ _ h2]
        exact h
theorem not_mono {self self' rel rel' : Nat → Int → Option Res} (hs : LeF self self') (hr : LeF rel rel') : LeF (notP ts en self rel) (notP ts en self' rel') := by
  intro i l r h
  unfold notP at h ⊢
  by_cases h0 : (pk ts en i).f3.toList = [110, 111, 116]
  · rw [if_pos h0] at h ⊢
    cases h1 : self (i + 1) l with
    | none => rw [h1] at h; cases h
    | some r1 => rw [h1] at h; rw [hs _ _ _ h1]; exact h
  · rw [if_neg h0] at h ⊢; exact hr _ _ _ h
theorem args_mono {ex ex' : Nat → Int → Option Res} (he : LeF ex ex') : ∀ (n j : Nat) (xs : List E) (i : Nat) (l : Int) (r : ResL), argsP ts en ex n j xs i l = some r → argsP ts en ex' n j xs i l = some r
  | 0, j, xs, i, l, r, h => h
  | n + 1, j, xs, i, l, r, h => by
    rw [argsP] at h ⊢
    by_cases h0 : 0 < j ∧ (pk ts en i).f3.toList ≠ [44]
    · rw [if_pos h0] at h ⊢; exact h
    rw [if_neg h0] at h ⊢
    cases h1 : ex (if 0 < j then i + 1 else i) l with
    | none => rw [h1] at h; cases h
    | some r1 =>
      rw [h1] at h
      rw [he _ _ _ h1]
      cases r1 with
      | fail a => exact h
      | ok y i1 l1 => exact args_mono he n _ _ _ _ _ h
theorem call_mono {ex ex' : Nat → Int → Option Res} (he : LeF ex ex') (op : Int) : LeF (callP ts en ex op) (callP ts en ex' op) := by
  intro i l r h
  unfold callP at h ⊢
  by_cases h0 : (pk ts en i).f3.toList ≠ [40]
  · rw [if_pos h0] at h ⊢; exact h
  rw [if_neg h0] at h ⊢
  cases h1 : argsP ts en ex (arityN op) 0 [] (i + 1) l with
  | none => rw [h1] at h; cases h
  | some r1 =>
    rw [h1] at h
    rw [args_mono he _ _ _ _ _ _ h1]
    exact h
theorem prim_mono {ex ex' : Nat → Int → Option Res} (he : LeF ex ex') : LeF (primP ts en ex) (primP ts en ex') := by
  intro i l r h
  unfold primP at h ⊢
  by_cases h0 : (pk ts en i).f0 = 2
  · rw [if_pos h0] at h ⊢; exact h
  rw [if_neg h0] at h ⊢
  by_cases h1 : (pk ts en i).f3.toList = [116, 114, 117, 101]
  · rw [if_pos h1] at h ⊢; exact h
  rw [if_neg h1] at h ⊢
  by_cases h2 : (pk ts en i).f3.toList = [102, 97, 108, 115, 101]
  · rw [if_pos h2] at h ⊢; exact h
  rw [if_neg h2] at h ⊢
  by_cases h3 : (pk ts en i).f3.toList = [40]
  · rw [if_pos h3] at h ⊢
    cases h4 : ex (i + 1) l with
    | none => rw [h4] at h; cases h
    | some r1 => rw [h4] at h; rw [he _ _ _ h4]; exact h
  rw [if_neg h3] at h ⊢
  by_cases h4 : fnOp (pk ts en i).f3 ≠ 0
  · rw [if_pos h4] at h ⊢; exact call_mono he _ _ _ _ h
  rw [if_neg h4] at h ⊢
  exact h
theorem P_mono (ts : List Tk) (en : Int) : ∀ (k : Nat) (lv : Lv), LeF (P ts en k lv) (P ts en (k + 1) lv)
  | 0, lv => fun i l r h => by cases h
  | k + 1, lv => by
    cases lv with
    | or => exact chainP_mono (P_mono ts en k .xor) k
    | xor => exact chainP_mono (P_mono ts en k .and) k
    | and => exact chainP_mono (P_mono ts en k .not) k
    | not => exact not_mono (P_mono ts en k .not) (P_mono ts en k .rel)
    | rel => exact rel_mono (P_mono ts en k .sum)
    | sum => exact chainP_mono (P_mono ts en k .prim) k
    | prim => exact prim_mono (P_mono ts en k .or)
theorem P_up {k : Nat} {lv : Lv} {i : Nat} {l : Int} {r : Res} (h : P ts en k lv i l = some r) : ∀ n, P ts en (k + n) lv i l = some r
  | 0 => h
  | n + 1 => P_mono ts en (k + n) lv i l r (P_up h n)
theorem P_le {k k' : Nat} {lv : Lv} {i : Nat} {l : Int} {r : Res} (h : P ts en k lv i l = some r) (hk : k ≤ k') : P ts en k' lv i l = some r := by
  have := P_up h (k' - k)
  rwa [Nat.add_sub_cancel' hk] at this
theorem P_one {k k' : Nat} {lv : Lv} {i : Nat} {l : Int} {r r' : Res} (h : P ts en k lv i l = some r) (h' : P ts en k' lv i l = some r') : r = r' := by
  have a := P_le h (Nat.le_max_left k k')
  have b := P_le h' (Nat.le_max_right k k')
  rw [a] at b
  exact Option.some.inj b
def Says (ts : List Tk) (en : Int) (lv : Lv) (i : Nat) (l : Int) (x : E) (i' : Nat) (l' : Int) : Prop := ∃ k, P ts en k lv i l = some (.ok x i' l')
section
variable {i i' : Nat} {l l' : Int} {x : E}
theorem chain_stop {opd : Nat → Int → Option Res} {op : ByteArray → Int} (k : Nat) (h : opd i l = some (.ok x i' l')) (h0 : op (pk ts en i').f3 = 0) : chainP ts en opd op (k + 1) i l = some (.ok x i' l') := by
  unfold chainP
  rw [h]
  dsimp only
  rw [chainL, if_pos h0]
theorem Says.sum (h : Says ts en .prim i l x i' l') (h0 : sumOp (pk ts en i').f3 = 0) : Says ts en .sum i l x i' l' := by
  obtain ⟨k, hk⟩ := h
  exact ⟨k + 1 + 1, chain_stop k (P_up hk 1) h0⟩
theorem Says.rel (h : Says ts en .sum i l x i' l') (h0 : cmpOp (pk ts en i').f3 = 0) : Says ts en .rel i l x i' l' := by
  obtain ⟨k, hk⟩ := h
  refine ⟨k + 1, ?_⟩
  show relP ts en (P ts en k .sum) i l = _
  unfold relP
  rw [hk]
  dsimp only
  rw [if_pos h0]
theorem Says.not (h : Says ts en .rel i l x i' l') (h0 : (pk ts en i).f3.toList ≠ [110, 111, 116]) : Says ts en .not i l x i' l' := by
  obtain ⟨k, hk⟩ := h
  refine ⟨k + 1, ?_⟩
  show notP ts en (P ts en k .not) (P ts en k .rel) i l = _
  unfold notP
  rw [if_neg h0, hk]
theorem Says.and (h : Says ts en .not i l x i' l') (h0 : onlyOp [97, 110, 100] 5 (pk ts en i').f3 = 0) : Says ts en .and i l x i' l' := by
  obtain ⟨k, hk⟩ := h
  exact ⟨k + 1 + 1, chain_stop k (P_up hk 1) h0⟩
theorem Says.xor (h : Says ts en .and i l x i' l') (h0 : onlyOp [120, 111, 114] 7 (pk ts en i').f3 = 0) : Says ts en .xor i l x i' l' := by
  obtain ⟨k, hk⟩ := h
  exact ⟨k + 1 + 1, chain_stop k (P_up hk 1) h0⟩
theorem Says.or (h : Says ts en .xor i l x i' l') (h0 : onlyOp [111, 114] 6 (pk ts en i').f3 = 0) : Says ts en .or i l x i' l' := by
  obtain ⟨k, hk⟩ := h
  exact ⟨k + 1 + 1, chain_stop k (P_up hk 1) h0⟩
def Stop (s : ByteArray) : Prop := s.toList = [] ∨ s.toList = [41] ∨ s.toList = [44]
theorem Stop.ops {s : ByteArray} (h : Stop s) : sumOp s = 0 ∧ cmpOp s = 0 ∧ onlyOp [97, 110, 100] 5 s = 0 ∧ onlyOp [120, 111, 114] 7 s = 0 ∧ onlyOp [111, 114] 6 s = 0 := by
  unfold sumOp cmpOp onlyOp
  rcases h with h | h | h <;> rw [h] <;> exact ⟨rfl, rfl, rfl, rfl, rfl⟩
theorem Says.up (h : Says ts en .prim i l x i' l') (h0 : (pk ts en i).f3.toList ≠ [110, 111, 116]) (hs : Stop (pk ts en i').f3) : Says ts en .or i l x i' l' := by
  obtain ⟨a, b, c, d, e⟩ := hs.ops
  exact (((((h.sum a).rel b).not h0).and c).xor d).or e
theorem Says.paren (h : Says ts en .or (i + 1) l x i' l') (h1 : (pk ts en i).f0 = 3) (h2 : (pk ts en i).f3.toList = [40]) (h3 : (pk ts en i').f3.toList = [41]) : Says ts en .prim i l x (i' + 1) l' := by
  obtain ⟨k, hk⟩ := h
  refine ⟨k + 1, ?_⟩
  show primP ts en (P ts en k .or) i l = _
  unfold primP
  rw [if_neg (by rw [h1]; decide), if_neg (by rw [h2]; decide), if_neg (by rw [h2]; decide), if_pos h2, hk]
  dsimp only
  rw [if_pos h3]
end
end
theorem parse_parts {s : ByteArray} {x : E} {a : Int} (h : parseP s = (x, a, 0)) : s.size ≤ 120 ∧ ∃ ts, lexP s (s.size + 1) [] 0 = some (.ok ts) ∧ validB x = true ∧ a = 0 ∧ ∃ l, l < 0 ∧ P ts s.size (7 * ts.length + 7) .or 0 (-1) = some (.ok x ts.length l) := by
  unfold parseP at h
  by_cases hs : 120 < s.size
  · rw [if_pos hs] at h
    injection h with h1 h2
    injection h2 with h3 h4
    exact absurd h4 (by decide)
  rw [if_neg hs] at h
  obtain ⟨r, hr⟩ := parse_lex s
  rw [hr] at h
  refine ⟨by omega, ?_⟩
  cases r with
  | bad b e =>
    injection h with h1 h2
    injection h2 with h3 h4
    exact absurd h4 (lexP_bad s _ _ _ _ _ hr)
  | ok ts =>
    refine ⟨ts, hr, ?_⟩
    have h : parseT s ts = (x, a, 0) := h
    unfold parseT at h
    obtain ⟨rp, hrp⟩ := parse_P s ts
    rw [hrp] at h
    cases rp with
    | fail b =>
      injection h with h1 h2
      injection h2 with h3 h4
      exact absurd h4 (by decide)
    | ok y i l =>
      dsimp only at h
      by_cases hi : i < ts.length
      · rw [if_pos hi] at h
        injection h with h1 h2
        injection h2 with h3 h4
        exact absurd h4 (by decide)
      rw [if_neg hi] at h
      by_cases hl : 0 ≤ l
      · rw [if_pos hl] at h
        injection h with h1 h2
        injection h2 with h3 h4
        exact absurd h4 (by decide)
      rw [if_neg hl] at h
      by_cases hv : validB y = true
      · rw [if_pos hv] at h
        injection h with h1 h2
        injection h2 with h3 h4
        subst h1
        have hg := (P_goes ts s.size _ .or 0 (-1) y i l hrp).2
        have e : i = ts.length := by omega
        exact ⟨hv, h3.symm, l, by omega, by rw [hrp, e]⟩
      · rw [if_neg hv] at h
        injection h with h1 h2
        injection h2 with h3 h4
        exact absurd h4 (by decide)
theorem parse_of {s : ByteArray} {x : E} {l : Int} {ts : List Tk} (hs : s.size ≤ 120) (hx : Lx [] s.data.toList 0 ts [] s.size) (hp : Says ts s.size .or 0 (-1) x ts.length l) (hl : l < 0) (hv : validB x = true) : parseP s = (x, 0, 0) := by
  obtain ⟨r, hr⟩ := parse_lex s
  obtain ⟨k, hk⟩ := Lx.end_ hx
  have e := hr
  rw [lex_all] at e
  obtain rfl := lexL_one e hk
  unfold parseP
  rw [if_neg (by omega), hr]
  show parseT s ts = _
  unfold parseT
  obtain ⟨rp, hrp⟩ := parse_P s ts
  obtain ⟨k2, hk2⟩ := hp
  obtain rfl := P_one hrp hk2
  rw [hrp]
  dsimp only
  rw [if_neg (Nat.lt_irrefl _), if_neg (by omega), if_pos hv]
theorem pk_get {ts : List Tk} (en : Int) {i : Nat} (h : i < ts.length) : pk ts en i = ts[i] := by
  unfold pk
  rw [if_pos h]
  simp [h]
theorem bare_pk {ts ts' : List Tk} {en en' : Int} {i j : Nat} (h : i < ts.length) (h' : j < ts'.length) (hb : bare ts'[j] = bare ts[i]) : (pk ts' en' j).f0 = (pk ts en i).f0 ∧ (pk ts' en' j).f2 = (pk ts en i).f2 ∧ (pk ts' en' j).f3 = (pk ts en i).f3 := by
  rw [pk_get en h, pk_get en' h']
  unfold bare at hb
  injection hb with h1 h2
  injection h2 with h3 h4
  exact ⟨h1, h3, h4⟩
theorem parse_brackets (s : ByteArray) (hs : s.size ≤ 116) {x : E} {a : Int} (h : parseP s = (x, a, 0)) : parseP ((bs [32, 40] ++ s) ++ bs [41, 32]) = (x, 0, 0) := by
  obtain ⟨-, ts, hl, hv, -, l, hl0, hP⟩ := parse_parts h
  rw [lex_all] at hl
  have hsep : Sep [41, 32] := fun c cs e => by cases e; rfl
  obtain ⟨ts0, e0, hf, hx⟩ := lex_post [41, 32] hsep _ _ _ _ _ hl
  obtain rfl : ts = ts0 := by simpa using e0
  obtain ⟨ts', hb, hlx⟩ := hx [⟨3, (1 : Nat), 0, bs [40]⟩] 2
  have hlen : ts'.length = ts.length := by have := congrArg List.length hb; simpa using this
  have hsz : s.data.toList.length = s.size := rfl
  have hdata : ((bs [32, 40] ++ s) ++ bs [41, 32]).data.toList = 32 :: 40 :: (s.data.toList ++ [41, 32]) := by
    rw [ByteArray.data_append, ByteArray.data_append]
    simp
  have z1 : (bs [32, 40]).size = 2 := rfl
  have z2 : (bs [41, 32]).size = 2 := rfl
  have hsize : ((bs [32, 40] ++ s) ++ bs [41, 32]).size = s.size + 4 := by rw [ByteArray.size_append, ByteArray.size_append]; omega
  have l1 := (Lx.space [] (40 :: (s.data.toList ++ [41, 32])) 0).trans (Lx.sym [] 40 (s.data.toList ++ [41, 32]) 1 rfl)
  have l2 := l1.trans hlx
  have l3 := (l2.trans (Lx.sym _ 41 [32] _ rfl)).trans (Lx.space _ [] _)
  rw [← hdata, show 2 + s.data.toList.length + 1 + 1 = ((bs [32, 40] ++ s) ++ bs [41, 32]).size by rw [hsize, hsz]; omega] at l3
  generalize hj : (⟨3, ((2 + s.data.toList.length : Nat) : Int), 0, bs [41]⟩ : Tk) = t1 at l3
  have ht1 : t1.f3.toList = [41] := by rw [← hj, ByteArray.toList_eq]
  generalize ((bs [32, 40] ++ s) ++ bs [41, 32]) = s' at *
  generalize hT : [(⟨3, (1 : Nat), 0, bs [40]⟩ : Tk)] ++ ts' ++ [t1] = T at l3
  have hTl : T.length = ts.length + 2 := by rw [← hT]; simp [hlen]
  have hmid : ∀ j (h : j < ts.length), ∃ h' : j + 1 < T.length, bare T[j + 1] = bare ts[j] := fun j h => by
    refine ⟨by omega, ?_⟩
    have h1 : T[j + 1]? = ts'[j]? := by
      rw [← hT]
      simp [List.getElem?_append, hlen, h]
    have h2 := congrArg (fun L : List (Int × Int × ByteArray) => L[j]?) hb
    simp only [List.getElem?_map] at h2
    rw [← h1, List.getElem?_eq_getElem (by omega : j + 1 < T.length), List.getElem?_eq_getElem h] at h2
    simpa using h2
  have hlast : pk T s'.size (ts.length + 1) = t1 := by
    rw [pk_get _ (by omega)]
    have : T[ts.length + 1]? = some t1 := by
      rw [← hT, ← hlen]
      simp
    rw [List.getElem?_eq_getElem (by omega)] at this
    exact Option.some.inj this
  have hfirst : pk T s'.size 0 = ⟨3, (1 : Nat), 0, bs [40]⟩ := by
    rw [pk_get _ (by omega)]
    have : T[0]? = some ⟨3, (1 : Nat), 0, bs [40]⟩ := by
      rw [← hT]
      rfl
    rw [List.getElem?_eq_getElem (by omega)] at this
    exact Option.some.inj this
  have B : Between ts T s.size s'.size := ⟨fun i hi => by
      obtain ⟨h', e⟩ := hmid i hi
      exact bare_pk hi h' e, by rw [hlast]; exact ht1, fun i hi => by
      rw [pk_get _ hi]
      exact hf _ (List.getElem_mem hi)⟩
  obtain ⟨el, hp2⟩ := P_sh B _ .or 0 (-1) x ts.length l (Nat.zero_le _) hP hl0
  have s1 : Says T s'.size .or (0 + 1) (-1) x (ts.length + 1) (-1) := ⟨_, hp2⟩
  have s2 := s1.paren (i := 0) (by rw [hfirst]) (by rw [hfirst, ByteArray.toList_eq]) (by rw [hlast]; exact ht1)
  have s3 := s2.up (by rw [hfirst, ByteArray.toList_eq]; decide) (by
    left
    have := (pk_end T s'.size).1
    rw [hTl] at this
    exact this)
  rw [show ts.length + 1 + 1 = T.length by omega] at s3
  exact parse_of (by omega) l3 s3 (by decide) hv
end Go.Proofs.YtbbopomecanaoaaDoor.A
namespace Go.Proofs.YtbbopomecanaoaaDoor.A
open Go.RowKit Go.Proofs.YtbbopomecanaoaaDoorW.PrintWords Go.Proofs.YtbbopomecanaoaaDoorW.PrintLast Go.Proofs.YtbbopomecanaoaaDoorW.PrintMore Go.Proofs.YtbbopomecanaoaaDoor.XK
open Go.Proofs.YtbbopomecanaoaaDoor
set_option linter.unusedVariables false
set_option linter.unusedSimpArgs false
theorem same_loop (x : E) (hl : x.f3.length ≤ 1000) (hf : ∀ y ∈ x.f3, ∃ k, substationref26_Same.f k y.f0 y.f1 y.f2 y.f3 y.f0 y.f1 y.f2 y.f3 = some true) :
    ∀ (rest pre : List E), pre ++ rest = x.f3 → ∃ k, substationref26_Same.l0 k (x.f3.length : Int) (pre.length : Int) x.f0 x.f1 x.f2 x.f3 x.f0 x.f1 x.f2 x.f3 = some true
  | [], pre, e => ⟨1, by
    rw [substationref26_Same.l0, if_neg (by rw [← e]; simp)]⟩
  | y :: ys, pre, e => by
    obtain ⟨k1, h1⟩ := hf y (by rw [← e]; simp)
    obtain ⟨k2, h2⟩ := same_loop x hl hf ys (pre ++ [y]) (by rw [← e]; simp)
    have hlen : (pre.length : Int) < (x.f3.length : Int) := by rw [← e]; simp; omega
    refine ⟨max k1 k2 + 1, ?_⟩
    have e1 : rd_T24 x.f3 (pre.length : Int) = y := by rw [← e]; exact rd_pre pre ys y
    rw [substationref26_Same.l0, if_pos hlen, if_pos (by omega), if_pos hlen, if_pos hlen, e1, lift_le (f := fun k => substationref26_Same.f k y.f0 y.f1 y.f2 y.f3 y.f0 y.f1 y.f2 y.f3) (fun k => substationref26_Same.mono _ _ _ _ _ _ _ _ k) h1 (Nat.le_max_left _ _), Option.bind_some, if_pos rfl, w64 (by omega) (by omega), ← pre_len pre y,
      lift_le (f := fun k => substationref26_Same.l0 k (x.f3.length : Int) (((pre ++ [y]).length : Nat) : Int) x.f0 x.f1 x.f2 x.f3 x.f0 x.f1 x.f2 x.f3) (fun k => (substationref26_Same.mono_l k).2.2 _ _ _ _ _ _ _ _ _ _) h2 (Nat.le_max_right _ _)]
theorem same_f : ∀ (m : Nat) (x : E), szE x ≤ m → bE x = true → ∃ k, substationref26_Same.f k x.f0 x.f1 x.f2 x.f3 x.f0 x.f1 x.f2 x.f3 = some true
  | 0, x, h, hb => by
    have := szE_eq x
    omega
  | m + 1, x, h, hb => by
    have hz := szE_eq x
    rw [bE_eq, Bool.and_eq_true] at hb
    have hn : x.f3.length ≤ 1000 := by
      have h1 := hb.1
      unfold nodeB at h1
      simp only [Bool.and_eq_true, decide_eq_true_eq] at h1
      have h2 := h1.1.1.2
      have : arityI x.f0 ≤ 3 := by
        unfold arityI
        repeat' split
        all_goals decide
      omega
    obtain ⟨k, hk⟩ := same_loop x hn (fun y hy => same_f m y (by have := szE_mem hy; omega) (bE_mem hb.2 hy)) x.f3 [] rfl
    refine ⟨k + 1 + 1, ?_⟩
    rw [substationref26_Same.f, if_pos rfl, if_pos rfl, if_pos rfl, substationref26_Same.j0]
    have e : ((x.f3.length : Int) != (x.f3.length : Int)) = false := by simp
    rw [e, if_neg (by decide)]
    exact hk
end Go.Proofs.YtbbopomecanaoaaDoor.A
namespace Go.Proofs.YtbbopomecanaoaaDoor.A
open Go.RowKit Go.Proofs.YtbbopomecanaoaaDoorW.PrintWords Go.Proofs.YtbbopomecanaoaaDoorW.PrintLast Go.Proofs.YtbbopomecanaoaaDoorW.PrintMore Go.Proofs.YtbbopomecanaoaaDoor.XK
open Go.Proofs.YtbbopomecanaoaaDoor
attribute [local go_sem] max2_int min2_int max_two min_two max_three min_three max_four min_four fld1 fld3
set_option linter.unusedVariables false
set_option linter.unusedSimpArgs false
set_option maxRecDepth 100000 in
set_option maxHeartbeats 4000000 in
theorem EquationBrackets_walk (s : ByteArray) (W : World) (hw : WF W) (w0 : s.size ≤ 140737488351232) :
    Calls Tryd.prog 6 #[.string s] W fun e w' => e = .returned (.bool true) ∧ Below W.heap.size W w' := by
  have HK := Aside0.mk (fun w1 h => known_calls w1 (h : WF w1))
  have HW := Aside0.mk hw
  by_cases hs : 116 < s.size
  · have g1 : decide ((s.size : Int) > 116) = true := by simp; omega
    have g2 : decide ((116 : Int) < (s.size : Int)) = true := by simp; omega
    clear hs w0 hw
    go_enter Tryd.func6, Tryd.ntmps6
    go_wp2_with fail
    with_reducible refine (HK.out _ HW.out).mono ?_
    rintro e w2 ⟨rfl, HB⟩
    have HB := Aside0.mk HB
    go_wp2_with fail
    go_ret
    exact ⟨rfl, HB.out⟩
  have g1 : decide ((s.size : Int) > 116) = false := by simp; omega
  have g2 : decide ((116 : Int) < (s.size : Int)) = false := by simp; omega
  have s1 : (9223372036854775807 < 2 + s.size) = False := eq_false (by omega)
  have s2 : (9223372036854775807 < 2 + s.size + 2) = False := eq_false (by omega)
  have s3 : (9223372036854775805 < 2 + s.size) = False := eq_false (by omega)
  have s4 : (9223372036854775803 < s.size) = False := eq_false (by omega)
  have s5 : (9223372036854775805 < s.size) = False := eq_false (by omega)
  have HPB := Aside0.mk (fun x a h => parse_brackets s (by omega) (x := x) (a := a) h)
  have HPP := Aside0.mk (fun x a h => parse_parts (s := s) (x := x) (a := a) h)
  have HP1 := Aside0.mk (parse_calls atoiWF s W hw)
  have HP2 := Aside0.mk (fun w1 h => parse_calls atoiWF ((bs [32, 40] ++ s) ++ bs [41, 32]) w1 (h : WF w1))
  generalize hx1 : parseP s = p1 at *
  generalize hx2 : parseP ((bs [32, 40] ++ s) ++ bs [41, 32]) = p2 at *
  obtain ⟨x, a, e1⟩ := p1
  obtain ⟨y, b, e2⟩ := p2
  clear hs w0 hw hx1 hx2
  go_enter Tryd.func6, Tryd.ntmps6
  go_wp2_with fail
  with_reducible refine HP1.out.mono ?_
  clear HP1
  rintro e w2 ⟨v3, rfl, hx, HB⟩
  obtain ⟨A, c, rfl⟩ := Kd.R_slice hx
  dsimp only at hx ⊢
  have hC := Aside0.mk (Kd.R_reads' hx).2
  clear hx
  have HA := Aside0.mk (below_alloc (Below.refl w2.heap.size w2) (.cells (cE x (.slice A x.f3.length c)) 24))
  have BX := Aside0.mk (heap_alloc_new w2 (.cells (cE x (.slice A x.f3.length c)) 24))
  replace HW := Aside0.mk (WF_stay (WF_stay HW.out HB) HA.out)
  replace hC := Aside0.mk (And.intro hC.out.1 (Kd.C_below hC.out.2 HA.out))
  have HB := Aside0.mk (below_step HB HA.out)
  clear HA
  go_wp2_with fail
  with_reducible refine (HP2.out _ HW.out).mono ?_
  clear HP2
  rintro e w3 ⟨v4, rfl, hx, HB1⟩
  obtain ⟨A2, c2, rfl⟩ := Kd.R_slice hx
  dsimp only at hx ⊢
  have hC2 := Aside0.mk (Kd.R_reads' hx).2
  clear hx s1 s2 s3 s4 s5
  have HA := Aside0.mk (below_alloc (Below.refl w3.heap.size w3) (.cells (cE y (.slice A2 y.f3.length c2)) 24))
  have BY := Aside0.mk (heap_alloc_new w3 (.cells (cE y (.slice A2 y.f3.length c2)) 24))
  replace HW := Aside0.mk (WF_stay (WF_stay HW.out HB1) HA.out)
  replace hC := Aside0.mk (And.intro hC.out.1 (Kd.C_below (Kd.C_below hC.out.2 HB1) HA.out))
  replace hC2 := Aside0.mk (And.intro hC2.out.1 (Kd.C_below hC2.out.2 HA.out))
  replace HB := Aside0.mk (below_step (below_step HB.out HB1) HA.out)
  replace BX := Aside0.mk (blk_below (blk_below BX.out HB1) HA.out)
  clear HA HB1
  by_cases he : e1 = 0
  · have b1 : (e1 != 0) = false := by simpa using he
    have b2 : (e1 == 0) = true := by simpa using he
    subst he
    have hy := HPB.out x a rfl
    injection hy with hy1 hy2
    injection hy2 with hy2 hy3
    have hv := (HPP.out x a rfl).2
    obtain ⟨ts, -, hv, -⟩ := hv
    obtain ⟨hz, -, hbe⟩ := (validB_is x).mp hv
    obtain ⟨k, hk⟩ := same_f _ x (Nat.le_refl _) hbe
    have b3 : (e2 != 0) = false := by simpa using hy3
    have b4 : (e2 == 0) = true := by simpa using hy3
    have HS := Aside0.mk hk
    clear HPB HPP hv hz hbe hk hy2 hy3
    subst hy1
    go_wp2_with fail
    with_reducible refine (HK.out _ HW.out).mono ?_
    rintro e w4 ⟨rfl, HD⟩
    replace HB := Aside0.mk (below_step HB.out HD)
    replace BX := Aside0.mk (blk_below BX.out HD)
    replace BY := Aside0.mk (blk_below BY.out HD)
    replace hC := Aside0.mk (And.intro hC.out.1 (Kd.C_below hC.out.2 HD))
    replace hC2 := Aside0.mk (And.intro hC2.out.1 (Kd.C_below hC2.out.2 HD))
    clear HD HK
    have HSC := Aside0.mk (substationref26_Same.calls k _ _ _ _ _ _ _ _ _ _ _ _ true w4 hC.out.2 hC.out.1 hC2.out.2 hC2.out.1 HS.out)
    have x0 : w4.cell? ⟨w2.heap.size, 0, none⟩ = some (.int .i64 y.f0) := blk_cell BX.out 0
    have x1 : w4.cell? ⟨w2.heap.size, 1, none⟩ = some (.int .i64 y.f1) := blk_cell BX.out 1
    have x2 : w4.cell? ⟨w2.heap.size, 2, none⟩ = some (.string y.f2) := blk_cell BX.out 2
    have x3 : w4.cell? ⟨w2.heap.size, 3, none⟩ = some (.slice A y.f3.length c) := blk_cell BX.out 3
    have y0 : w4.cell? ⟨w3.heap.size, 0, none⟩ = some (.int .i64 y.f0) := blk_cell BY.out 0
    have y1 : w4.cell? ⟨w3.heap.size, 1, none⟩ = some (.int .i64 y.f1) := blk_cell BY.out 1
    have y2 : w4.cell? ⟨w3.heap.size, 2, none⟩ = some (.string y.f2) := blk_cell BY.out 2
    have y3 : w4.cell? ⟨w3.heap.size, 3, none⟩ = some (.slice A2 y.f3.length c2) := blk_cell BY.out 3
    go_wp2_with fail
    with_reducible refine HSC.out.mono ?_
    rintro e w5 ⟨rfl, HD⟩
    replace HB := Aside0.mk (below_step HB.out HD)
    clear HD HSC x0 x1 x2 x3 y0 y1 y2 y3
    go_wp2_with fail
    go_ret
    exact ⟨rfl, HB.out⟩
  · have b1 : (e1 != 0) = true := by simpa using he
    have b2 : (e1 == 0) = false := by simpa using he
    clear he HPB HPP
    go_wp2_with fail
    with_reducible refine (HK.out _ HW.out).mono ?_
    rintro e w4 ⟨rfl, HD⟩
    replace HB := Aside0.mk (below_step HB.out HD)
    clear HD HK
    go_wp2_with fail
    go_ret
    exact ⟨rfl, HB.out⟩
end Go.Proofs.YtbbopomecanaoaaDoor.A
namespace Go.Proofs.YtbbopomecanaoaaDoor.A
open Go.RowKit Go.Proofs.YtbbopomecanaoaaDoorW.PrintWords Go.Proofs.YtbbopomecanaoaaDoorW.PrintLast Go.Proofs.YtbbopomecanaoaaDoorW.PrintMore Go.Proofs.YtbbopomecanaoaaDoor.XK
open Go.Proofs.YtbbopomecanaoaaDoor
set_option linter.unusedVariables false
set_option linter.unusedSimpArgs false
abbrev Bare := Int × Int × ByteArray
abbrev wd (s : List UInt8) : Bare := (1, 0, bs s)
abbrev sy (c : UInt8) : Bare := (3, 0, bs [c])
abbrev nm (n : Int) : Bare := (2, n, numB n)
def argsT : List (List Bare) → List Bare
  | [] => []
  | [x] => x
  | x :: y :: xs => x ++ (sy 44 :: argsT (y :: xs))
def tkN (op n : Int) (s : ByteArray) (ks : List (List Bare)) : List Bare :=
  if op = 1 then (if n = 1 then [wd [116, 114, 117, 101]] else [wd [102, 97, 108, 115, 101]])
  else if op = 2 then [nm n]
  else if op = 3 then [(1, 0, s)]
  else if op = 4 then sy 40 :: wd [110, 111, 116] :: (ks.getD 0 [] ++ [sy 41])
  else if op ≤ 12 then sy 40 :: (ks.getD 0 [] ++ ((if op ≤ 7 then 1 else 3, 0, bs (signL op)) :: (ks.getD 1 [] ++ [sy 41])))
  else wd (callL op) :: sy 40 :: (argsT (if op = 19 ∨ op = 20 then ks ++ [[nm n]] else ks) ++ [sy 41])
mutual
def tkE : E → List Bare
  | ⟨o, n, s, ks⟩ => tkN o n s (tkL ks)
def tkL : List E → List (List Bare)
  | [] => []
  | y :: ys => tkE y :: tkL ys
end
theorem tkE_eq (x : E) : tkE x = tkN x.f0 x.f1 x.f2 (tkL x.f3) := by cases x; rw [tkE]
theorem tkL_len : ∀ l : List E, (tkL l).length = l.length
  | [] => by rw [tkL]; rfl
  | y :: ys => by rw [tkL, List.length_cons, List.length_cons, tkL_len ys]
def LexTo (t : List UInt8) (b : List Bare) : Prop := ∀ (post : List UInt8) (l : List Tk) (i : Nat), Sep post → ∃ ts, ts.map bare = b ∧ Lx l (t ++ post) i (l ++ ts) post (i + t.length)
def LexAny (t : List UInt8) (b : List Bare) : Prop := ∀ (post : List UInt8) (l : List Tk) (i : Nat), ∃ ts, ts.map bare = b ∧ Lx l (t ++ post) i (l ++ ts) post (i + t.length)
theorem LexAny.to {t : List UInt8} {b : List Bare} (h : LexAny t b) : LexTo t b := fun post l i _ => h post l i
theorem LexAny.then_ {t1 t2 : List UInt8} {b1 b2 : List Bare} (h1 : LexAny t1 b1) (h2 : LexTo t2 b2) : LexTo (t1 ++ t2) (b1 ++ b2) := by
  intro post l i hp
  obtain ⟨s1, e1, x1⟩ := h1 (t2 ++ post) l i
  obtain ⟨s2, e2, x2⟩ := h2 post (l ++ s1) (i + t1.length) hp
  refine ⟨s1 ++ s2, by rw [List.map_append, e1, e2], ?_⟩
  have := x1.trans x2
  rwa [List.append_assoc l, ← List.append_assoc t1, Nat.add_assoc, ← List.length_append] at this
theorem LexTo.then_ {t1 t2 : List UInt8} {b1 b2 : List Bare} (h1 : LexTo t1 b1) (h2 : LexTo t2 b2) {c : UInt8} {cs : List UInt8} (hc : t2 = c :: cs) (hw : wordB (cI c) = false) : LexTo (t1 ++ t2) (b1 ++ b2) := by
  intro post l i hp
  obtain ⟨s1, e1, x1⟩ := h1 (t2 ++ post) l i (fun d ds e => by rw [hc] at e; cases e; exact hw)
  obtain ⟨s2, e2, x2⟩ := h2 post (l ++ s1) (i + t1.length) hp
  refine ⟨s1 ++ s2, by rw [List.map_append, e1, e2], ?_⟩
  have := x1.trans x2
  rwa [List.append_assoc l, ← List.append_assoc t1, Nat.add_assoc, ← List.length_append] at this
theorem lex_space : LexAny [32] [] := fun post l i => ⟨[], rfl, by simpa using Lx.space l post i⟩
theorem lex_sym (c : UInt8) (hc : symB (cI c) = true) : LexAny [c] [sy c] := fun post l i => ⟨[⟨3, i, 0, bs [c]⟩], rfl, Lx.sym l c post i hc⟩
theorem lex_word (c : UInt8) (w : List UInt8) (h1 : letterB (cI c) = true) (hw : ∀ d ∈ w, wordB (cI d) = true) (hl : w.length ≤ 11) : LexTo (c :: w) [wd (c :: w)] :=
  fun post l i hp => ⟨[⟨1, i, 0, bs (c :: w)⟩], rfl, Lx.word l c w post i h1 hw hl hp⟩
theorem dec_digits : ∀ (n u : Nat), u < 10 ^ (n + 1) → ∀ d ∈ Lib.decDigits u, digitB (cI d) = true
  | 0, u, h => by
    rw [Lib.decDigits, dif_pos (by omega)]
    intro d hd
    rw [List.mem_singleton.mp hd]
    unfold digitB cI
    have : (UInt8.ofNat (48 + u)).toNat = 48 + u := by simp; omega
    rw [this]
    simp only [decide_eq_true_eq]
    omega
  | n + 1, u, h => by
    rw [Lib.decDigits]
    by_cases hu : u < 10
    · have := dec_digits 0 u (by omega)
      rw [Lib.decDigits, dif_pos hu] at this
      rw [dif_pos hu]
      exact this
    · rw [dif_neg hu]
      intro d hd
      rcases List.mem_append.mp hd with hd | hd
      · exact dec_digits n (u / 10) (by rw [Nat.pow_succ] at h; omega) d hd
      · have := dec_digits 0 (u % 10) (by omega)
        rw [Lib.decDigits, dif_pos (by omega)] at this
        exact this d hd
theorem dec_val : ∀ (n u : Nat), u < 10 ^ (n + 1) → (Lib.decDigits u).foldl (fun a b => a * 10 + ((b.toNat : Int) - 48)) 0 = (u : Int)
  | 0, u, h => by
    rw [Lib.decDigits, dif_pos (by omega)]
    have : (UInt8.ofNat (48 + u)).toNat = 48 + u := by simp; omega
    simp only [List.foldl_cons, List.foldl_nil, this]
    omega
  | n + 1, u, h => by
    rw [Lib.decDigits]
    by_cases hu : u < 10
    · have := dec_val 0 u (by omega)
      rw [Lib.decDigits, dif_pos hu] at this
      rw [dif_pos hu]
      exact this
    · rw [dif_neg hu, List.foldl_append, dec_val n (u / 10) (by rw [Nat.pow_succ] at h; omega)]
      have : (UInt8.ofNat (48 + u % 10)).toNat = 48 + u % 10 := by simp; omega
      simp only [List.foldl_cons, List.foldl_nil, this]
      omega
theorem dec_head : ∀ (n u : Nat), u < 10 ^ (n + 1) → ∃ c w, Lib.decDigits u = c :: w ∧ (1 ≤ u → cI c ≠ 48) ∧ (u < 10 → w = [])
  | 0, u, h => by
    rw [Lib.decDigits, dif_pos (by omega)]
    refine ⟨_, _, rfl, fun h1 => ?_, fun _ => rfl⟩
    unfold cI
    have : (UInt8.ofNat (48 + u)).toNat = 48 + u := by simp; omega
    rw [this]
    omega
  | n + 1, u, h => by
    rw [Lib.decDigits]
    by_cases hu : u < 10
    · have := dec_head 0 u (by omega)
      rw [Lib.decDigits, dif_pos hu] at this
      rw [dif_pos hu]
      exact this
    · rw [dif_neg hu]
      obtain ⟨c, w, e, h1, h2⟩ := dec_head n (u / 10) (by rw [Nat.pow_succ] at h; omega)
      rw [e]
      exact ⟨c, w ++ [UInt8.ofNat (48 + u % 10)], rfl, fun _ => h1 (by omega), fun h3 => absurd h3 hu⟩
theorem lex_num (n : Int) (h0 : 0 ≤ n) (h1 : n ≤ 32767) : LexTo (numB n).data.toList [nm n] := by
  have hv := dec_val 4 n.toNat (by omega)
  have hd := dec_digits 4 n.toNat (by omega)
  obtain ⟨c, w, e, hc, hw⟩ := dec_head 4 n.toNat (by omega)
  have hb : numB n = bs (c :: w) := by unfold numB; rw [e]
  have hdec : decV (bs (c :: w)) = n := by
    unfold decV
    rw [← e]
    show (Lib.decDigits n.toNat).foldl _ 0 = n
    rw [hv]
    omega
  have hbad : numBad (bs (c :: w)) = false := by
    unfold numBad
    rw [hdec, decide_eq_false (show ¬ 32767 < n by omega), Bool.false_or]
    have hby : byteAt (bs (c :: w)) 0 = cI c := rfl
    rw [hby]
    by_cases hz : 1 ≤ n.toNat
    · have := hc hz
      simp [this]
    · have := hw (by omega)
      subst this
      have : (bs [c]).size = 1 := rfl
      rw [this]
      rfl
  rw [e] at hd
  intro post l i hp
  rw [hb]
  refine ⟨[⟨2, i, decV (bs (c :: w)), bs (c :: w)⟩], ?_, Lx.num l c w post i hd hbad hp⟩
  unfold nm
  rw [hb]
  simp [bare, hdec]
theorem nameGo_all (s : ByteArray) : ∀ (k i : Nat), i + k = s.size → nameGo s k i = true → ∀ j, i ≤ j → j < s.size → nameOk (j == 0) (byteAt s j) = true
  | 0, i, h, hg, j, h1, h2 => absurd h2 (by omega)
  | k + 1, i, h, hg, j, h1, h2 => by
    rw [nameGo, if_pos (by omega)] at hg
    by_cases hn : nameOk (i == 0) (byteAt s i) = true
    · rw [if_pos hn] at hg
      rcases Nat.lt_or_ge i j with h3 | h3
      · exact nameGo_all s k (i + 1) (by omega) hg j (by omega) h2
      · obtain rfl : i = j := by omega
        exact hn
    · rw [if_neg hn] at hg; cases hg
theorem name_parts {s : ByteArray} (h : nameE s = true) : ∃ c w, s = bs (c :: w) ∧ letterB (cI c) = true ∧ (∀ d ∈ w, wordB (cI d) = true) ∧ w.length ≤ 11 ∧ resB s = false := by
  unfold nameE at h
  rw [Bool.and_eq_true, Bool.not_eq_true'] at h
  obtain ⟨h1, h2⟩ := h
  unfold sNameB at h1
  split at h1
  · cases h1
  rename_i hne
  split at h1
  · cases h1
  rename_i hle
  have hsz : s.data.toList.length = s.size := rfl
  have hall := nameGo_all s s.size 0 (by omega) h1
  rw [ByteArray.toList_eq] at hne
  have hby : ∀ j (hj : j < s.data.toList.length), byteAt s j = cI (s.data.toList[j]) := fun j hj => by
    unfold byteAt
    show ((s.data[j]!).toNat : Int) = _
    rw [getElem!_pos s.data j hj]
    simp
  have hb : s = bs s.data.toList := by cases s; simp [bs]
  cases hl : s.data.toList with
  | nil => exact absurd hl hne
  | cons c w =>
    rw [hl] at hsz hby
    refine ⟨c, w, by rw [hb, hl], ?_, fun d hd => ?_, by simp at hsz; omega, h2⟩
    · have h3 := hall 0 (Nat.le_refl _) (by simp at hsz; omega)
      rw [hby 0 (by simp)] at h3
      unfold nameOk at h3
      simpa using h3
    · obtain ⟨j, hj, e⟩ := List.mem_iff_getElem.mp hd
      have h3 := hall (j + 1) (by omega) (by simp at hsz; omega)
      rw [hby (j + 1) (by simp; omega)] at h3
      have e2 : (c :: w)[j + 1]'(by simp; omega) = d := by simpa using e
      rw [e2] at h3
      unfold nameOk at h3
      unfold wordB
      have e0 : (j + 1 == 0) = false := by simp
      rw [e0] at h3
      simp only [Bool.not_false, Bool.true_and, Bool.or_eq_true] at h3 ⊢
      rcases h3 with h3 | h3 | h3
      · exact Or.inl (Or.inl h3)
      · exact Or.inr h3
      · exact Or.inl (Or.inr h3)
def joinB : List ByteArray → List UInt8
  | [] => []
  | [x] => x.data.toList
  | x :: y :: xs => x.data.toList ++ ([44, 32] ++ joinB (y :: xs))
theorem app_list (a b : ByteArray) : (a ++ b).data.toList = a.data.toList ++ b.data.toList := by rw [ByteArray.data_append]; simp
theorem args_false : ∀ (l : List ByteArray) (a : ByteArray), (argsB false a l).data.toList = a.data.toList ++ (match l with | [] => [] | x :: xs => [44, 32] ++ joinB (x :: xs))
  | [], a => by simp [argsB]
  | [x], a => by
    rw [argsB, argsB, app_list, app_list]
    simp [joinB]
  | x :: y :: xs, a => by
    rw [argsB, args_false (y :: xs), app_list, app_list]
    simp [joinB]
theorem args_true : ∀ (l : List ByteArray) (a : ByteArray), (argsB true a l).data.toList = a.data.toList ++ joinB l
  | [], a => by simp [argsB, joinB]
  | [x], a => by
    rw [argsB, argsB, app_list]
    simp [joinB]
  | x :: y :: xs, a => by
    rw [argsB, args_false (y :: xs), app_list]
    simp [joinB]
theorem lex_join : ∀ (l : List ByteArray) (bl : List (List Bare)), l.length = bl.length → (∀ j (h : j < l.length) (h' : j < bl.length), LexTo (l[j]).data.toList (bl[j])) → LexTo (joinB l ++ [41]) (argsT bl ++ [sy 41])
  | [], [], _, _ => (lex_sym 41 rfl).to
  | [x], [b], _, h => (h 0 (by simp) (by simp)).then_ (lex_sym 41 rfl).to (c := 41) (cs := []) rfl rfl
  | x :: y :: xs, b :: b2 :: bl, hl, h => by
    have ih := lex_join (y :: xs) (b2 :: bl) (by simpa using hl) (fun j h1 h2 => h (j + 1) (by simpa using h1) (by simpa using h2))
    have h1 := (lex_sym 44 rfl).then_ (lex_space.then_ ih)
    have h2 := (h 0 (by simp) (by simp)).then_ h1 (c := 44) (cs := [32] ++ (joinB (y :: xs) ++ [41])) rfl rfl
    show LexTo ((x.data.toList ++ ([44, 32] ++ joinB (y :: xs))) ++ [41]) ((b ++ (sy 44 :: argsT (b2 :: bl))) ++ [sy 41])
    have e1 : (x.data.toList ++ ([44, 32] ++ joinB (y :: xs))) ++ [41] = x.data.toList ++ ([44] ++ ([32] ++ (joinB (y :: xs) ++ [41]))) := by simp
    have e2 : (b ++ (sy 44 :: argsT (b2 :: bl))) ++ [sy 41] = b ++ ([sy 44] ++ ([] ++ (argsT (b2 :: bl) ++ [sy 41]))) := by simp
    rw [e1, e2]
    exact h2
  | [], b :: bl, hl, _ => absurd hl (by simp)
  | x :: xs, [], hl, _ => absurd hl (by simp)
  | [x], b :: b2 :: bl, hl, _ => absurd hl (by simp)
  | x :: y :: xs, [b], hl, _ => absurd hl (by simp)
end Go.Proofs.YtbbopomecanaoaaDoor.A
namespace Go.Proofs.YtbbopomecanaoaaDoor.A
open Go.RowKit Go.Proofs.YtbbopomecanaoaaDoorW.PrintWords Go.Proofs.YtbbopomecanaoaaDoorW.PrintLast Go.Proofs.YtbbopomecanaoaaDoorW.PrintMore Go.Proofs.YtbbopomecanaoaaDoor.XK
open Go.Proofs.YtbbopomecanaoaaDoor
set_option linter.unusedVariables false
set_option linter.unusedSimpArgs false
theorem kids_lex : ∀ (l : List E), (∀ y ∈ l, LexTo (fmtE y).data.toList (tkE y)) → ∀ j (h1 : j < (fmtL l).length) (h2 : j < (tkL l).length), LexTo ((fmtL l)[j]).data.toList ((tkL l)[j])
  | [], h, j, h1, h2 => by rw [fmtL] at h1; simp at h1
  | y :: ys, h, 0, h1, h2 => by
    have := h y (by simp)
    simpa [fmtL, tkL] using this
  | y :: ys, h, j + 1, h1, h2 => by
    have := kids_lex ys (fun z hz => h z (by simp [hz])) j (by rw [fmtL] at h1; simpa using h1) (by rw [tkL] at h2; simpa using h2)
    simpa [fmtL, tkL] using this
theorem kid_lex {l : List E} (h : ∀ y ∈ l, LexTo (fmtE y).data.toList (tkE y)) {j : Nat} (hj : j < l.length) : LexTo ((fmtL l).getD j ByteArray.empty).data.toList ((tkL l).getD j []) := by
  have h1 : j < (fmtL l).length := by rw [fmtL_len]; exact hj
  have h2 : j < (tkL l).length := by rw [tkL_len]; exact hj
  have := kids_lex l h j h1 h2
  simpa [List.getD, h1, h2] using this
theorem sign_lex (op : Int) (h5 : 5 ≤ op) (h12 : op ≤ 12) : LexTo (signL op) [((if op ≤ 7 then 1 else 3), 0, bs (signL op))] := by
  rcases (by omega : op = 5 ∨ op = 6 ∨ op = 7 ∨ op = 8 ∨ op = 9 ∨ op = 10 ∨ op = 11 ∨ op = 12) with rfl | rfl | rfl | rfl | rfl | rfl | rfl | rfl
  · exact lex_word 97 [110, 100] rfl (by decide) (by decide)
  · exact lex_word 111 [114] rfl (by decide) (by decide)
  · exact lex_word 120 [111, 114] rfl (by decide) (by decide)
  · exact (lex_sym 60 rfl).to
  · exact (lex_sym 62 rfl).to
  · exact (lex_sym 61 rfl).to
  · exact (lex_sym 43 rfl).to
  · exact (lex_sym 45 rfl).to
theorem call_lex (op : Int) (h5 : 13 ≤ op) (h12 : op ≤ 22) : LexTo (callL op) [wd (callL op)] := by
  rcases (by omega : op = 13 ∨ op = 14 ∨ op = 15 ∨ op = 16 ∨ op = 17 ∨ op = 18 ∨ op = 19 ∨ op = 20 ∨ op = 21 ∨ op = 22) with rfl | rfl | rfl | rfl | rfl | rfl | rfl | rfl | rfl | rfl
  · exact lex_word 109 [105, 110] rfl (by decide) (by decide)
  · exact lex_word 109 [97, 120] rfl (by decide) (by decide)
  · exact lex_word 97 [98, 115] rfl (by decide) (by decide)
  · exact lex_word 105 [102] rfl (by decide) (by decide)
  · exact lex_word 114 [105, 115, 101] rfl (by decide) (by decide)
  · exact lex_word 102 [97, 108, 108] rfl (by decide) (by decide)
  · exact lex_word 100 [101, 108, 97, 121] rfl (by decide) (by decide)
  · exact lex_word 104 [111, 108, 100] rfl (by decide) (by decide)
  · exact lex_word 108 [97, 116, 99, 104] rfl (by decide) (by decide)
  · exact lex_word 99 [111, 117, 110, 116] rfl (by decide) (by decide)
theorem op_range {op : Int} {n : Nat} (h : (n : Int) = arityI op) : 1 ≤ op ∧ op ≤ 22 := by
  cases Decidable.em (1 ≤ op ∧ op ≤ 22) with
  | inl h => exact h
  | inr h2 =>
    have e2 : arityI op = -1 := by
      unfold arityI
      rw [if_neg (by omega), if_neg (by omega), if_neg (by omega), if_neg (by omega)]
    omega
theorem lex_fmt : ∀ (m : Nat) (x : E), szE x ≤ m → bE x = true → LexTo (fmtE x).data.toList (tkE x)
  | 0, x, h, hb => by
    have := szE_eq x
    omega
  | m + 1, x, h, hb => by
    have hz := szE_eq x
    rw [bE_eq, Bool.and_eq_true] at hb
    obtain ⟨n1, n2, n3, n4, n5⟩ := node_facts hb.1
    have hk : ∀ y ∈ x.f3, LexTo (fmtE y).data.toList (tkE y) := fun y hy => lex_fmt m y (by have := szE_mem hy; omega) (bE_mem hb.2 hy)
    have hr := op_range n2
    rw [fmtE_eq, tkE_eq]
    unfold fmtN tkN
    by_cases c1 : x.f0 = 1
    · rw [if_pos c1, if_pos c1]
      by_cases hn : x.f1 = 1
      · rw [if_pos hn, if_pos hn]; exact lex_word 116 [114, 117, 101] rfl (by decide) (by decide)
      · rw [if_neg hn, if_neg hn]; exact lex_word 102 [97, 108, 115, 101] rfl (by decide) (by decide)
    rw [if_neg c1, if_neg c1]
    by_cases c2 : x.f0 = 2
    · rw [if_pos c2, if_pos c2]
      rw [c2] at n4
      exact lex_num x.f1 n3 n4
    rw [if_neg c2, if_neg c2]
    by_cases c3 : x.f0 = 3
    · rw [if_pos c3, if_pos c3]
      unfold namedB at n5
      rw [if_pos c3] at n5
      obtain ⟨c, w, e, h1, h2, h3, -⟩ := name_parts n5
      rw [e]
      exact lex_word c w h1 h2 h3
    rw [if_neg c3, if_neg c3]
    by_cases c4 : x.f0 = 4
    · rw [if_pos c4, if_pos c4]
      have hl : x.f3.length = 1 := by rw [c4] at n2; have h1 : (x.f3.length : Int) = 1 := n2; omega
      have h0 := kid_lex hk (j := 0) (by omega)
      have h1 := h0.then_ (lex_sym 41 rfl).to (c := 41) (cs := []) rfl rfl
      have h2 := (lex_word 110 [111, 116] rfl (by decide) (by decide)).then_ (lex_space.then_ h1) (c := 32) rfl rfl
      have h3 := (lex_sym 40 rfl).then_ h2
      rw [app_list, app_list]
      generalize ((fmtL x.f3).getD 0 ByteArray.empty).data.toList = K at *
      generalize (tkL x.f3).getD 0 [] = B at *
      have e : (bs [40, 110, 111, 116, 32]).data.toList ++ K ++ (bs [41]).data.toList = [40] ++ ([110, 111, 116] ++ ([32] ++ (K ++ [41]))) := by simp [bs]
      rw [e]
      exact h3
    rw [if_neg c4, if_neg c4]
    by_cases c12 : x.f0 ≤ 12
    · rw [if_pos c12, if_pos c12]
      have hl : x.f3.length = 2 := by
        have : arityI x.f0 = 2 := by unfold arityI; rw [if_neg (by omega), if_neg (by omega), if_pos (by omega)]
        omega
      have h0 := kid_lex hk (j := 0) (by omega)
      have h1 := kid_lex hk (j := 1) (by omega)
      have h2 := h1.then_ (lex_sym 41 rfl).to (c := 41) (cs := []) rfl rfl
      have h3 := (sign_lex x.f0 (by omega) c12).then_ (lex_space.then_ h2) (c := 32) rfl rfl
      have h4 := h0.then_ (lex_space.then_ h3) (c := 32) rfl rfl
      have h5 := (lex_sym 40 rfl).then_ h4
      rw [app_list, app_list, app_list, app_list, app_list, app_list]
      generalize ((fmtL x.f3).getD 0 ByteArray.empty).data.toList = K at *
      generalize ((fmtL x.f3).getD 1 ByteArray.empty).data.toList = K2 at *
      have e : (bs [40]).data.toList ++ K ++ (bs [32]).data.toList ++ (bs (signL x.f0)).data.toList ++ (bs [32]).data.toList ++ K2 ++ (bs [41]).data.toList = [40] ++ (K ++ ([32] ++ (signL x.f0 ++ ([32] ++ (K2 ++ [41]))))) := by simp [bs]
      rw [e]
      exact h5
    rw [if_neg c12, if_neg c12]
    have hks : ∀ j (h1 : j < (if x.f0 = 19 ∨ x.f0 = 20 then fmtL x.f3 ++ [numB x.f1] else fmtL x.f3).length) (h2 : j < (if x.f0 = 19 ∨ x.f0 = 20 then tkL x.f3 ++ [[nm x.f1]] else tkL x.f3).length),
        LexTo ((if x.f0 = 19 ∨ x.f0 = 20 then fmtL x.f3 ++ [numB x.f1] else fmtL x.f3)[j]).data.toList ((if x.f0 = 19 ∨ x.f0 = 20 then tkL x.f3 ++ [[nm x.f1]] else tkL x.f3)[j]) := by
      by_cases h19 : x.f0 = 19 ∨ x.f0 = 20
      · simp only [if_pos h19]
        intro j h1 h2
        rcases Nat.lt_or_ge j x.f3.length with hj | hj
        · rw [List.getElem_append_left (by rw [fmtL_len]; exact hj), List.getElem_append_left (by rw [tkL_len]; exact hj)]
          exact kids_lex x.f3 hk j _ _
        · have e1 : j = x.f3.length := by rw [List.length_append, fmtL_len] at h1; simp at h1; omega
          rw [List.getElem_append_right (by rw [fmtL_len]; exact hj), List.getElem_append_right (by rw [tkL_len]; exact hj)]
          have hb5 : boundI x.f0 = 500 := by rcases h19 with h | h <;> rw [h] <;> rfl
          have := lex_num x.f1 n3 (by omega)
          simpa using this
      · simp only [if_neg h19]
        intro j h1 h2
        exact kids_lex x.f3 hk j _ _
    have hlen : (if x.f0 = 19 ∨ x.f0 = 20 then fmtL x.f3 ++ [numB x.f1] else fmtL x.f3).length = (if x.f0 = 19 ∨ x.f0 = 20 then tkL x.f3 ++ [[nm x.f1]] else tkL x.f3).length := by
      by_cases h19 : x.f0 = 19 ∨ x.f0 = 20
      · rw [if_pos h19, if_pos h19, List.length_append, List.length_append, fmtL_len, tkL_len]; rfl
      · rw [if_neg h19, if_neg h19, fmtL_len, tkL_len]
    have h0 := lex_join _ _ hlen hks
    have h1 := (call_lex x.f0 (by omega) (by omega)).then_ ((lex_sym 40 rfl).then_ h0) (c := 40) rfl rfl
    rw [app_list, args_true, app_list]
    generalize joinB (if x.f0 = 19 ∨ x.f0 = 20 then fmtL x.f3 ++ [numB x.f1] else fmtL x.f3) = J at *
    have e : (bs (callL x.f0)).data.toList ++ (bs [40]).data.toList ++ J ++ (bs [41]).data.toList = callL x.f0 ++ ([40] ++ (J ++ [41])) := by simp [bs]
    rw [e]
    exact h1
end Go.Proofs.YtbbopomecanaoaaDoor.A
namespace Go.Proofs.YtbbopomecanaoaaDoor.A
open Go.RowKit Go.Proofs.YtbbopomecanaoaaDoorW.PrintWords Go.Proofs.YtbbopomecanaoaaDoorW.PrintLast Go.Proofs.YtbbopomecanaoaaDoorW.PrintMore Go.Proofs.YtbbopomecanaoaaDoor.XK
open Go.Proofs.YtbbopomecanaoaaDoor
set_option linter.unusedVariables false
set_option linter.unusedSimpArgs false
def At (ts : List Tk) (i : Nat) (b : List Bare) : Prop := ∃ rest, (ts.map bare).drop i = b ++ rest
section
variable {ts : List Tk} {en : Int} {i : Nat}
theorem At.head {b0 : Bare} {b : List Bare} (h : At ts i (b0 :: b)) (en : Int) : i < ts.length ∧ (pk ts en i).f0 = b0.1 ∧ (pk ts en i).f2 = b0.2.1 ∧ (pk ts en i).f3 = b0.2.2 := by
  obtain ⟨rest, h⟩ := h
  have hl : i < (ts.map bare).length := by
    rcases Nat.lt_or_ge i (ts.map bare).length with h1 | h1
    · exact h1
    · rw [List.drop_eq_nil_of_le h1] at h
      cases h
  rw [List.drop_eq_getElem_cons hl] at h
  have h0 := (List.cons.inj h).1
  rw [List.length_map] at hl
  rw [List.getElem_map] at h0
  rw [pk_get en hl]
  unfold bare at h0
  rw [← h0]
  exact ⟨hl, rfl, rfl, rfl⟩
theorem At.app {a b : List Bare} (h : At ts i (a ++ b)) : At ts i a ∧ At ts (i + a.length) b := by
  obtain ⟨rest, h⟩ := h
  refine ⟨⟨b ++ rest, by rw [h, List.append_assoc]⟩, rest, ?_⟩
  rw [← List.drop_drop, h, List.append_assoc, List.drop_left]
theorem At.tail {b0 : Bare} {b : List Bare} (h : At ts i (b0 :: b)) : At ts (i + 1) b := (At.app (a := [b0]) h).2
theorem chain_two {opd : Nat → Int → Option Res} {op : ByteArray → Int} (k : Nat) {l l1 l2 : Int} {x y : E} {i1 i2 : Nat} (h1 : opd i l = some (.ok x i1 l1)) (o1 : op (pk ts en i1).f3 ≠ 0) (h2 : opd (i1 + 1) l1 = some (.ok y i2 l2)) (o2 : op (pk ts en i2).f3 = 0) :
    chainP ts en opd op (k + 2) i l = some (.ok ⟨op (pk ts en i1).f3, 0, ⟨#[]⟩, [x, y]⟩ i2 l2) := by
  unfold chainP
  rw [h1]
  dsimp only
  rw [chainL, if_neg o1, h2]
  dsimp only
  rw [chainL, if_pos o2]
theorem Says.two_or {l l1 l2 : Int} {x y : E} {i1 i2 : Nat} (h1 : Says ts en .xor i l x i1 l1) (h2 : Says ts en .xor (i1 + 1) l1 y i2 l2) {o : Int} (o1 : (onlyOp [111, 114] 6) (pk ts en i1).f3 = o) (hne : o ≠ 0) (o2 : (onlyOp [111, 114] 6) (pk ts en i2).f3 = 0) : Says ts en .or i l ⟨o, 0, ⟨#[]⟩, [x, y]⟩ i2 l2 := by
  obtain ⟨k1, h1⟩ := h1
  obtain ⟨k2, h2⟩ := h2
  subst o1
  exact ⟨max k1 k2 + 2 + 1, chain_two (max k1 k2) (P_le h1 (by omega)) hne (P_le h2 (by omega)) o2⟩
theorem Says.two_xor {l l1 l2 : Int} {x y : E} {i1 i2 : Nat} (h1 : Says ts en .and i l x i1 l1) (h2 : Says ts en .and (i1 + 1) l1 y i2 l2) {o : Int} (o1 : (onlyOp [120, 111, 114] 7) (pk ts en i1).f3 = o) (hne : o ≠ 0) (o2 : (onlyOp [120, 111, 114] 7) (pk ts en i2).f3 = 0) : Says ts en .xor i l ⟨o, 0, ⟨#[]⟩, [x, y]⟩ i2 l2 := by
  obtain ⟨k1, h1⟩ := h1
  obtain ⟨k2, h2⟩ := h2
  subst o1
  exact ⟨max k1 k2 + 2 + 1, chain_two (max k1 k2) (P_le h1 (by omega)) hne (P_le h2 (by omega)) o2⟩
theorem Says.two_and {l l1 l2 : Int} {x y : E} {i1 i2 : Nat} (h1 : Says ts en .not i l x i1 l1) (h2 : Says ts en .not (i1 + 1) l1 y i2 l2) {o : Int} (o1 : (onlyOp [97, 110, 100] 5) (pk ts en i1).f3 = o) (hne : o ≠ 0) (o2 : (onlyOp [97, 110, 100] 5) (pk ts en i2).f3 = 0) : Says ts en .and i l ⟨o, 0, ⟨#[]⟩, [x, y]⟩ i2 l2 := by
  obtain ⟨k1, h1⟩ := h1
  obtain ⟨k2, h2⟩ := h2
  subst o1
  exact ⟨max k1 k2 + 2 + 1, chain_two (max k1 k2) (P_le h1 (by omega)) hne (P_le h2 (by omega)) o2⟩
theorem Says.two_sum {l l1 l2 : Int} {x y : E} {i1 i2 : Nat} (h1 : Says ts en .prim i l x i1 l1) (h2 : Says ts en .prim (i1 + 1) l1 y i2 l2) {o : Int} (o1 : (sumOp) (pk ts en i1).f3 = o) (hne : o ≠ 0) (o2 : (sumOp) (pk ts en i2).f3 = 0) : Says ts en .sum i l ⟨o, 0, ⟨#[]⟩, [x, y]⟩ i2 l2 := by
  obtain ⟨k1, h1⟩ := h1
  obtain ⟨k2, h2⟩ := h2
  subst o1
  exact ⟨max k1 k2 + 2 + 1, chain_two (max k1 k2) (P_le h1 (by omega)) hne (P_le h2 (by omega)) o2⟩
theorem Says.two_rel {l l1 l2 : Int} {x y : E} {i1 i2 : Nat} (h1 : Says ts en .sum i l x i1 l1) (h2 : Says ts en .sum (i1 + 1) l1 y i2 l2) {o : Int} (o1 : cmpOp (pk ts en i1).f3 = o) (hne : o ≠ 0) : Says ts en .rel i l ⟨o, 0, ⟨#[]⟩, [x, y]⟩ i2 l2 := by
  obtain ⟨k1, h1⟩ := h1
  obtain ⟨k2, h2⟩ := h2
  subst o1
  refine ⟨max k1 k2 + 1, ?_⟩
  show relP ts en (P ts en (max k1 k2) .sum) i l = _
  unfold relP
  rw [P_le h1 (by omega)]
  dsimp only
  rw [if_neg hne, P_le h2 (by omega)]
theorem Says.not1 {l l' : Int} {x : E} {i' : Nat} (h : Says ts en .not (i + 1) l x i' l') (h0 : (pk ts en i).f3.toList = [110, 111, 116]) : Says ts en .not i l ⟨4, 0, ⟨#[]⟩, [x]⟩ i' l' := by
  obtain ⟨k, hk⟩ := h
  refine ⟨k + 1, ?_⟩
  show notP ts en (P ts en k .not) (P ts en k .rel) i l = _
  unfold notP
  rw [if_pos h0, hk]
def segT : Bool → List (List Bare) → List Bare
  | _, [] => []
  | f, b :: l => (if f then [sy 44] else []) ++ (b ++ segT true l)
theorem argsT_seg : ∀ l : List (List Bare), argsT l = segT false l
  | [] => rfl
  | [b] => by simp [argsT, segT]
  | b :: b2 :: l => by
    rw [argsT, argsT_seg (b2 :: l)]
    simp [segT]
theorem segT_snoc (b : List Bare) : ∀ (l : List (List Bare)) (f : Bool), l ≠ [] → segT f (l ++ [b]) = segT f l ++ (sy 44 :: b)
  | [], f, h => absurd rfl h
  | [c], f, _ => by simp [segT]
  | c :: c2 :: l, f, _ => by
    have := segT_snoc b (c2 :: l) true (by simp)
    show (if f then [sy 44] else []) ++ (c ++ segT true ((c2 :: l) ++ [b])) = _
    rw [this]
    simp [segT]
def NotFirst (b : List Bare) : Prop := ∃ b0 r, b = b0 :: r ∧ b0.2.2.toList ≠ [110, 111, 116]
theorem args_says {t0 : Bare} (ht0 : Stop t0.2.2) : ∀ (rest : List E) (f : Bool) (j : Nat) (xs : List E) (i : Nat) (l : Int), (∀ y ∈ rest, NotFirst (tkE y) ∧ ∀ i l, At ts i (tkE y) → Says ts en .prim i l y (i + (tkE y).length) l) →
    (f = true ↔ 0 < j) → At ts i (segT f (tkL rest) ++ [t0]) → ∃ k, argsP ts en (P ts en k .or) rest.length j xs i l = some (.ok (xs ++ rest) (i + (segT f (tkL rest)).length) l)
  | [], f, j, xs, i, l, hr, hf, ha => ⟨0, by simp [argsP, tkL, segT]⟩
  | y :: ys, f, j, xs, i, l, hr, hf, ha => by
    obtain ⟨⟨b0, r, hb0, hnf⟩, hy⟩ := hr y (by simp)
    rw [tkL, segT, List.append_assoc, List.append_assoc] at ha
    obtain ⟨a1, a2⟩ := ha.app
    obtain ⟨a3, a4⟩ := a2.app
    have hcom : ¬ (0 < j ∧ (pk ts en i).f3.toList ≠ [44]) := by
      rintro ⟨h1, h2⟩
      rw [if_pos (hf.mpr h1)] at a1
      obtain ⟨-, -, -, e⟩ := a1.head en
      rw [e] at h2
      exact h2 (by rw [bs_list])
    have hi0 : (if 0 < j then i + 1 else i) = i + (if f = true then [sy 44] else ([] : List Bare)).length := by
      by_cases h1 : 0 < j
      · rw [if_pos h1, if_pos (hf.mpr h1)]; rfl
      · rw [if_neg h1, if_neg (fun e => h1 (hf.mp e))]; rfl
    have hsay := hy _ l a3
    generalize hI : i + (if f = true then [sy 44] else ([] : List Bare)).length = i0 at *
    have hstop : Stop (pk ts en (i0 + (tkE y).length)).f3 := by
      cases ys with
      | nil =>
        rw [tkL, segT, List.nil_append] at a4
        obtain ⟨-, -, -, e⟩ := a4.head en
        rw [e]; exact ht0
      | cons z zs =>
        rw [tkL, segT, if_pos rfl] at a4
        obtain ⟨-, -, -, e⟩ := At.head (b0 := sy 44) a4 en
        rw [e]
        exact Or.inr (Or.inr (by rw [bs_list]))
    have hnot : (pk ts en i0).f3.toList ≠ [110, 111, 116] := by
      rw [hb0] at a3
      obtain ⟨-, -, -, e⟩ := a3.head en
      rw [e]; exact hnf
    obtain ⟨k1, h1⟩ := hsay.up hnot hstop
    obtain ⟨k2, h2⟩ := args_says ht0 ys true (j + 1) (xs ++ [y]) (i0 + (tkE y).length) l (fun z hz => hr z (by simp [hz])) ⟨fun _ => Nat.succ_pos _, fun _ => rfl⟩ a4
    refine ⟨max k1 k2, ?_⟩
    rw [List.length_cons, argsP, if_neg hcom, hi0, P_le h1 (Nat.le_max_left _ _)]
    dsimp only
    rw [args_mono (fun i l r h => P_le h (Nat.le_max_right k1 k2)) _ _ _ _ _ _ h2]
    simp only [tkL, segT, List.append_assoc, List.length_append, List.singleton_append, Option.some.injEq, ResL.ok.injEq, true_and, and_true]
    rw [← hI]
    omega
theorem empty_of {s : ByteArray} (h : s.toList = []) : s = ⟨#[]⟩ := by
  rw [ByteArray.toList_eq] at h
  cases s with
  | mk d =>
    have e : d = #[] := Array.toList_eq_nil_iff.mp h
    rw [e]
theorem node_shape {x : E} (hb : nodeB x = true) (h1 : x.f0 ≠ 1) (h2 : x.f0 ≠ 2) (h3 : x.f0 ≠ 3) (h19 : ¬ (x.f0 = 19 ∨ x.f0 = 20)) : x = ⟨x.f0, 0, ⟨#[]⟩, x.f3⟩ := by
  obtain ⟨n1, n2, n3, n4, n5⟩ := node_facts hb
  have hbd : boundI x.f0 = 0 := by unfold boundI; rw [if_neg h1, if_neg h2, if_neg h19]
  have e1 : x.f1 = 0 := by omega
  unfold namedB at n5
  rw [if_neg h3, decide_eq_true_eq] at n5
  have e2 := empty_of n5
  cases x
  simp only at e1 e2
  subst e1 e2
  rfl
theorem call_fn {op : Int} (h : 13 ≤ op) (h2 : op ≤ 22) : fnOp (bs (callL op)) = op ∧ (bs (callL op)).toList ≠ [116, 114, 117, 101] ∧ (bs (callL op)).toList ≠ [102, 97, 108, 115, 101] ∧ (bs (callL op)).toList ≠ [40] ∧ (bs (callL op)).toList ≠ [110, 111, 116] := by
  unfold fnOp
  rw [bs_list]
  rcases (by omega : op = 13 ∨ op = 14 ∨ op = 15 ∨ op = 16 ∨ op = 17 ∨ op = 18 ∨ op = 19 ∨ op = 20 ∨ op = 21 ∨ op = 22) with rfl | rfl | rfl | rfl | rfl | rfl | rfl | rfl | rfl | rfl <;> decide
theorem res_facts {s : ByteArray} (h : resB s = false) : s.toList ≠ [116, 114, 117, 101] ∧ s.toList ≠ [102, 97, 108, 115, 101] ∧ s.toList ≠ [110, 111, 116] ∧ fnOp s = 0 := by
  unfold resB equation_reserved.f at h
  unfold fnOp
  generalize s.toList = l at *
  refine ⟨?_, ?_, ?_, ?_⟩
  · rintro rfl; revert h; decide
  · rintro rfl; revert h; decide
  · rintro rfl; revert h; decide
  · rw [if_neg (by rintro rfl; revert h; decide), if_neg (by rintro rfl; revert h; decide), if_neg (by rintro rfl; revert h; decide), if_neg (by rintro rfl; revert h; decide), if_neg (by rintro rfl; revert h; decide),
      if_neg (by rintro rfl; revert h; decide), if_neg (by rintro rfl; revert h; decide), if_neg (by rintro rfl; revert h; decide), if_neg (by rintro rfl; revert h; decide), if_neg (by rintro rfl; revert h; decide)]
theorem tk_first (x : E) (hb : bE x = true) : NotFirst (tkE x) := by
  rw [bE_eq, Bool.and_eq_true] at hb
  obtain ⟨n1, n2, n3, n4, n5⟩ := node_facts hb.1
  have hr := op_range n2
  rw [tkE_eq]
  unfold tkN
  by_cases c1 : x.f0 = 1
  · rw [if_pos c1]
    split
    · exact ⟨_, _, rfl, by rw [bs_list]; decide⟩
    · exact ⟨_, _, rfl, by rw [bs_list]; decide⟩
  rw [if_neg c1]
  by_cases c2 : x.f0 = 2
  · rw [if_pos c2]
    refine ⟨_, _, rfl, ?_⟩
    obtain ⟨c, w, e, hc, hw⟩ := dec_head 4 x.f1.toNat (by rw [c2] at n4; have : x.f1 ≤ 32767 := n4; omega)
    have hd := dec_digits 4 x.f1.toNat (by rw [c2] at n4; have : x.f1 ≤ 32767 := n4; omega)
    show (numB x.f1).toList ≠ _
    unfold numB
    rw [bs_list, e]
    intro h
    rw [e] at hd
    have := hd c (by simp)
    rw [(List.cons.inj h).1] at this
    exact absurd this (by decide)
  rw [if_neg c2]
  by_cases c3 : x.f0 = 3
  · rw [if_pos c3]
    unfold namedB at n5
    rw [if_pos c3] at n5
    obtain ⟨c, w, e, h1, h2, h3, h4⟩ := name_parts n5
    exact ⟨_, _, rfl, (res_facts h4).2.2.1⟩
  rw [if_neg c3]
  by_cases c4 : x.f0 = 4
  · rw [if_pos c4]; exact ⟨_, _, rfl, by rw [bs_list]; decide⟩
  rw [if_neg c4]
  by_cases c12 : x.f0 ≤ 12
  · rw [if_pos c12]; exact ⟨_, _, rfl, by rw [bs_list]; decide⟩
  rw [if_neg c12]
  exact ⟨_, _, rfl, (call_fn (by omega) (by omega)).2.2.2.2⟩
theorem prim_says : ∀ (m : Nat) (x : E), szE x ≤ m → bE x = true → ∀ (i : Nat) (l : Int), At ts i (tkE x) → Says ts en .prim i l x (i + (tkE x).length) l
  | 0, x, h, hb => by
    have := szE_eq x
    omega
  | m + 1, x, h, hb => by
    intro i l ha
    have hz := szE_eq x
    have hbx := hb
    rw [bE_eq, Bool.and_eq_true] at hb
    obtain ⟨n1, n2, n3, n4, n5⟩ := node_facts hb.1
    have hk : ∀ y ∈ x.f3, NotFirst (tkE y) ∧ ∀ i l, At ts i (tkE y) → Says ts en .prim i l y (i + (tkE y).length) l := fun y hy =>
      ⟨tk_first y (bE_mem hb.2 hy), prim_says m y (by have := szE_mem hy; omega) (bE_mem hb.2 hy)⟩
    have hr := op_range n2
    rw [tkE_eq] at ha ⊢
    unfold tkN at ha ⊢
    by_cases c1 : x.f0 = 1
    · rw [if_pos c1] at ha ⊢
      have hl : x.f3 = [] := by rw [c1] at n2; have h1 : (x.f3.length : Int) = 0 := n2; exact List.length_eq_zero_iff.mp (by omega)
      have h4 : x.f1 ≤ 1 := by rw [c1] at n4; exact n4
      have e2 : x.f2 = ⟨#[]⟩ := by
        unfold namedB at n5
        rw [if_neg (by omega), decide_eq_true_eq] at n5
        exact empty_of n5
      by_cases hn : x.f1 = 1
      · rw [if_pos hn] at ha ⊢
        obtain ⟨-, p0, -, p3⟩ := ha.head en
        refine ⟨1, ?_⟩
        show primP ts en (P ts en 0 .or) i l = _
        unfold primP
        rw [p0, p3, if_neg (by decide), if_pos (by rw [bs_list])]
        have : x = ⟨1, 1, ⟨#[]⟩, []⟩ := by cases x; simp only at c1 hn e2 hl; subst c1 hn e2 hl; rfl
        rw [this]
        rfl
      · rw [if_neg hn] at ha ⊢
        obtain ⟨-, p0, -, p3⟩ := ha.head en
        refine ⟨1, ?_⟩
        show primP ts en (P ts en 0 .or) i l = _
        unfold primP
        rw [p0, p3, if_neg (by decide), if_neg (by rw [bs_list]; decide), if_pos (by rw [bs_list])]
        have hn0 : x.f1 = 0 := by omega
        have : x = ⟨1, 0, ⟨#[]⟩, []⟩ := by cases x; simp only at c1 hn0 e2 hl; subst c1 hn0 e2 hl; rfl
        rw [this]
        rfl
    rw [if_neg c1] at ha ⊢
    by_cases c2 : x.f0 = 2
    · rw [if_pos c2] at ha ⊢
      have hl : x.f3 = [] := by rw [c2] at n2; have h1 : (x.f3.length : Int) = 0 := n2; exact List.length_eq_zero_iff.mp (by omega)
      have e2 : x.f2 = ⟨#[]⟩ := by
        unfold namedB at n5
        rw [if_neg (by omega), decide_eq_true_eq] at n5
        exact empty_of n5
      obtain ⟨-, p0, p2, -⟩ := ha.head en
      refine ⟨1, ?_⟩
      show primP ts en (P ts en 0 .or) i l = _
      unfold primP
      rw [p0, p2, if_pos rfl]
      have : x = ⟨2, x.f1, ⟨#[]⟩, []⟩ := by cases x; simp only at c2 e2 hl; subst c2 e2 hl; rfl
      rw [← this]
      rfl
    rw [if_neg c2] at ha ⊢
    by_cases c3 : x.f0 = 3
    · rw [if_pos c3] at ha ⊢
      have hl : x.f3 = [] := by rw [c3] at n2; have h1 : (x.f3.length : Int) = 0 := n2; exact List.length_eq_zero_iff.mp (by omega)
      have e1 : x.f1 = 0 := by rw [c3] at n4; have h4 : x.f1 ≤ 0 := n4; omega
      unfold namedB at n5
      rw [if_pos c3] at n5
      obtain ⟨c, w, e, q1, q2, q3, q4⟩ := name_parts n5
      obtain ⟨r1, r2, r3, r4⟩ := res_facts q4
      obtain ⟨-, p0, -, p3⟩ := ha.head en
      have hp : x.f2.toList ≠ [40] := by
        rw [e, bs_list]
        intro h
        rw [(List.cons.inj h).1] at q1
        exact absurd q1 (by decide)
      refine ⟨1, ?_⟩
      show primP ts en (P ts en 0 .or) i l = _
      unfold primP
      rw [p0, p3]
      show (if (1 : Int) = 2 then _ else _) = _
      rw [if_neg (by decide), if_neg r1, if_neg r2, if_neg hp, if_neg (fun h => h r4), if_neg (by rintro (h | h); exact h rfl; rw [q4] at h; cases h)]
      have : x = ⟨3, 0, x.f2, []⟩ := by cases x; simp only at c3 e1 hl; subst c3 e1 hl; rfl
      rw [← this]
      rfl
    rw [if_neg c3] at ha ⊢
    by_cases c4 : x.f0 = 4
    · rw [if_pos c4] at ha ⊢
      have hl : x.f3.length = 1 := by rw [c4] at n2; have h1 : (x.f3.length : Int) = 1 := n2; omega
      have hsh := node_shape hb.1 c1 c2 c3 (by omega)
      obtain ⟨y, hy⟩ : ∃ y, x.f3 = [y] := List.length_eq_one_iff.mp hl
      rw [hy] at ha hk ⊢
      have e0 : (tkL [y]).getD 0 [] = tkE y := by simp [tkL]
      rw [e0] at ha ⊢
      obtain ⟨⟨b0, r, hb0, hnf⟩, hpy⟩ := hk y (by simp)
      have a1 := ha.tail
      have a2 := a1.tail
      obtain ⟨a3, a4⟩ := a2.app
      obtain ⟨-, p0, -, p3⟩ := ha.head en
      obtain ⟨-, -, -, p4⟩ := a1.head en
      obtain ⟨-, -, -, p5⟩ := a4.head en
      have hst : Stop (pk ts en (i + 1 + 1 + (tkE y).length)).f3 := by rw [p5]; exact Or.inr (Or.inl (by rw [bs_list]))
      obtain ⟨o1, o2, o3, o4, o5⟩ := hst.ops
      have hnot : (pk ts en (i + 1 + 1)).f3.toList ≠ [110, 111, 116] := by
        rw [hb0] at a3
        obtain ⟨-, -, -, e⟩ := a3.head en
        rw [e]; exact hnf
      have s1 := (((hpy _ l a3).sum o1).rel o2).not hnot
      have s2 := (((s1.not1 (by rw [p4, bs_list])).and o3).xor o4).or o5
      have s3 := s2.paren p0 (by rw [p3, bs_list]) (by rw [p5, bs_list])
      have hx : x = ⟨4, 0, ⟨#[]⟩, [y]⟩ := by rw [hsh, c4, hy]
      rw [hx]
      have el : i + 1 + 1 + (tkE y).length + 1 = i + (sy 40 :: wd [110, 111, 116] :: (tkE y ++ [sy 41])).length := by simp; omega
      rw [el] at s3
      exact s3
    rw [if_neg c4] at ha ⊢
    by_cases c12 : x.f0 ≤ 12
    · rw [if_pos c12] at ha ⊢
      have hl : x.f3.length = 2 := by
        have : arityI x.f0 = 2 := by unfold arityI; rw [if_neg (by omega), if_neg (by omega), if_pos (by omega)]
        omega
      have hsh := node_shape hb.1 c1 c2 c3 (by omega)
      obtain ⟨y, z, hy⟩ : ∃ y z, x.f3 = [y, z] := by
        match x.f3, hl with
        | [y, z], _ => exact ⟨y, z, rfl⟩
      rw [hy] at ha hk ⊢
      have e0 : (tkL [y, z]).getD 0 [] = tkE y := by simp [tkL]
      have e1 : (tkL [y, z]).getD 1 [] = tkE z := by simp [tkL]
      rw [e0, e1] at ha ⊢
      obtain ⟨⟨b0, r, hb0, hnf⟩, hpy⟩ := hk y (by simp)
      obtain ⟨⟨b1, r1, hb1, hnf1⟩, hpz⟩ := hk z (by simp)
      have a1 := ha.tail
      obtain ⟨a2, a3⟩ := a1.app
      have a4 := a3.tail
      obtain ⟨a5, a6⟩ := a4.app
      obtain ⟨-, p0, -, p3⟩ := ha.head en
      obtain ⟨-, -, -, p4⟩ := a3.head en
      obtain ⟨-, -, -, p5⟩ := a6.head en
      have hn1 : (pk ts en (i + 1)).f3.toList ≠ [110, 111, 116] := by
        rw [hb0] at a2
        obtain ⟨-, -, -, e⟩ := a2.head en
        rw [e]; exact hnf
      have hn2 : (pk ts en (i + 1 + (tkE y).length + 1)).f3.toList ≠ [110, 111, 116] := by
        rw [hb1] at a5
        obtain ⟨-, -, -, e⟩ := a5.head en
        rw [e]; exact hnf1
      have hst : Stop (pk ts en (i + 1 + (tkE y).length + 1 + (tkE z).length)).f3 := by rw [p5]; exact Or.inr (Or.inl (by rw [bs_list]))
      obtain ⟨o1, o2, o3, o4, o5⟩ := hst.ops
      have sy_ := hpy _ l a2
      have sz_ := hpz _ l a5
      dsimp only at p4
      have hx : x = ⟨x.f0, 0, ⟨#[]⟩, [y, z]⟩ := by rw [← hy]; exact hsh
      have el : i + 1 + (tkE y).length + 1 + (tkE z).length + 1 = i + (sy 40 :: (tkE y ++ (((if x.f0 ≤ 7 then 1 else 3), 0, bs (signL x.f0)) :: (tkE z ++ [sy 41])))).length := by simp; omega
      rw [← el]
      clear el
      have hfin : Says ts en .or (i + 1) l ⟨x.f0, 0, ⟨#[]⟩, [y, z]⟩ (i + 1 + (tkE y).length + 1 + (tkE z).length) l := by
        have hop : x.f0 = 5 ∨ x.f0 = 6 ∨ x.f0 = 7 ∨ x.f0 = 8 ∨ x.f0 = 9 ∨ x.f0 = 10 ∨ x.f0 = 11 ∨ x.f0 = 12 := by omega
        have tx : (pk ts en (i + 1 + (tkE y).length)).f3.toList = signL x.f0 := by rw [p4, bs_list]
        rcases hop with h | h | h | h | h | h | h | h <;> rw [h] at tx ⊢
        · have w1 : sumOp (pk ts en (i + 1 + (tkE y).length)).f3 = 0 := by unfold sumOp onlyOp; rw [tx]; rfl
          have w2 : cmpOp (pk ts en (i + 1 + (tkE y).length)).f3 = 0 := by unfold cmpOp; rw [tx]; rfl
          exact (((((sy_.sum w1).rel w2).not hn1).two_and (((sz_.sum o1).rel o2).not hn2) (o := 5) (by unfold onlyOp; rw [tx]; rfl) (by decide) o3).xor o4).or o5
        · have w1 : sumOp (pk ts en (i + 1 + (tkE y).length)).f3 = 0 := by unfold sumOp onlyOp; rw [tx]; rfl
          have w2 : cmpOp (pk ts en (i + 1 + (tkE y).length)).f3 = 0 := by unfold cmpOp; rw [tx]; rfl
          have w3 : onlyOp [97, 110, 100] 5 (pk ts en (i + 1 + (tkE y).length)).f3 = 0 := by unfold onlyOp; rw [tx]; rfl
          have w4 : onlyOp [120, 111, 114] 7 (pk ts en (i + 1 + (tkE y).length)).f3 = 0 := by unfold onlyOp; rw [tx]; rfl
          exact (((((sy_.sum w1).rel w2).not hn1).and w3).xor w4).two_or (((((sz_.sum o1).rel o2).not hn2).and o3).xor o4) (o := 6) (by unfold onlyOp; rw [tx]; rfl) (by decide) o5
        · have w1 : sumOp (pk ts en (i + 1 + (tkE y).length)).f3 = 0 := by unfold sumOp onlyOp; rw [tx]; rfl
          have w2 : cmpOp (pk ts en (i + 1 + (tkE y).length)).f3 = 0 := by unfold cmpOp; rw [tx]; rfl
          have w3 : onlyOp [97, 110, 100] 5 (pk ts en (i + 1 + (tkE y).length)).f3 = 0 := by unfold onlyOp; rw [tx]; rfl
          exact (((((sy_.sum w1).rel w2).not hn1).and w3).two_xor ((((sz_.sum o1).rel o2).not hn2).and o3) (o := 7) (by unfold onlyOp; rw [tx]; rfl) (by decide) o4).or o5
        · have w1 : sumOp (pk ts en (i + 1 + (tkE y).length)).f3 = 0 := by unfold sumOp onlyOp; rw [tx]; rfl
          exact (((((sy_.sum w1).two_rel (sz_.sum o1) (o := 8) (by unfold cmpOp; rw [tx]; rfl) (by decide)).not hn1).and o3).xor o4).or o5
        · have w1 : sumOp (pk ts en (i + 1 + (tkE y).length)).f3 = 0 := by unfold sumOp onlyOp; rw [tx]; rfl
          exact (((((sy_.sum w1).two_rel (sz_.sum o1) (o := 9) (by unfold cmpOp; rw [tx]; rfl) (by decide)).not hn1).and o3).xor o4).or o5
        · have w1 : sumOp (pk ts en (i + 1 + (tkE y).length)).f3 = 0 := by unfold sumOp onlyOp; rw [tx]; rfl
          exact (((((sy_.sum w1).two_rel (sz_.sum o1) (o := 10) (by unfold cmpOp; rw [tx]; rfl) (by decide)).not hn1).and o3).xor o4).or o5
        · exact (((((sy_.two_sum sz_ (o := 11) (by unfold sumOp onlyOp; rw [tx]; rfl) (by decide) o1).rel o2).not hn1).and o3).xor o4).or o5
        · exact (((((sy_.two_sum sz_ (o := 12) (by unfold sumOp onlyOp; rw [tx]; rfl) (by decide) o1).rel o2).not hn1).and o3).xor o4).or o5
      have s3 := hfin.paren p0 (by rw [p3, bs_list]) (by rw [p5, bs_list])
      rw [← hx] at s3
      exact s3
    rw [if_neg c12] at ha ⊢
    obtain ⟨f1, f2, f3, f4, f5⟩ := call_fn (op := x.f0) (by omega) (by omega)
    have harn : arityN x.f0 = x.f3.length := by
      have h1 : x.f0 = 13 ∨ x.f0 = 14 ∨ x.f0 = 15 ∨ x.f0 = 16 ∨ x.f0 = 17 ∨ x.f0 = 18 ∨ x.f0 = 19 ∨ x.f0 = 20 ∨ x.f0 = 21 ∨ x.f0 = 22 := by omega
      rcases h1 with h | h | h | h | h | h | h | h | h | h <;> (rw [h] at n2 ⊢; revert n2; unfold arityI arityN; simp; omega)
    have hne : x.f3 ≠ [] := by
      intro e
      rw [e] at harn
      have h1 : x.f0 = 13 ∨ x.f0 = 14 ∨ x.f0 = 15 ∨ x.f0 = 16 ∨ x.f0 = 17 ∨ x.f0 = 18 ∨ x.f0 = 19 ∨ x.f0 = 20 ∨ x.f0 = 21 ∨ x.f0 = 22 := by omega
      rcases h1 with h | h | h | h | h | h | h | h | h | h <;> (rw [h] at harn; revert harn; unfold arityN; simp)
    rw [argsT_seg] at ha ⊢
    obtain ⟨-, p0, -, p3⟩ := ha.head en
    have a1 := ha.tail
    obtain ⟨-, -, -, p4⟩ := a1.head en
    have a2 := a1.tail
    have hcall : ∀ (t0 : Bare) (ht : Stop t0.2.2) (r : Res), At ts (i + 1 + 1) (segT false (tkL x.f3) ++ [t0]) → stepsP ts en x.f0 x.f3 (i + 1 + 1 + (segT false (tkL x.f3)).length) l = r → ∃ k, P ts en k .prim i l = some r := by
      intro t0 ht r hat hst
      obtain ⟨k, hk1⟩ := args_says (en := en) ht x.f3 false 0 [] (i + 1 + 1) l hk (by simp) hat
      refine ⟨k + 1, ?_⟩
      show primP ts en (P ts en k .or) i l = _
      unfold primP
      rw [p0, p3]
      show (if (1 : Int) = 2 then _ else _) = _
      rw [if_neg (by decide), if_neg f2, if_neg f3, if_neg f4, f1, if_pos (by omega)]
      unfold callP
      rw [p4, if_neg (by rw [bs_list]; simp), harn, hk1]
      dsimp only
      rw [List.nil_append, hst]
    by_cases h19 : x.f0 = 19 ∨ x.f0 = 20
    · rw [if_pos h19] at ha a2 ⊢
      have hkn : tkL x.f3 ≠ [] := by
        intro e
        have := tkL_len x.f3
        rw [e] at this
        exact hne (List.length_eq_zero_iff.mp this.symm)
      rw [segT_snoc _ _ _ hkn] at a2 ⊢
      have hb5 : boundI x.f0 = 500 := by rcases h19 with h | h <;> rw [h] <;> rfl
      have a3 : At ts (i + 1 + 1) ((segT false (tkL x.f3) ++ [sy 44]) ++ (nm x.f1 :: [sy 41])) := by
        rw [List.append_assoc] at a2 ⊢
        exact a2
      obtain ⟨a4, a5⟩ := a3.app
      obtain ⟨-, a6⟩ := a4.app
      obtain ⟨-, -, -, q3⟩ := a6.head en
      obtain ⟨-, q0, q2, -⟩ := a5.head en
      obtain ⟨-, -, -, q5⟩ := a5.tail.head en
      have e1 : i + 1 + 1 + (segT false (tkL x.f3) ++ [sy 44]).length = i + 1 + 1 + (segT false (tkL x.f3)).length + 1 := by simp; omega
      rw [e1] at q0 q2 q5
      refine hcall (sy 44) (Or.inr (Or.inr (by rw [bs_list]))) _ a4 ?_
      unfold stepsP
      rw [if_pos h19, q3, if_neg (by rw [bs_list]; simp), q0, if_neg (by simp), show i + 1 + 1 + (segT false (tkL x.f3)).length + 2 = i + 1 + 1 + (segT false (tkL x.f3)).length + 1 + 1 by omega, q5, if_neg (by rw [bs_list]; simp), q2]
      have hlong : longN ts en (i + 1 + 1 + (segT false (tkL x.f3)).length + 1) l = l := by
        unfold longN
        rw [q2, if_neg (by simp only; omega)]
      rw [hlong]
      have e2 : x.f2 = ⟨#[]⟩ := by
        unfold namedB at n5
        rw [if_neg (by omega), decide_eq_true_eq] at n5
        exact empty_of n5
      have hx : (⟨x.f0, x.f1, ⟨#[]⟩, x.f3⟩ : E) = x := by rw [← e2]; cases x; rfl
      rw [hx]
      congr 1
      simp
      omega
    · rw [if_neg h19] at ha a2 ⊢
      have hsh := node_shape hb.1 c1 c2 c3 h19
      obtain ⟨a4, a5⟩ := a2.app
      obtain ⟨-, -, -, q3⟩ := a5.head en
      refine hcall (sy 41) (Or.inr (Or.inl (by rw [bs_list]))) _ a2 ?_
      unfold stepsP
      rw [if_neg h19, q3, if_neg (by rw [bs_list]; simp)]
      have hx : (⟨x.f0, 0, ⟨#[]⟩, x.f3⟩ : E) = x := hsh.symm
      rw [hx]
      congr 1
      simp
      omega
end
theorem parse_format (x : E) (hv : validB x = true) (hs : (fmtE x).size ≤ 120) : parseP (fmtE x) = (x, 0, 0) := by
  obtain ⟨hz, -, hb⟩ := (validB_is x).mp hv
  obtain ⟨ts, hts, hx⟩ := lex_fmt _ x (Nat.le_refl _) hb [] [] 0 (fun c cs e => by cases e)
  rw [List.append_nil, List.nil_append, Nat.zero_add] at hx
  have hat : At ts 0 (tkE x) := ⟨[], by rw [List.drop_zero, hts, List.append_nil]⟩
  have s1 := prim_says (en := ((fmtE x).size : Int)) _ x (Nat.le_refl _) hb 0 (-1) hat
  have hl : ts.length = (tkE x).length := by rw [← hts, List.length_map]
  rw [Nat.zero_add, ← hl] at s1
  obtain ⟨b0, r, hb0, hnf⟩ := tk_first x hb
  have hnot : (pk ts ((fmtE x).size : Int) 0).f3.toList ≠ [110, 111, 116] := by
    rw [hb0] at hat
    obtain ⟨-, -, -, e⟩ := hat.head ((fmtE x).size : Int)
    rw [e]; exact hnf
  have s2 := s1.up hnot (Or.inl (pk_end ts _).1)
  exact parse_of hs hx s2 (by decide) hv
end Go.Proofs.YtbbopomecanaoaaDoor.A
namespace Go.Proofs.YtbbopomecanaoaaDoor.A
open Go.RowKit Go.Proofs.YtbbopomecanaoaaDoorW.PrintWords Go.Proofs.YtbbopomecanaoaaDoorW.PrintLast Go.Proofs.YtbbopomecanaoaaDoorW.PrintMore Go.Proofs.YtbbopomecanaoaaDoor.XK
open Go.Proofs.YtbbopomecanaoaaDoor
attribute [local go_sem] max2_int min2_int max_two min_two max_three min_three max_four min_four fld1 fld3
set_option linter.unusedVariables false
set_option linter.unusedSimpArgs false
structure Bx (x : E) (A : Option Addr) (c xb : Nat) (w : World) : Prop where
  bx : w.heap[xb]? = some (.cells #[.int .i64 x.f0, .int .i64 x.f1, .string x.f2, .slice A x.f3.length c] 24 (0, 0))
  le : x.f3.length ≤ c
  rd : (k24).C w A x.f3.length x.f3
theorem Bx.below {x : E} {A : Option Addr} {c xb : Nat} {w w1 : World} (h : Bx x A c xb w) (hb : Below w.heap.size w w1) : Bx x A c xb w1 := ⟨blk_below h.bx hb, h.le, Kd.C_below h.rd hb⟩
theorem Bx.new {x : E} {A : Option Addr} {c : Nat} {w2 : World} {ok : Nat → Prop} {B : Nat} (hx : RX w2 B ok (.slice A x.f3.length c) x.f3) : Bx x A c w2.heap.size (w2.alloc (.cells (cE x (.slice A x.f3.length c)) 24)) :=
  ⟨heap_alloc_new w2 _, (Kd.R_reads' hx).2.1, Kd.C_below (Kd.R_reads' hx).2.2 (below_alloc (Below.refl w2.heap.size w2) _)⟩
theorem Bx.c0 {x : E} {A : Option Addr} {c xb : Nat} {w : World} (h : Bx x A c xb w) : w.cell? ⟨xb, 0, none⟩ = some (.int .i64 x.f0) := blk_cell h.bx 0
theorem Bx.c1 {x : E} {A : Option Addr} {c xb : Nat} {w : World} (h : Bx x A c xb w) : w.cell? ⟨xb, 1, none⟩ = some (.int .i64 x.f1) := blk_cell h.bx 1
theorem Bx.c2 {x : E} {A : Option Addr} {c xb : Nat} {w : World} (h : Bx x A c xb w) : w.cell? ⟨xb, 2, none⟩ = some (.string x.f2) := blk_cell h.bx 2
theorem Bx.c3 {x : E} {A : Option Addr} {c xb : Nat} {w : World} (h : Bx x A c xb w) : w.cell? ⟨xb, 3, none⟩ = some (.slice A x.f3.length c) := blk_cell h.bx 3
set_option maxRecDepth 100000 in
set_option maxHeartbeats 4000000 in
theorem EquationCanonical_walk (s : ByteArray) (W : World) (hw : WF W) (w0 : s.size ≤ 140737488351232) :
    Calls Tryd.prog 5 #[.string s] W fun e w' => e = .returned (.bool true) ∧ Below W.heap.size W w' := by
  have HK := Aside0.mk (fun w1 h => known_calls w1 (h : WF w1))
  have HW := Aside0.mk hw
  by_cases hs : 300 < s.size
  · have g1 : decide ((s.size : Int) > 300) = true := by simp; omega
    have g2 : decide ((300 : Int) < (s.size : Int)) = true := by simp; omega
    clear hs w0 hw
    go_enter Tryd.func5, Tryd.ntmps5
    go_wp2_with fail
    with_reducible refine (HK.out _ HW.out).mono ?_
    rintro e w2 ⟨rfl, HB⟩
    have HB := Aside0.mk HB
    go_wp2_with fail
    go_ret
    exact ⟨rfl, HB.out⟩
  have g1 : decide ((s.size : Int) > 300) = false := by simp; omega
  have g2 : decide ((300 : Int) < (s.size : Int)) = false := by simp; omega
  have HPP := Aside0.mk (fun x a h => parse_parts (s := s) (x := x) (a := a) h)
  have HP1 := Aside0.mk (parse_calls atoiWF s W hw)
  generalize hx1 : parseP s = p1 at *
  obtain ⟨x, a, e1⟩ := p1
  clear hs w0 hw hx1
  go_enter Tryd.func5, Tryd.ntmps5
  go_wp2_with fail
  with_reducible refine HP1.out.mono ?_
  clear HP1
  rintro e w2 ⟨v3, rfl, hx, HB⟩
  obtain ⟨A, c, rfl⟩ := Kd.R_slice hx
  dsimp only at hx ⊢
  have BX := Aside0.mk (Bx.new hx)
  have HA := Aside0.mk (below_alloc (Below.refl w2.heap.size w2) (.cells (cE x (.slice A x.f3.length c)) 24))
  replace HW := Aside0.mk (WF_stay (WF_stay HW.out HB) HA.out)
  have HB := Aside0.mk (below_step HB HA.out)
  clear HA hx
  by_cases he : e1 = 0
  case neg =>
    have b1 : (e1 != 0) = true := by simpa using he
    have b2 : (e1 == 0) = false := by simpa using he
    clear he HPP
    go_wp2_with fail
    with_reducible refine (HK.out _ HW.out).mono ?_
    rintro e w4 ⟨rfl, HD⟩
    replace HB := Aside0.mk (below_step HB.out HD)
    clear HD HK
    go_wp2_with fail
    go_ret
    exact ⟨rfl, HB.out⟩
  subst he
  obtain ⟨-, ts, -, hv, -⟩ := HPP.out x a rfl
  obtain ⟨hz, -, hbe⟩ := (validB_is x).mp hv
  obtain ⟨k, hk⟩ := same_f _ x (Nat.le_refl _) hbe
  have hfx : FormatB x = fmtE x := by unfold FormatB; rw [if_pos hv]
  have HPF := Aside0.mk (fun h => parse_format x hv h)
  have HS := Aside0.mk hk
  have HV := Aside0.mk (fun w1 h => valid_calls x A c w1 h)
  rw [hv] at HV
  have HF := Aside0.mk (fun w1 h h' => Format_calls x A c w1 h h')
  rw [hfx] at HF
  have HF2 := Aside0.mk (fun A2 c2 w1 h h' => Format_calls x A2 c2 w1 h h')
  rw [hfx] at HF2
  clear HPP hv hz hbe hk hfx
  generalize fmtE x = f at *
  have x0 := BX.out.c0
  have x1 := BX.out.c1
  have x2 := BX.out.c2
  have x3 := BX.out.c3
  go_wp2_with fail
  with_reducible refine (HF.out _ BX.out.rd HW.out).mono ?_
  rintro e w3 ⟨rfl, HD⟩
  replace HB := Aside0.mk (below_step HB.out HD)
  replace BX := Aside0.mk (BX.out.below HD)
  replace HW := Aside0.mk (WF_stay HW.out HD)
  clear HD x0 x1 x2 x3
  by_cases hf : 120 < f.size
  · have g3 : decide ((f.size : Int) > 120) = true := by simp; omega
    have g4 : decide ((120 : Int) < (f.size : Int)) = true := by simp; omega
    have g5 : (120 < f.size) = True := eq_true hf
    clear hf HPF
    go_wp2_with fail
    with_reducible refine (HK.out _ HW.out).mono ?_
    rintro e w4 ⟨rfl, HD⟩
    replace HB := Aside0.mk (below_step HB.out HD)
    replace BX := Aside0.mk (BX.out.below HD)
    clear HD HK
    have x0 := BX.out.c0
    have x1 := BX.out.c1
    have x2 := BX.out.c2
    have x3 := BX.out.c3
    go_wp2_with fail
    with_reducible refine (HV.out _ BX.out.rd).mono ?_
    rintro e w5 ⟨rfl, HD⟩
    replace HB := Aside0.mk (below_step HB.out HD)
    clear HD HV x0 x1 x2 x3
    go_wp2_with fail
    go_ret
    exact ⟨rfl, HB.out⟩
  have g3 : decide ((f.size : Int) > 120) = false := by simp; omega
  have g4 : decide ((120 : Int) < (f.size : Int)) = false := by simp; omega
  have g5 : (120 < f.size) = False := eq_false hf
  have hp := HPF.out (by omega)
  have HP2 := Aside0.mk (parse_calls atoiWF f w3 HW.out)
  rw [hp] at HP2
  clear hf HPF hp
  go_wp2_with fail
  with_reducible refine HP2.out.mono ?_
  clear HP2
  rintro e w4 ⟨v4, rfl, hx, HD⟩
  obtain ⟨A2, c2, rfl⟩ := Kd.R_slice hx
  dsimp only at hx ⊢
  have BY := Aside0.mk (Bx.new hx)
  have HA := Aside0.mk (below_alloc (Below.refl w4.heap.size w4) (.cells (cE x (.slice A2 x.f3.length c2)) 24))
  replace HW := Aside0.mk (WF_stay (WF_stay HW.out HD) HA.out)
  replace HB := Aside0.mk (below_step (below_step HB.out HD) HA.out)
  replace BX := Aside0.mk ((BX.out.below HD).below HA.out)
  clear HA hx HD
  go_wp2_with fail
  with_reducible refine (HK.out _ HW.out).mono ?_
  rintro e w5 ⟨rfl, HD⟩
  replace HB := Aside0.mk (below_step HB.out HD)
  replace BX := Aside0.mk (BX.out.below HD)
  replace BY := Aside0.mk (BY.out.below HD)
  replace HW := Aside0.mk (WF_stay HW.out HD)
  clear HD HK
  have x0 := BX.out.c0
  have x1 := BX.out.c1
  have x2 := BX.out.c2
  have x3 := BX.out.c3
  go_wp2_with fail
  with_reducible refine (HV.out _ BX.out.rd).mono ?_
  rintro e w6 ⟨rfl, HD⟩
  replace HB := Aside0.mk (below_step HB.out HD)
  replace BX := Aside0.mk (BX.out.below HD)
  replace BY := Aside0.mk (BY.out.below HD)
  replace HW := Aside0.mk (WF_stay HW.out HD)
  clear HD HV x0 x1 x2 x3
  have x0 := BX.out.c0
  have x1 := BX.out.c1
  have x2 := BX.out.c2
  have x3 := BX.out.c3
  have y0 := BY.out.c0
  have y1 := BY.out.c1
  have y2 := BY.out.c2
  have y3 := BY.out.c3
  have HSC := Aside0.mk (substationref26_Same.calls k _ _ _ _ _ _ _ _ _ _ _ _ true w6 BX.out.rd BX.out.le BY.out.rd BY.out.le HS.out)
  go_wp2_with fail
  with_reducible refine HSC.out.mono ?_
  rintro e w7 ⟨rfl, HD⟩
  replace HB := Aside0.mk (below_step HB.out HD)
  replace BY := Aside0.mk (BY.out.below HD)
  replace HW := Aside0.mk (WF_stay HW.out HD)
  clear HD HSC x0 x1 x2 x3 y0 y1 y2 y3
  have y0 := BY.out.c0
  have y1 := BY.out.c1
  have y2 := BY.out.c2
  have y3 := BY.out.c3
  go_wp2_with fail
  with_reducible refine (HF2.out A2 c2 _ BY.out.rd HW.out).mono ?_
  rintro e w8 ⟨rfl, HD⟩
  replace HB := Aside0.mk (below_step HB.out HD)
  clear HD y0 y1 y2 y3
  go_wp2_with fail
  go_ret
  exact ⟨by first | rfl | simp, HB.out⟩
end Go.Proofs.YtbbopomecanaoaaDoor.A
namespace Go.Proofs.YtbbopomecanaoaaDoor.A
open Go.ChangeShapes Go.WideShapes Go.ChangeAt Go.RowKit Go.Deep Go.Proofs.YtbbopomecanaoaaDoorW.PrintWords Go.Proofs.YtbbopomecanaoaaDoor.XK
set_option linter.unusedVariables false
section
variable {H : Type} {enc : TypeId × Value → H} {W : World} {spare : Nat → Bool} {held : Bool}
theorem cells24 : Tryd.prog.cellsOf 24 = 4 := by kernel_rfl
theorem cells3 : Tryd.prog.cellsOf 3 = 1 := by kernel_rfl
theorem cells9 : Tryd.prog.cellsOf 9 = 1 := by kernel_rfl
theorem cells22 : Tryd.prog.cellsOf 22 = 1 := by kernel_rfl
set_option maxRecDepth 100000 in
theorem trod_expr : ∀ (m fuel : Nat), fuel ≤ m → ∀ (cs : List Value) (y : DataW H × List MemPlace), DataW.trod enc Tryd.prog W 0 spare held fuel 24 cs = some y → ∃ x : E, (k24).K W x cs
  | 0, fuel, hm, cs, y, h => by
    obtain ⟨xs, n, hfu, -⟩ := DataW.trod_struct Tryd.underlying24 h
    omega
  | m + 1, fuel, hm, cs, y, h => by
    obtain ⟨xs, n, hfu, hx, hl, hlen, hf⟩ := DataW.trod_struct Tryd.underlying24 h
    rw [cells24] at hl
    have h0 : DataW.trod enc Tryd.prog W 0 spare held n 3 ((cs.drop 0).take (Tryd.prog.cellsOf 3)) = xs[0]? := hf 0 _ rfl
    have h1 : DataW.trod enc Tryd.prog W 0 spare held n 3 ((cs.drop 1).take (Tryd.prog.cellsOf 3)) = xs[1]? := hf 1 _ rfl
    have h2 : DataW.trod enc Tryd.prog W 0 spare held n 9 ((cs.drop 2).take (Tryd.prog.cellsOf 9)) = xs[2]? := hf 2 _ rfl
    have h3 : DataW.trod enc Tryd.prog W 0 spare held n 22 ((cs.drop 3).take (Tryd.prog.cellsOf 22)) = xs[3]? := hf 3 _ rfl
    rw [cells3] at h0 h1
    rw [cells9] at h2
    rw [cells22] at h3
    match cs, hl with
    | [c0, c1, c2, c3], _ =>
      match xs, hlen with
      | [y0, y1, y2, y3], _ =>
        obtain ⟨a, i0, -, -⟩ := DataW.trod_int Tryd.underlying3 (show DataW.trod _ _ _ _ _ _ n 3 [c0] = some y0 from h0)
        obtain ⟨b, i1, -, -⟩ := DataW.trod_int Tryd.underlying3 (show DataW.trod _ _ _ _ _ _ n 3 [c1] = some y1 from h1)
        obtain ⟨s, i2, -, -⟩ := DataW.trod_string Tryd.underlying9 (show DataW.trod _ _ _ _ _ _ n 9 [c2] = some y2 from h2)
        have h3 : DataW.trod enc Tryd.prog W 0 spare held n 22 [c3] = some y3 := h3
        simp only [List.cons.injEq, and_true] at i0 i1 i2
        subst i0 i1 i2
        rcases DataW.trod_slice Tryd.underlying22 h3 with ⟨e3, -⟩ | ⟨ad, len, cap, elems, rest, n2, hn2, e3, -, -, hlc, hcm, hel, hall, -, -⟩
        · replace e3 := (List.cons.inj e3).1
          subst e3
          exact ⟨⟨a, b, s, []⟩, k24_mk W ⟨a, b, s, []⟩ (Nat.le_refl 0) (Kd.C_nil k24 W)⟩
        · replace e3 := (List.cons.inj e3).1
          subst e3
          rw [cells24] at hall
          have hx : ∀ i, i < len → ∃ x : E, ∃ cs', W.cells? 0 (ad.add (i * 4)) 4 = some cs' ∧ (k24).K W x cs' := by
            intro i hi
            have h4 := hall i hi
            rw [List.getElem?_eq_getElem (by omega : i < elems.length)] at h4
            obtain ⟨cs', hc, ht⟩ := Option.bind_eq_some_iff.mp h4
            obtain ⟨x, hK⟩ := trod_expr m n2 (by omega) cs' _ ht
            exact ⟨x, cs', hc, hK⟩
          have hL : ∃ l : List E, l.length = len ∧ ∀ (j : Nat) (p : E), l[j]? = some p → ∃ cs', W.cells? 0 (ad.add (j * 4)) 4 = some cs' ∧ (k24).K W p cs' := by
            refine ⟨(List.range len).map fun i => if h : i < len then Classical.choose (hx i h) else z24, by simp, fun j p hp => ?_⟩
            rw [List.getElem?_map] at hp
            rcases Nat.lt_or_ge j len with hj | hj
            · rw [List.getElem?_range hj, Option.map_some, dif_pos hj] at hp
              have e := Option.some.inj hp
              rw [← e]
              exact Classical.choose_spec (hx j hj)
            · rw [List.getElem?_eq_none (by simpa using hj)] at hp
              cases hp
          obtain ⟨l, hll, hlr⟩ := hL
          have hmx : maxLen ≤ 9223372036854775807 := by decide
          have hl9 : l.length ≤ 9223372036854775807 := by omega
          have hC : (k24).C W (some ad) l.length l := ⟨rfl, hl9, fun _ => ⟨ad, rfl, fun j p hp => by
            obtain ⟨cs', hc, hK⟩ := hlr j p hp
            obtain ⟨_, hcl, hat⟩ := World.cells?_some hc
            refine ⟨cs', hcl, hK, fun i u hu => ?_⟩
            have hi : i < 4 := by
              rcases Nat.lt_or_ge i cs'.length with h5 | h5
              · omega
              · rw [List.getElem?_eq_none h5] at hu; cases hu
            have := hat i hi
            rw [hu] at this
            show W.cell? (ad.add (j * 4 + i)) = some u
            rw [← Go.Deep.add_add]
            exact this⟩⟩
          have hK := k24_mk W ⟨a, b, s, l⟩ (A3 := some ad) (c3 := cap) (by show l.length ≤ cap; omega) hC
          refine ⟨⟨a, b, s, l⟩, ?_⟩
          rw [← hll]
          exact hK
set_option maxRecDepth 100000 in
theorem expr_arg {b0 : Nat} {v : Value} {d : DataW H} {p : List MemPlace} {r : Reach} (hv : Value.okWide Tryd.prog W r b0 24 v) (h : DataW.Trod enc Tryd.prog W 0 spare held 24 v d p) :
    ∃ (x : E) (A : Option Addr) (c : Nat), v = .agg #[.int .i64 x.f0, .int .i64 x.f1, .string x.f2, .slice A x.f3.length c] ∧ x.f3.length ≤ c ∧ (k24).C W A x.f3.length x.f3 := by
  obtain ⟨cs, rfl, hsz⟩ := okWide_struct Tryd.underlying24 hv
  obtain ⟨fuel, hf⟩ := h
  have hf : DataW.trod enc Tryd.prog W 0 spare held fuel 24 cs.toList = some (d, p) := hf
  obtain ⟨x, hK⟩ := trod_expr fuel fuel (Nat.le_refl _) _ _ hf
  obtain ⟨A3, c3, e, hl, hC⟩ := k24_open hK
  refine ⟨x, A3, c3, ?_, hl, hC⟩
  obtain ⟨cl⟩ := cs
  have e : cl = _ := e
  rw [e]
end
end Go.Proofs.YtbbopomecanaoaaDoor.A
namespace Go.Proofs.YtbbopomecanaoaaDoor.A
open Go.RowKit Go.Proofs.YtbbopomecanaoaaDoorW.PrintWords Go.Proofs.YtbbopomecanaoaaDoorW.PrintLast Go.Proofs.YtbbopomecanaoaaDoorW.PrintMore Go.Proofs.YtbbopomecanaoaaDoor.XK
open Go.Proofs.YtbbopomecanaoaaDoor
attribute [local go_sem] max2_int min2_int max_two min_two max_three min_three max_four min_four fld1 fld3
set_option linter.unusedVariables false
set_option linter.unusedSimpArgs false
set_option maxRecDepth 100000 in
set_option maxHeartbeats 4000000 in
theorem EquationRoundTrip_walk (x : E) (A : Option Addr) (c : Nat) (W : World) (hw : WF W) (hle : x.f3.length ≤ c) (hC : (k24).C W A x.f3.length x.f3) :
    Calls Tryd.prog 4 #[.agg (cE x (.slice A x.f3.length c))] W fun e w' => e = .returned (.bool true) ∧ Below W.heap.size W w' := by
  have HK := Aside0.mk (fun w1 h => known_calls w1 (h : WF w1))
  have HA := below_alloc (Below.refl W.heap.size W) (.cells (cE x (.slice A x.f3.length c)) 24)
  have HW := Aside0.mk (WF_stay hw HA)
  have BX : Aside0 (Bx x A c W.heap.size (W.alloc (.cells (cE x (.slice A x.f3.length c)) 24))) := ⟨heap_alloc_new W _, hle, Kd.C_below hC HA⟩
  have HB := Aside0.mk HA
  clear HA hw hle hC
  obtain ⟨k, hk⟩ := small_f 30 x 1 (by decide) (by decide)
  have HSM := Aside0.mk (substationlaw26_small.calls k _ _ _ _ _ _ 1 _ _ BX.out.rd BX.out.le hk)
  clear hk
  have x0 := BX.out.c0
  have x1 := BX.out.c1
  have x2 := BX.out.c2
  have x3 := BX.out.c3
  cases hsm : smF 30 x with
  | false =>
    rw [hsm] at HSM
    clear hsm
    go_enter Tryd.func4, Tryd.ntmps4
    go_wp2_with fail
    with_reducible refine HSM.out.mono ?_
    rintro e w2 ⟨rfl, HD⟩
    replace HB := Aside0.mk (below_step HB.out HD)
    replace HW := Aside0.mk (WF_stay HW.out HD)
    clear HD HSM x0 x1 x2 x3
    go_wp2_with fail
    with_reducible refine (HK.out _ HW.out).mono ?_
    rintro e w3 ⟨rfl, HD⟩
    replace HB := Aside0.mk (below_step HB.out HD)
    clear HD HK
    go_wp2_with fail
    go_ret
    exact ⟨rfl, HB.out⟩
  | true =>
    rw [hsm] at HSM
    clear hsm
    have HV := Aside0.mk (fun w1 h => valid_calls x A c w1 h)
    cases hv : validB x with
    | false =>
      rw [hv] at HV
      clear hv
      go_enter Tryd.func4, Tryd.ntmps4
      go_wp2_with fail
      with_reducible refine HSM.out.mono ?_
      rintro e w2 ⟨rfl, HD⟩
      replace HB := Aside0.mk (below_step HB.out HD)
      replace HW := Aside0.mk (WF_stay HW.out HD)
      replace BX := Aside0.mk (BX.out.below HD)
      clear HD HSM x0 x1 x2 x3
      have x0 := BX.out.c0
      have x1 := BX.out.c1
      have x2 := BX.out.c2
      have x3 := BX.out.c3
      go_wp2_with fail
      with_reducible refine (HV.out _ BX.out.rd).mono ?_
      rintro e w3 ⟨rfl, HD⟩
      replace HB := Aside0.mk (below_step HB.out HD)
      replace HW := Aside0.mk (WF_stay HW.out HD)
      clear HD HV x0 x1 x2 x3
      go_wp2_with fail
      with_reducible refine (HK.out _ HW.out).mono ?_
      rintro e w4 ⟨rfl, HD⟩
      replace HB := Aside0.mk (below_step HB.out HD)
      clear HD HK
      go_wp2_with fail
      go_ret
      exact ⟨rfl, HB.out⟩
    | true =>
      rw [hv] at HV
      have hfx : FormatB x = fmtE x := by unfold FormatB; rw [if_pos hv]
      obtain ⟨hz, -, hbe⟩ := (validB_is x).mp hv
      obtain ⟨k2, hk⟩ := same_f _ x (Nat.le_refl _) hbe
      have HPF := Aside0.mk (fun h => parse_format x hv h)
      have HS := Aside0.mk hk
      have HF := Aside0.mk (fun w1 h h' => Format_calls x A c w1 h h')
      rw [hfx] at HF
      clear hv hz hbe hk hfx
      generalize fmtE x = f at *
      go_enter Tryd.func4, Tryd.ntmps4
      go_wp2_with fail
      with_reducible refine HSM.out.mono ?_
      rintro e w2 ⟨rfl, HD⟩
      replace HB := Aside0.mk (below_step HB.out HD)
      replace HW := Aside0.mk (WF_stay HW.out HD)
      replace BX := Aside0.mk (BX.out.below HD)
      clear HD HSM x0 x1 x2 x3
      have x0 := BX.out.c0
      have x1 := BX.out.c1
      have x2 := BX.out.c2
      have x3 := BX.out.c3
      go_wp2_with fail
      with_reducible refine (HV.out _ BX.out.rd).mono ?_
      rintro e w3 ⟨rfl, HD⟩
      replace HB := Aside0.mk (below_step HB.out HD)
      replace HW := Aside0.mk (WF_stay HW.out HD)
      replace BX := Aside0.mk (BX.out.below HD)
      clear HD HV x0 x1 x2 x3
      have x0 := BX.out.c0
      have x1 := BX.out.c1
      have x2 := BX.out.c2
      have x3 := BX.out.c3
      go_wp2_with fail
      with_reducible refine (HF.out _ BX.out.rd HW.out).mono ?_
      rintro e w4 ⟨rfl, HD⟩
      replace HB := Aside0.mk (below_step HB.out HD)
      replace HW := Aside0.mk (WF_stay HW.out HD)
      replace BX := Aside0.mk (BX.out.below HD)
      clear HD x0 x1 x2 x3
      have x0 := BX.out.c0
      have x1 := BX.out.c1
      have x2 := BX.out.c2
      have x3 := BX.out.c3
      by_cases hf : 120 < f.size
      · have g3 : decide ((f.size : Int) > 120) = true := by simp; omega
        have g4 : decide ((120 : Int) < (f.size : Int)) = true := by simp; omega
        have g5 : (120 < f.size) = True := eq_true hf
        clear hf HPF
        go_wp2_with fail
        with_reducible refine (HK.out _ HW.out).mono ?_
        rintro e w5 ⟨rfl, HD⟩
        replace HB := Aside0.mk (below_step HB.out HD)
        clear HD HK x0 x1 x2 x3
        go_wp2_with fail
        go_ret
        exact ⟨rfl, HB.out⟩
      have g3 : decide ((f.size : Int) > 120) = false := by simp; omega
      have g4 : decide ((120 : Int) < (f.size : Int)) = false := by simp; omega
      have g5 : (120 < f.size) = False := eq_false hf
      have hp := HPF.out (by omega)
      have HP2 := Aside0.mk (fun w1 h => parse_calls atoiWF f w1 (h : WF w1))
      rw [hp] at HP2
      clear hf HPF hp
      go_wp2_with fail
      with_reducible refine (HF.out _ BX.out.rd HW.out).mono ?_
      rintro e w5 ⟨rfl, HD⟩
      replace HB := Aside0.mk (below_step HB.out HD)
      replace HW := Aside0.mk (WF_stay HW.out HD)
      replace BX := Aside0.mk (BX.out.below HD)
      clear HD HF x0 x1 x2 x3
      go_wp2_with fail
      with_reducible refine (HP2.out _ HW.out).mono ?_
      clear HP2
      rintro e w6 ⟨v4, rfl, hx, HD⟩
      obtain ⟨A2, c2, rfl⟩ := Kd.R_slice hx
      dsimp only at hx ⊢
      have BY := Aside0.mk (Bx.new hx)
      have HA := Aside0.mk (below_alloc (Below.refl w6.heap.size w6) (.cells (cE x (.slice A2 x.f3.length c2)) 24))
      replace HW := Aside0.mk (WF_stay (WF_stay HW.out HD) HA.out)
      replace HB := Aside0.mk (below_step (below_step HB.out HD) HA.out)
      replace BX := Aside0.mk ((BX.out.below HD).below HA.out)
      clear HA hx HD
      go_wp2_with fail
      with_reducible refine (HK.out _ HW.out).mono ?_
      rintro e w7 ⟨rfl, HD⟩
      replace HB := Aside0.mk (below_step HB.out HD)
      replace BX := Aside0.mk (BX.out.below HD)
      replace BY := Aside0.mk (BY.out.below HD)
      clear HD HK
      have x0 := BX.out.c0
      have x1 := BX.out.c1
      have x2 := BX.out.c2
      have x3 := BX.out.c3
      have y0 := BY.out.c0
      have y1 := BY.out.c1
      have y2 := BY.out.c2
      have y3 := BY.out.c3
      have HSC := Aside0.mk (substationref26_Same.calls k2 _ _ _ _ _ _ _ _ _ _ _ _ true w7 BX.out.rd BX.out.le BY.out.rd BY.out.le HS.out)
      go_wp2_with fail
      with_reducible refine HSC.out.mono ?_
      rintro e w8 ⟨rfl, HD⟩
      replace HB := Aside0.mk (below_step HB.out HD)
      clear HD HSC x0 x1 x2 x3 y0 y1 y2 y3
      go_wp2_with fail
      go_ret
      exact ⟨rfl, HB.out⟩
end Go.Proofs.YtbbopomecanaoaaDoor.A
namespace Go.Proofs.YtbbopomecanaoaaDoor.A
open Go.ChangeShapes Go.WideShapes Go.ChangeAt Go.RowKit
set_option linter.unusedVariables false
abbrev laid1 : List (String × DataW Unit) := [("math/bits.deBruijn32tab", Rows.laid_math_bits_deBruijn32tab), ("math/bits.deBruijn64tab", Rows.laid_math_bits_deBruijn64tab), ("internal/strconv.uint64pow10", Rows.laid_internal_strconv_uint64pow10), ("strconv.ErrRange", Rows.laid_strconv_ErrRange), ("strconv.ErrSyntax", Rows.laid_strconv_ErrSyntax)]
theorem door_met (os : Os) (args : Array Value) : laidMetH Tryd.prog laid1 ((World.doorLaid Tryd.prog 400 os).forCall (fun _ _ => 0) ⟨#[], args, []⟩).memory :=
  laidMetH_of_parts3 (fuel := 8) (laidMet_of_run' 8 (by kernel_rfl) (by kernel_rfl)) (by kernel_rfl) (by kernel_rfl)
theorem gPow : Tryd.prog.globalNamed "internal/strconv.uint64pow10" = some 1 := by kernel_rfl
theorem tPow : (Tryd.prog.globals[1]?).map (·.type) = some 142 := by kernel_rfl
theorem gErr : Tryd.prog.globalNamed "strconv.ErrRange" = some 3 := by kernel_rfl
theorem tErr : (Tryd.prog.globals[3]?).map (·.type) = some 128 := by kernel_rfl
theorem star : "*" ++ "errors.errorString" = "*errors.errorString" := by decide
theorem rowErr (u : TypeId) (h : Tryd.prog.typeName? 3 u = some "*errors.errorString") : u = 164 :=
  typeName_ptr_named (nm := "errors.errorString") (by rw [star]; kernel_rfl) (by kernel_rfl) (by decide) u (by rw [star]; exact h)
theorem powData : (Rows.laid_internal_strconv_uint64pow10 : DataW Unit) = Lib.tabData .u64 Lib.pow10Tab := by kernel_rfl
theorem of_laid {W : World} (h : laidMetH Tryd.prog laid1 W) : WF W := by
  rw [MakeChecks.laidMetH_plain _ _ _ (by kernel_rfl)] at h
  have h2 := h.tail.tail
  refine ⟨?_, ?_⟩
  · obtain ⟨a0, s0, hv0, -, -, -⟩ := laid_sentinel h2.tail gErr tErr Tryd.underlying128 rowErr Tryd.underlying164 Tryd.underlying166 rfl rfl Tryd.underlying9 (by kernel_rfl) (by kernel_rfl)
    exact ⟨_, by have h0 := World.var?_cell gErr hv0 0; simpa using h0, Or.inr ⟨_, _, rfl⟩⟩
  · rw [powData] at h2
    exact Lib.tabIs_of_head gPow tPow Tryd.underlying142 Tryd.underlying135 (by kernel_rfl) (by kernel_rfl) h2
end Go.Proofs.YtbbopomecanaoaaDoor.A
