import Derived.Test.YtbbopomecanaoaaDoorBF11
import Derived.Laws.IdiomStrings
import Derived.ProofKit
import Derived.Deep.Slices
import Derived.Deep.Fields
import Derived.OpenShut
import Derived.Test.YtbbopomecanaoaaDoorRows
import Derived.LaidMore
import Derived.LaidOnce
import Derived.Stop.Joined
import Derived.Stop.LaidErr
import Derived.Lib.LaidTab
/- The texts that the law's proof stands on, merged and pruned by program. No condition. -/
namespace Go.Proofs.YtbbopomecanaoaaDoor.A
open Go.RowKit Go.Proofs.YtbbopomecanaoaaDoorW.PrintWords Go.Proofs.YtbbopomecanaoaaDoorW.PrintLast Go.Proofs.YtbbopomecanaoaaDoorW.PrintMore Go.Proofs.YtbbopomecanaoaaDoor.XK
open Go.Proofs.YtbbopomecanaoaaDoor
attribute [local go_sem] max2_int min2_int max_two min_two max_three min_three max_four min_four fld1 fld3
set_option linter.unusedVariables false
set_option linter.unusedSimpArgs false
def WI (w : World) : Prop := Lib.TabIs Tryd.prog w "internal/strconv.uint64pow10" .u64 Lib.pow10Tab
theorem WI_stay {w w' : World} (h : WI w) (hb : Below w.heap.size w w') : WI w' := by
  unfold WI Lib.TabIs World.var? at *
  cases hg : Tryd.prog.globalNamed "internal/strconv.uint64pow10" with
  | none => simp [hg] at h
  | some g =>
    simp only [hg, Option.bind_some] at h ⊢
    have hlt : g < w.heap.size := by
      rcases Nat.lt_or_ge g w.heap.size with h' | h'
      · exact h'
      · rw [Array.getElem?_eq_none h'] at h; simp at h
    rw [hb.block g hlt]
    exact h
theorem below_growN (w : World) (k : Nat) (os : Array Obj) : Below w.heap.size w (Sort.grow (w.drewN k) os) := by
  have h := pw_below_drewN (Below.refl w.heap.size w) k
  exact ⟨h.os, h.tape, h.output, by
    show _ ≤ ((w.drewN k).heap ++ os).size
    rw [Array.size_append]
    have := h.size
    omega, fun j hj => by
    show ((w.drewN k).heap ++ os)[j]? = _
    rw [Array.getElem?_append_left (by have := h.size; omega)]
    exact h.block j hj⟩
theorem itoa_calls (n : Int) (h0 : 0 ≤ n) (h1 : n ≤ 32767) (w : World) (hw : WI w) : Calls Tryd.prog 54 #[.int .i64 n] w fun e w' => e = .returned (.string (numB n)) ∧ Below w.heap.size w w' := by
  refine (Tryd.strconv_Itoa n (by omega) (by omega) w hw).mono ?_
  rintro e w' ⟨rfl, k, os, rfl⟩
  refine ⟨?_, below_growN w k os⟩
  have e1 : Lib.itoa n = Lib.decDigits n.toNat := by
    unfold Lib.itoa
    rw [if_neg (by omega)]
  rw [e1]
  rfl
theorem fmtL_get : ∀ (l : List E) (i : Nat), i < l.length → (fmtL l).getD i ByteArray.empty = fmtE (rd_T24 l (i : Int))
  | [], i, h => absurd h (by simp)
  | y :: ys, 0, h => by rw [fmtL]; rfl
  | y :: ys, i + 1, h => by
    rw [fmtL]
    show (fmtL ys).getD i ByteArray.empty = _
    rw [fmtL_get ys i (by simpa using h)]
    rfl
theorem getD_mem {l : List E} {i : Nat} (h : i < l.length) : rd_T24 l (i : Int) ∈ l := by
  unfold rd_T24
  simp [h]
structure Fx (x : E) (A : Option Addr) (c : Nat) (w : World) (xb : Nat) (wr : World) : Prop where
  bx : wr.heap[xb]? = some (.cells #[.int .i64 x.f0, .int .i64 x.f1, .string x.f2, .slice A x.f3.length c] 24 (0, 0))
  ge : w.heap.size ≤ xb
  bl : Below w.heap.size w wr
  wi : WI wr
section
variable {x : E} {A : Option Addr} {c : Nat} {w wr w1 : World} {xb : Nat}
theorem Fx.below (h : Fx x A c w xb wr) (hb : Below wr.heap.size wr w1) : Fx x A c w xb w1 := ⟨blk_below h.bx hb, h.ge, below_step h.bl hb, WI_stay h.wi hb⟩
theorem Fx.kids (h : Fx x A c w xb wr) (hC : (k24).C w A x.f3.length x.f3) : (k24).C wr A x.f3.length x.f3 := Kd.C_below hC h.bl
end
theorem argsB_nil (b : Bool) (a : ByteArray) : argsB b a [] = a := by cases b <;> rfl
theorem argsB_snoc (z : ByteArray) : ∀ (l : List ByteArray) (b : Bool) (a : ByteArray), l ≠ [] → argsB b a (l ++ [z]) = (argsB b a l ++ bs [44, 32]) ++ z
  | [], b, a, h => absurd rfl h
  | [y], true, a, _ => rfl
  | [y], false, a, _ => rfl
  | y :: y2 :: ys, true, a, _ => by
    show argsB false (a ++ y) ((y2 :: ys) ++ [z]) = _
    rw [argsB_snoc z (y2 :: ys) false _ (by simp)]
    rfl
  | y :: y2 :: ys, false, a, _ => by
    show argsB false ((a ++ bs [44, 32]) ++ y) ((y2 :: ys) ++ [z]) = _
    rw [argsB_snoc z (y2 :: ys) false _ (by simp)]
    rfl
set_option maxRecDepth 100000 in
set_option maxHeartbeats 4000000 in
theorem format_calls : ∀ (m : Nat) (x : E) (A : Option Addr) (c : Nat) (w : World), szE x ≤ m → m ≤ 1000 → bE x = true → (k24).C w A x.f3.length x.f3 → WI w →
    Calls Tryd.prog 33 #[.agg (cE x (.slice A x.f3.length c))] w fun e w' => e = .returned (.string (fmtE x)) ∧ Below w.heap.size w w' := by
  intro m
  induction m with
  | zero =>
    intro x A c w h
    have := szE_eq x
    omega
  | succ m ih =>
    intro x A c w hz hm hb hC hw
    have hA := below_alloc (Below.refl w.heap.size w) (.cells (cE x (.slice A x.f3.length c)) 24)
    have HF : Aside0 (Fx x A c w w.heap.size (w.alloc (.cells (cE x (.slice A x.f3.length c)) 24))) := ⟨heap_alloc_new w _, Nat.le_refl _, hA, WI_stay hw hA⟩
    have hbx := hb
    rw [bE_eq, Bool.and_eq_true] at hb
    obtain ⟨n1, n2, n3, n4, -⟩ := node_facts hb.1
    have hsz := szE_eq x
    have hks := fmtL_size x.f3 hb.2
    have HK : Aside0 (∀ i : Nat, i < x.f3.length → ∀ (A' : Option Addr) (c' : Nat) (w' : World), (k24).C w' A' (rd_T24 x.f3 i).f3.length (rd_T24 x.f3 i).f3 → WI w' →
        Calls Tryd.prog 33 #[.agg (cE (rd_T24 x.f3 i) (.slice A' (rd_T24 x.f3 i).f3.length c'))] w' fun e w'' => e = .returned (.string (fmtE (rd_T24 x.f3 i))) ∧ Below w'.heap.size w' w'') :=
      ⟨fun i hi A' c' w' h1 h2 => by
        have hmem := getD_mem hi
        have := szE_mem hmem
        exact ih _ A' c' w' (by omega) (by omega) (bE_mem hb.2 hmem) h1 h2⟩
    have HN := Aside0.mk (And.intro n2 (And.intro n3 n4))
    have HS := Aside0.mk (show sumS (fmtL x.f3) ≤ 31000 by omega)
    have HC := Aside0.mk hC
    have HL := Aside0.mk (fmtL_len x.f3)
    have HA := Aside0.mk (arity3 x.f0)
    have HE := Aside0.mk (fmtE_eq x)
    rw [HE.out]
    clear hz hm hb hC hw hA hbx n1 n2 n3 n4 hsz hks ih HE
    unfold fmtN
    have x0 : (w.alloc (.cells (cE x (.slice A x.f3.length c)) 24)).cell? ⟨w.heap.size, 0, none⟩ = some (.int .i64 x.f0) := blk_cell HF.out.bx 0
    have x1 : (w.alloc (.cells (cE x (.slice A x.f3.length c)) 24)).cell? ⟨w.heap.size, 1, none⟩ = some (.int .i64 x.f1) := blk_cell HF.out.bx 1
    have x2 : (w.alloc (.cells (cE x (.slice A x.f3.length c)) 24)).cell? ⟨w.heap.size, 2, none⟩ = some (.string x.f2) := blk_cell HF.out.bx 2
    have x3 : (w.alloc (.cells (cE x (.slice A x.f3.length c)) 24)).cell? ⟨w.heap.size, 3, none⟩ = some (.slice A x.f3.length c) := blk_cell HF.out.bx 3
    by_cases c1 : x.f0 = 1
    · rw [if_pos c1]
      have b1 : (x.f0 == 1) = true := by simpa using c1
      have HB := Aside0.mk (strconv_FormatBool_53.calls (x.f1 == 1) (if x.f1 = 1 then bs [116, 114, 117, 101] else bs [102, 97, 108, 115, 101]) (w.alloc (.cells (cE x (.slice A x.f3.length c)) 24)) (by
        unfold strconv_FormatBool_53.f strconv_FormatBool_75.f
        by_cases h : x.f1 = 1 <;> simp [h]))
      clear c1
      generalize (if x.f1 = 1 then bs [116, 114, 117, 101] else bs [102, 97, 108, 115, 101]) = r at *
      go_enter Tryd.func33, Tryd.ntmps33
      go_wp2_with fail
      with_reducible refine HB.out.mono ?_
      rintro e w2 ⟨rfl, HD⟩
      replace HF := Aside0.mk (HF.out.below HD.below)
      clear HD HB x0 x1 x2 x3
      go_wp2_with fail
      go_ret
      exact ⟨rfl, HF.out.bl⟩
    rw [if_neg c1]
    have b1 : (x.f0 == 1) = false := by simpa using c1
    by_cases c2 : x.f0 = 2
    · rw [if_pos c2]
      have b2 : (x.f0 == 2) = true := by simpa using c2
      have HB := Aside0.mk (itoa_calls x.f1 HN.out.2.1 (by have := HN.out.2.2; rw [c2] at this; exact this) _ HF.out.wi)
      clear c1 c2
      go_enter Tryd.func33, Tryd.ntmps33
      go_wp2_with fail
      with_reducible refine HB.out.mono ?_
      rintro e w2 ⟨rfl, HD⟩
      replace HF := Aside0.mk (HF.out.below HD)
      clear HD HB x0 x1 x2 x3
      go_wp2_with fail
      go_ret
      exact ⟨rfl, HF.out.bl⟩
    rw [if_neg c2]
    have b2 : (x.f0 == 2) = false := by simpa using c2
    by_cases c3 : x.f0 = 3
    · rw [if_pos c3]
      have b3 : (x.f0 == 3) = true := by simpa using c3
      clear c1 c2 c3
      go_enter Tryd.func33, Tryd.ntmps33
      go_wp2_with fail
      go_ret
      exact ⟨rfl, HF.out.bl⟩
    rw [if_neg c3]
    have b3 : (x.f0 == 3) = false := by simpa using c3
    by_cases c4 : x.f0 = 4
    · rw [if_pos c4]
      have b4 : (x.f0 == 4) = true := by simpa using c4
      have hl : 0 < x.f3.length := by have := HN.out.1; rw [c4] at this; have h1 : (x.f3.length : Int) = 1 := this; omega
      obtain ⟨ad, A3, c3', eA, z0, z1, z2, z3, hl3, hC3⟩ := at_T24 (HF.out.kids HC.out) ((0 : Nat) : Int) (by omega) (by omega)
      have HY := Aside0.mk (HK.out 0 hl A3 c3' _ hC3 HF.out.wi)
      have HG := fmtL_get x.f3 0 hl
      have hsum := getS_le (fmtL x.f3)
      have hs1 := HS.out
      rw [HG] at hsum ⊢
      generalize rd_T24 x.f3 ((0 : Nat) : Int) = y at *
      generalize fmtE y = r at *
      have s1 : (9223372036854775807 < 5 + r.size) = False := eq_false (by omega)
      have s2 : (9223372036854775807 < 5 + r.size + 1) = False := eq_false (by omega)
      have p0 : (0 < (x.f3.length : Int)) = True := eq_true (by omega)
      have p1 : (0 < x.f3.length) = True := eq_true hl
      subst eA
      rw [show (((0 : Nat) : Int)).toNat = 0 from rfl] at z0 z1 z2 z3
      rw [Nat.zero_mul, Addr.add_zero'] at z0 z1 z2 z3
      clear c1 c2 c3 c4 HG hsum hs1 hl hl3 hC3
      go_enter Tryd.func33, Tryd.ntmps33
      go_wp2_with fail
      with_reducible refine HY.out.mono ?_
      rintro e w2 ⟨rfl, HD⟩
      replace HF := Aside0.mk (HF.out.below HD)
      clear HD HY x0 x1 x2 x3 z0 z1 z2 z3
      go_wp2_with fail
      go_ret
      exact ⟨rfl, HF.out.bl⟩
    rw [if_neg c4]
    have b4 : (x.f0 == 4) = false := by simpa using c4
    by_cases c12 : x.f0 ≤ 12
    · rw [if_pos c12]
      have hop : 5 ≤ x.f0 := by
        have h1 := HN.out.1
        cases Int.lt_or_le x.f0 5 with
        | inr h => exact h
        | inl h =>
          have : arityI x.f0 = -1 := by unfold arityI; rw [if_neg (by omega), if_neg (by omega), if_neg (by omega), if_neg (by omega)]
          omega
      have hl : x.f3.length = 2 := by
        have h1 := HN.out.1
        have : arityI x.f0 = 2 := by unfold arityI; rw [if_neg (by omega), if_neg (by omega), if_pos (by omega)]
        omega
      obtain ⟨ad, A3, c3', eA, z0, z1, z2, z3, hl3, hC3⟩ := at_T24 (HF.out.kids HC.out) ((0 : Nat) : Int) (by omega) (by omega)
      obtain ⟨ad2, A4, c4', eA2, u0, u1, u2, u3, hl4, hC4⟩ := at_T24 (HF.out.kids HC.out) ((1 : Nat) : Int) (by omega) (by omega)
      rw [eA] at eA2
      obtain rfl := Option.some.inj eA2
      have HCY := Aside0.mk hC3
      have HCZ := Aside0.mk hC4
      have HY := Aside0.mk (fun w' => HK.out 0 (by omega) A3 c3' w')
      have HZ := Aside0.mk (fun w' => HK.out 1 (by omega) A4 c4' w')
      have HG := fmtL_get x.f3 0 (by omega)
      have HG2 := fmtL_get x.f3 1 (by omega)
      have hsum := getS_le (fmtL x.f3)
      have hs1 := HS.out
      rw [HG, HG2] at hsum ⊢
      have HSG := Aside0.mk (equation_sign.calls x.f0 (bs (signL x.f0)) (w.alloc (.cells (cE x (.slice A x.f3.length c)) 24)) (by
        have : x.f0 = 5 ∨ x.f0 = 6 ∨ x.f0 = 7 ∨ x.f0 = 8 ∨ x.f0 = 9 ∨ x.f0 = 10 ∨ x.f0 = 11 ∨ x.f0 = 12 := by omega
        rcases this with h | h | h | h | h | h | h | h <;> rw [h] <;> rfl))
      have hsn : ((bs (signL x.f0)).toList != []) = true := by
        rw [bs_list]
        have : x.f0 = 5 ∨ x.f0 = 6 ∨ x.f0 = 7 ∨ x.f0 = 8 ∨ x.f0 = 9 ∨ x.f0 = 10 ∨ x.f0 = 11 ∨ x.f0 = 12 := by omega
        rcases this with h | h | h | h | h | h | h | h <;> rw [h] <;> rfl
      have hsl : (bs (signL x.f0)).size ≤ 3 := by rw [bs_size]; exact sign_len _
      generalize bs (signL x.f0) = sg at *
      generalize rd_T24 x.f3 ((0 : Nat) : Int) = y at *
      generalize rd_T24 x.f3 ((1 : Nat) : Int) = z at *
      generalize fmtE y = r1 at *
      generalize fmtE z = r2 at *
      have s1 : (9223372036854775807 < 1 + r1.size) = False := eq_false (by omega)
      have s2 : (9223372036854775807 < 1 + r1.size + 1) = False := eq_false (by omega)
      have s3 : (9223372036854775807 < 1 + r1.size + 1 + sg.size) = False := eq_false (by omega)
      have s4 : (9223372036854775807 < 1 + r1.size + 1 + sg.size + 1) = False := eq_false (by omega)
      have s5 : (9223372036854775807 < 1 + r1.size + 1 + sg.size + 1 + r2.size) = False := eq_false (by omega)
      have s6 : (9223372036854775807 < 1 + r1.size + 1 + sg.size + 1 + r2.size + 1) = False := eq_false (by omega)
      have p0 : (0 < (x.f3.length : Int)) = True := eq_true (by omega)
      have p1 : (0 < x.f3.length) = True := eq_true (by omega)
      have p2 : (1 < (x.f3.length : Int)) = True := eq_true (by omega)
      have p3 : (1 < x.f3.length) = True := eq_true (by omega)
      have hsn2 : (sg.toList == []) = false := by simpa using hsn
      subst eA
      rw [show (((0 : Nat) : Int)).toNat = 0 from rfl] at z0 z1 z2 z3
      rw [Nat.zero_mul, Addr.add_zero'] at z0 z1 z2 z3
      rw [show (((1 : Nat) : Int)).toNat * 4 = 4 from rfl, show ad.add 4 = ⟨ad.block, ad.off + 4, none⟩ by simp [Addr.add]] at u0 u1 u2 u3
      dsimp only at u1 u2 u3
      clear c1 c2 c3 c4 c12 HG HG2 hsum hs1 hl hl3 hC3 hl4 hC4 hop hsl
      go_enter Tryd.func33, Tryd.ntmps33
      go_wp2_with fail
      with_reducible refine HSG.out.mono ?_
      rintro e w2 ⟨rfl, HD⟩
      replace HD := Aside0.mk HD.below
      replace HF := Aside0.mk (HF.out.below HD.out)
      replace HCY := Aside0.mk (Kd.C_below HCY.out HD.out)
      replace HCZ := Aside0.mk (Kd.C_below HCZ.out HD.out)
      replace z0 := (HD.out.cell (World.block_lt_of_cell? _ _ z0)).trans z0
      replace z1 := (HD.out.cell (World.block_lt_of_cell? _ _ z1)).trans z1
      replace z2 := (HD.out.cell (World.block_lt_of_cell? _ _ z2)).trans z2
      replace z3 := (HD.out.cell (World.block_lt_of_cell? _ _ z3)).trans z3
      replace u0 := (HD.out.cell (World.block_lt_of_cell? _ _ u0)).trans u0
      replace u1 := (HD.out.cell (World.block_lt_of_cell? _ _ u1)).trans u1
      replace u2 := (HD.out.cell (World.block_lt_of_cell? _ _ u2)).trans u2
      replace u3 := (HD.out.cell (World.block_lt_of_cell? _ _ u3)).trans u3
      clear HD HSG x0 x1 x2
      replace x3 : w2.cell? ⟨w.heap.size, 3, none⟩ = some (.slice (some ad) x.f3.length c) := blk_cell HF.out.bx 3
      go_wp2_with fail
      refine Q.q_start (by kernel_rfl) (by kernel_rfl) ?_
      refine Q.q_value (N := some 38) (v := ?_) (a' := ?_) rfl (by rfl) ?_ ?_ ?_
      rotate_left
      · intro w' hb
        clear hb
        go_simp
        with_reducible rfl
      rotate_left
      · simp only [Act.put, List.setIfInBounds_toArray, List.set_cons_zero, List.set_cons_succ, i64_w, i32_w]
        rfl
      refine Q.q_value (N := some 39) (v := ?_) (a' := ?_) rfl (by rfl) ?_ ?_ ?_
      rotate_left
      · intro w' hb
        have s0 := pw_cell_below hb x3
        clear hb
        go_simp
        with_reducible rfl
      rotate_left
      · simp only [Act.put, List.setIfInBounds_toArray, List.set_cons_zero, List.set_cons_succ, i64_w, i32_w]
        rfl
      refine Q.q_value (N := some 40) (v := ?_) (a' := ?_) rfl (by rfl) ?_ ?_ ?_
      rotate_left
      · intro w' hb
        clear hb
        go_simp
        with_reducible rfl
      rotate_left
      · simp only [Act.put, List.setIfInBounds_toArray, List.set_cons_zero, List.set_cons_succ, i64_w, i32_w]
        rfl
      refine Q.q_value (N := some 41) (v := ?_) (a' := ?_) rfl (by rfl) ?_ ?_ ?_
      rotate_left
      · intro w' hb
        have s0 := pw_cell_below hb z0
        have s1 := pw_cell_below hb z1
        have s2 := pw_cell_below hb z2
        have s3 := pw_cell_below hb z3
        clear hb
        go_simp
        with_reducible rfl
      rotate_left
      · simp only [Act.put, List.setIfInBounds_toArray, List.set_cons_zero, List.set_cons_succ, i64_w, i32_w]
        rfl
      refine Q.q_call (N := some 42) (v := .string r1) (a' := ?_) 33 #[.agg (cE y (.slice A3 y.f3.length c3'))] rfl (by rfl) Tryd.func33 (by kernel_rfl) rfl (by rfl) (by first | rfl | (simp only [List.map_toArray, List.map_cons, List.map_nil]; done) | (simp only [List.map_toArray, List.map_cons, List.map_nil]; rfl)) (fun w' hb => (HY.out w' (Kd.C_below HCY.out hb) (WI_stay HF.out.wi hb)).mono fun e w'' ⟨he, hb'⟩ => ⟨he, below_step hb hb'⟩) ?_ ?_
      rotate_left
      · simp only [Act.put, List.setIfInBounds_toArray, List.set_cons_zero, List.set_cons_succ, i64_w, i32_w]
        rfl
      refine Q.q_value (N := some 43) (v := ?_) (a' := ?_) rfl (by rfl) ?_ ?_ ?_
      rotate_left
      · intro w' hb
        clear hb
        go_simp
        with_reducible rfl
      rotate_left
      · simp only [Act.put, List.setIfInBounds_toArray, List.set_cons_zero, List.set_cons_succ, i64_w, i32_w]
        rfl
      refine Q.q_value (N := some 44) (v := ?_) (a' := ?_) rfl (by rfl) ?_ ?_ ?_
      rotate_left
      · intro w' hb
        clear hb
        go_simp
        with_reducible rfl
      rotate_left
      · simp only [Act.put, List.setIfInBounds_toArray, List.set_cons_zero, List.set_cons_succ, i64_w, i32_w]
        rfl
      refine Q.q_value (N := some 45) (v := ?_) (a' := ?_) rfl (by rfl) ?_ ?_ ?_
      rotate_left
      · intro w' hb
        clear hb
        go_simp
        with_reducible rfl
      rotate_left
      · simp only [Act.put, List.setIfInBounds_toArray, List.set_cons_zero, List.set_cons_succ, i64_w, i32_w]
        rfl
      refine Q.q_value (N := some 46) (v := ?_) (a' := ?_) rfl (by rfl) ?_ ?_ ?_
      rotate_left
      · intro w' hb
        clear hb
        go_simp
        with_reducible rfl
      rotate_left
      · simp only [Act.put, List.setIfInBounds_toArray, List.set_cons_zero, List.set_cons_succ, i64_w, i32_w]
        rfl
      refine Q.q_value (N := some 47) (v := ?_) (a' := ?_) rfl (by rfl) ?_ ?_ ?_
      rotate_left
      · intro w' hb
        clear hb
        go_simp
        with_reducible rfl
      rotate_left
      · simp only [Act.put, List.setIfInBounds_toArray, List.set_cons_zero, List.set_cons_succ, i64_w, i32_w]
        rfl
      refine Q.q_value (N := some 48) (v := ?_) (a' := ?_) rfl (by rfl) ?_ ?_ ?_
      rotate_left
      · intro w' hb
        clear hb
        go_simp
        with_reducible rfl
      rotate_left
      · simp only [Act.put, List.setIfInBounds_toArray, List.set_cons_zero, List.set_cons_succ, i64_w, i32_w]
        rfl
      refine Q.q_value (N := some 49) (v := ?_) (a' := ?_) rfl (by rfl) ?_ ?_ ?_
      rotate_left
      · intro w' hb
        have s0 := pw_cell_below hb x3
        clear hb
        go_simp
        with_reducible rfl
      rotate_left
      · simp only [Act.put, List.setIfInBounds_toArray, List.set_cons_zero, List.set_cons_succ, i64_w, i32_w]
        rfl
      refine Q.q_value (N := some 50) (v := ?_) (a' := ?_) rfl (by rfl) ?_ ?_ ?_
      rotate_left
      · intro w' hb
        clear hb
        go_simp
        with_reducible rfl
      rotate_left
      · simp only [Act.put, List.setIfInBounds_toArray, List.set_cons_zero, List.set_cons_succ, i64_w, i32_w]
        rfl
      refine Q.q_value (N := some 51) (v := ?_) (a' := ?_) rfl (by rfl) ?_ ?_ ?_
      rotate_left
      · intro w' hb
        have s0 := pw_cell_below hb u0
        have s1 := pw_cell_below hb u1
        have s2 := pw_cell_below hb u2
        have s3 := pw_cell_below hb u3
        clear hb
        go_simp
        with_reducible rfl
      rotate_left
      · simp only [Act.put, List.setIfInBounds_toArray, List.set_cons_zero, List.set_cons_succ, i64_w, i32_w]
        rfl
      refine Q.q_call (N := some 52) (v := .string r2) (a' := ?_) 33 #[.agg (cE z (.slice A4 z.f3.length c4'))] rfl (by rfl) Tryd.func33 (by kernel_rfl) rfl (by rfl) (by first | rfl | (simp only [List.map_toArray, List.map_cons, List.map_nil]; done) | (simp only [List.map_toArray, List.map_cons, List.map_nil]; rfl)) (fun w' hb => (HZ.out w' (Kd.C_below HCZ.out hb) (WI_stay HF.out.wi hb)).mono fun e w'' ⟨he, hb'⟩ => ⟨he, below_step hb hb'⟩) ?_ ?_
      rotate_left
      · simp only [Act.put, List.setIfInBounds_toArray, List.set_cons_zero, List.set_cons_succ, i64_w, i32_w]
        rfl
      refine Q.q_value (N := some 53) (v := ?_) (a' := ?_) rfl (by rfl) ?_ ?_ ?_
      rotate_left
      · intro w' hb
        clear hb
        go_simp
        with_reducible rfl
      rotate_left
      · simp only [Act.put, List.setIfInBounds_toArray, List.set_cons_zero, List.set_cons_succ, i64_w, i32_w]
        rfl
      refine Q.q_value (N := some 54) (v := ?_) (a' := ?_) rfl (by rfl) ?_ ?_ ?_
      rotate_left
      · intro w' hb
        clear hb
        go_simp
        with_reducible rfl
      rotate_left
      · simp only [Act.put, List.setIfInBounds_toArray, List.set_cons_zero, List.set_cons_succ, i64_w, i32_w]
        rfl
      refine Q.q_value (N := some 2) (v := ?_) (a' := ?_) rfl (by rfl) ?_ ?_ ?_
      rotate_left
      · intro w' hb
        clear hb
        go_simp
        with_reducible rfl
      rotate_left
      · simp only [Act.put, List.setIfInBounds_toArray, List.set_cons_zero, List.set_cons_succ, i64_w, i32_w]
        rfl
      refine wpQuiet_nil ?_
      intro w9 HB9
      replace HF := Aside0.mk (HF.out.below HB9)
      clear HB9 x3 z0 z1 z2 z3 u0 u1 u2 u3
      go_wp2_with fail
      go_ret
      exact ⟨rfl, HF.out.bl⟩
    rw [if_neg c12]
    have hop : 13 ≤ x.f0 ∧ x.f0 ≤ 22 := by
      have h1 := HN.out.1
      refine ⟨by omega, ?_⟩
      cases Int.lt_or_le 22 x.f0 with
      | inr h => exact h
      | inl h =>
        have : arityI x.f0 = -1 := by unfold arityI; rw [if_neg (by omega), if_neg (by omega), if_neg (by omega), if_neg (by omega)]
        omega
    have hop2 : x.f0 = 13 ∨ x.f0 = 14 ∨ x.f0 = 15 ∨ x.f0 = 16 ∨ x.f0 = 17 ∨ x.f0 = 18 ∨ x.f0 = 19 ∨ x.f0 = 20 ∨ x.f0 = 21 ∨ x.f0 = 22 := by omega
    have hl : 0 < x.f3.length := by
      have h1 := HN.out.1
      rcases hop2 with h | h | h | h | h | h | h | h | h | h <;> (rw [h] at h1; revert h1; unfold arityI; simp; omega)
    have HSG := Aside0.mk (equation_sign.calls x.f0 (⟨#[]⟩ : ByteArray) (w.alloc (.cells (cE x (.slice A x.f3.length c)) 24)) (by
      rcases hop2 with h | h | h | h | h | h | h | h | h | h <;> rw [h] <;> rfl))
    have HCF : Aside0 (equation_call.f x.f0 = some (bs (callL x.f0))) := ⟨by
      rcases hop2 with h | h | h | h | h | h | h | h | h | h <;> rw [h] <;> rfl⟩
    have hcl : (bs (callL x.f0)).size ≤ 5 := by rw [bs_size]; exact call_len _
    have hnum := numB_size x.f1 (by have := HN.out.2.2; have := bound_le x.f0; omega)
    have HT : Aside0 ((if x.f0 = 19 ∨ x.f0 = 20 then (argsB true (bs (callL x.f0) ++ bs [40]) (fmtL x.f3) ++ (bs [44, 32] ++ numB x.f1)) else argsB true (bs (callL x.f0) ++ bs [40]) (fmtL x.f3)) ++ bs [41] = argsB true (bs (callL x.f0) ++ bs [40]) (if x.f0 = 19 ∨ x.f0 = 20 then fmtL x.f3 ++ [numB x.f1] else fmtL x.f3) ++ bs [41]) := ⟨by
      by_cases h : x.f0 = 19 ∨ x.f0 = 20
      · have ha : ∀ a b c : ByteArray, a ++ b ++ c = a ++ (b ++ c) := fun _ _ _ => ByteArray.append_assoc
        rw [if_pos h, if_pos h, argsB_snoc _ _ _ _ (by intro e; have := HL.out; rw [e] at this; simp at this; omega), ha (argsB true (bs (callL x.f0) ++ bs [40]) (fmtL x.f3)) (bs [44, 32]) (numB x.f1)]
      · rw [if_neg h, if_neg h]⟩
    rw [← HT.out]
    have HI := Aside0.mk (itoa_calls x.f1 HN.out.2.1 (by have := HN.out.2.2; have := bound_le x.f0; omega))
    clear HT c1 c2 c3 c4 c12 hop
    have HO2 := Aside0.mk hop2
    have HHL := Aside0.mk hl
    clear hop2 hl
    obtain ⟨cl, hcl2⟩ : ∃ cl, bs (callL x.f0) = cl := ⟨_, rfl⟩
    obtain ⟨nu, hnu2⟩ : ∃ nu, numB x.f1 = nu := ⟨_, rfl⟩
    rw [hcl2] at HCF hcl ⊢
    rw [hnu2] at HI hnum ⊢
    clear hcl2 hnu2
    have HM := Aside0.mk (And.intro hcl hnum)
    obtain ⟨R, hR⟩ : ∃ R, argsB true (cl ++ bs [40]) (fmtL x.f3) = R := ⟨_, rfl⟩
    rw [hR]
    have HR := Aside0.mk hR
    obtain ⟨F, hF⟩ : ∃ F, (if x.f0 = 19 ∨ x.f0 = 20 then R ++ (bs [44, 32] ++ nu) else R) = F := ⟨_, rfl⟩
    rw [hF]
    have HFF := Aside0.mk hF
    clear hR hnum hF
    have s1 : (9223372036854775807 < cl.size + 1) = False := eq_false (by omega)
    clear hcl
    go_enter Tryd.func33, Tryd.ntmps33
    go_wp2_with fail
    with_reducible refine HSG.out.mono ?_
    rintro e w2 ⟨rfl, HD⟩
    replace HF := Aside0.mk (HF.out.below HD.below)
    have HCL := Aside0.mk (equation_call.calls x.f0 cl w2 HCF.out)
    clear HD HSG x0 x1 x2 x3 HCF
    have x0 : w2.cell? ⟨w.heap.size, 0, none⟩ = some (.int .i64 x.f0) := blk_cell HF.out.bx 0
    go_wp2_with fail
    with_reducible refine HCL.out.mono ?_
    rintro e w3 ⟨rfl, HD⟩
    replace HF := Aside0.mk (HF.out.below HD.below)
    clear HD HCL x0
    have x3 : w3.cell? ⟨w.heap.size, 3, none⟩ = some (.slice A x.f3.length c) := blk_cell HF.out.bx 3
    go_wp2_with fail
    clear x3
    go_loopg [4, 62] x.f3.length (fun gk v4 v62 wr => ∃ (j : Nat) (s : ByteArray), v4 = .string s ∧ v62 = .int .i64 (j : Int) ∧ Aside0 (j + gk = x.f3.length) ∧ Aside0 (argsB (decide (j = 0)) s ((fmtL x.f3).drop j) = R) ∧ Aside0 (s.size + sumS ((fmtL x.f3).drop j) + 2 * gk ≤ 40000) ∧ Aside0 (Fx x A c w w.heap.size wr))
    case atStart => exact ⟨0, cl ++ bs [40], rfl, rfl, ⟨by omega⟩, HR, ⟨by
      have hz0 : (bs [40]).size = 1 := rfl
      rw [List.drop_zero, ByteArray.size_append]
      have h1 := HS.out
      have h2 := HM.out.1
      have h3 := HN.out.1
      have h4 := HA.out
      omega⟩, HF⟩
    case round =>
      clear HR HF s1
      obtain ⟨j, s, rfl, rfl, HJ, HR, HZ, HF⟩ := hrel
      have x0 : wr.cell? ⟨w.heap.size, 0, none⟩ = some (.int .i64 x.f0) := blk_cell HF.out.bx 0
      cases gk with
      | zero =>
        have hj : j = x.f3.length := HJ.out
        have hr := HR.out
        rw [List.drop_eq_nil_of_le (by rw [HL.out]; omega), argsB_nil] at hr
        have hz := HZ.out
        have hm := HM.out
        clear HR HJ
        subst hj
        subst hr
        have x1 : wr.cell? ⟨w.heap.size, 1, none⟩ = some (.int .i64 x.f1) := blk_cell HF.out.bx 1
        have s1 : (9223372036854775807 < s.size + 1) = False := eq_false (by omega)
        have s2 : (9223372036854775807 < 2 + nu.size) = False := eq_false (by omega)
        have s3 : (9223372036854775807 < s.size + (2 + nu.size)) = False := eq_false (by omega)
        have s4 : (9223372036854775807 < s.size + (2 + nu.size) + 1) = False := eq_false (by omega)
        clear hz hm HM
        by_cases c19 : x.f0 = 19
        · have hff := HFF.out
          rw [if_pos (Or.inl c19)] at hff
          clear HFF
          subst hff
          have d1 : (x.f0 == 19) = true := by simpa using c19
          replace HI := Aside0.mk (HI.out wr HF.out.wi)
          clear c19
          go_wp2_with fail
          with_reducible refine HI.out.mono ?_
          rintro e w4 ⟨rfl, HD⟩
          replace HF := Aside0.mk (HF.out.below HD)
          clear HD HI x0 x1
          go_wp2_with fail
          go_ret
          exact ⟨rfl, HF.out.bl⟩
        have d1 : (x.f0 == 19) = false := by simpa using c19
        by_cases c20 : x.f0 = 20
        · have hff := HFF.out
          rw [if_pos (Or.inr c20)] at hff
          clear HFF
          subst hff
          have d2 : (x.f0 == 20) = true := by simpa using c20
          replace HI := Aside0.mk (HI.out wr HF.out.wi)
          clear c19 c20
          go_wp2_with fail
          with_reducible refine HI.out.mono ?_
          rintro e w4 ⟨rfl, HD⟩
          replace HF := Aside0.mk (HF.out.below HD)
          clear HD HI x0 x1
          go_wp2_with fail
          go_ret
          exact ⟨rfl, HF.out.bl⟩
        have d2 : (x.f0 == 20) = false := by simpa using c20
        have hff := HFF.out
        rw [if_neg (by intro h; rcases h with h | h <;> contradiction)] at hff
        clear HFF
        subst hff
        clear c19 c20 HI
        go_wp2_with fail
        go_ret
        exact ⟨rfl, HF.out.bl⟩
      | succ n =>
        have hj : j < x.f3.length := by have := HJ.out; omega
        obtain ⟨ad, A3, c3', eA, z0, z1, z2, z3, hl3, hC3⟩ := at_T24 (HF.out.kids HC.out) (j : Int) (by omega) (by omega)
        have HAB := Aside0.mk (below_alloc (Below.refl wr.heap.size wr) (.cells (cE (rd_T24 x.f3 (j : Int)) (.slice A3 (rd_T24 x.f3 (j : Int)).f3.length c3')) 24))
        have HY := Aside0.mk (HK.out j hj A3 c3' _ (Kd.C_below hC3 HAB.out) (WI_stay HF.out.wi HAB.out))
        have hr := HR.out
        have hz := HZ.out
        have hd : (fmtL x.f3).drop j = fmtE (rd_T24 x.f3 (j : Int)) :: (fmtL x.f3).drop (j + 1) := by
          rw [List.drop_eq_getElem_cons (by rw [HL.out]; exact hj)]
          congr 1
          have := fmtL_get x.f3 j hj
          rw [List.getD_eq_getElem?_getD, List.getElem?_eq_getElem (by rw [HL.out]; exact hj)] at this
          exact this
        rw [hd, sumS] at hz
        rw [hd] at hr
        generalize rd_T24 x.f3 (j : Int) = y at *
        generalize fmtE y = r at *
        have BY := Aside0.mk (heap_alloc_new wr (.cells (cE y (.slice A3 y.f3.length c3')) 24))
        have y0 : (wr.alloc (.cells (cE y (.slice A3 y.f3.length c3')) 24)).cell? ⟨wr.heap.size, 0, none⟩ = some (.int .i64 y.f0) := blk_cell BY.out 0
        have y1 : (wr.alloc (.cells (cE y (.slice A3 y.f3.length c3')) 24)).cell? ⟨wr.heap.size, 1, none⟩ = some (.int .i64 y.f1) := blk_cell BY.out 1
        have y2 : (wr.alloc (.cells (cE y (.slice A3 y.f3.length c3')) 24)).cell? ⟨wr.heap.size, 2, none⟩ = some (.string y.f2) := blk_cell BY.out 2
        have y3 : (wr.alloc (.cells (cE y (.slice A3 y.f3.length c3')) 24)).cell? ⟨wr.heap.size, 3, none⟩ = some (.slice A3 y.f3.length c3') := blk_cell BY.out 3
        subst eA
        rw [Int.toNat_natCast] at z0 z1 z2 z3
        have hfew : x.f3.length ≤ 3 := by have := HN.out.1; have := HA.out; omega
        have hw1 : wrap64 ((j : Int) + 1) = (j : Int) + 1 := by unfold wrap64; omega
        have p0 : (0 ≤ (j : Int)) = True := eq_true (by omega)
        have p1 : ((j : Int) < (x.f3.length : Int)) = True := eq_true (by omega)
        have t0 : decide ((j : Int) < (x.f3.length : Int)) = true := by simpa using hj
        clear hC3 hl3 hd HR HZ BY
        by_cases hj0 : j = 0
        · have q0 : decide ((j : Int) > 0) = false := by simp; omega
          have q2 : (0 < j) = False := eq_false (by omega)
          have q1 : decide (0 < (j : Int)) = false := by simp; omega
          have s1 : (9223372036854775807 < s.size + r.size) = False := eq_false (by omega)
          rw [show decide (j = 0) = true by simpa using hj0] at hr
          have HR : Aside0 (argsB false (s ++ r) ((fmtL x.f3).drop (j + 1)) = R) := ⟨hr⟩
          have HZ : Aside0 ((s ++ r).size + sumS ((fmtL x.f3).drop (j + 1)) + 2 * n ≤ 40000) := ⟨by rw [ByteArray.size_append]; omega⟩
          clear hr hz hj0 hfew
          go_wp2_with fail
          with_reducible refine HY.out.mono ?_
          rintro e w4 ⟨rfl, HD⟩
          replace HF := Aside0.mk ((HF.out.below HAB.out).below HD)
          clear HD HY x0 z0 z1 z2 z3 y0 y1 y2 y3 HAB
          go_wp2_with fail
          go_roundg n
          case measure => omega
          case rel => exact ⟨j + 1, s ++ r, rfl, by first | rfl | (simp; done) | (simp [hw1]; done), ⟨by have := HJ.out; omega⟩, ⟨by rw [show decide (j + 1 = 0) = false by simp]; exact HR.out⟩, HZ, HF⟩
        · have q0 : decide ((j : Int) > 0) = true := by simp; omega
          have q2 : (0 < j) = True := eq_true (by omega)
          have q1 : decide (0 < (j : Int)) = true := by simp; omega
          have s1 : (9223372036854775807 < s.size + 2) = False := eq_false (by omega)
          have s2 : (9223372036854775807 < s.size + 2 + r.size) = False := eq_false (by omega)
          have s3 : (9223372036854775805 < s.size) = False := eq_false (by omega)
          rw [show decide (j = 0) = false by simpa using hj0] at hr
          have HR : Aside0 (argsB false ((s ++ bs [44, 32]) ++ r) ((fmtL x.f3).drop (j + 1)) = R) := ⟨hr⟩
          have HZ : Aside0 (((s ++ bs [44, 32]) ++ r).size + sumS ((fmtL x.f3).drop (j + 1)) + 2 * n ≤ 40000) := ⟨by
            have z2 : (bs [44, 32]).size = 2 := rfl
            rw [ByteArray.size_append, ByteArray.size_append]; omega⟩
          clear hr hz hj0 hfew
          go_wp2_with fail
          with_reducible refine HY.out.mono ?_
          rintro e w4 ⟨rfl, HD⟩
          replace HF := Aside0.mk ((HF.out.below HAB.out).below HD)
          clear HD HY x0 z0 z1 z2 z3 y0 y1 y2 y3 HAB
          go_wp2_with fail
          go_roundg n
          case measure => omega
          case rel => exact ⟨j + 1, (s ++ bs [44, 32]) ++ r, rfl, by first | rfl | (simp; done) | (simp [hw1]; done), ⟨by have := HJ.out; omega⟩, ⟨by rw [show decide (j + 1 = 0) = false by simp]; exact HR.out⟩, HZ, HF⟩
end Go.Proofs.YtbbopomecanaoaaDoor.A
namespace Go.Proofs.YtbbopomecanaoaaDoor.A
open Go.RowKit Go.Proofs.YtbbopomecanaoaaDoorW.PrintWords Go.Proofs.YtbbopomecanaoaaDoorW.PrintLast Go.Proofs.YtbbopomecanaoaaDoorW.PrintMore Go.Proofs.YtbbopomecanaoaaDoor.XK
open Go.Proofs.YtbbopomecanaoaaDoor
attribute [local go_sem] max2_int min2_int max_two min_two max_three min_three max_four min_four fld1 fld3
set_option linter.unusedVariables false
set_option linter.unusedSimpArgs false
def WF (w : World) : Prop := WR w ∧ WI w
theorem WF_stay {w w' : World} (h : WF w) (hb : Below w.heap.size w w') : WF w' := ⟨atoiF.stay w w' h.1 hb, WI_stay h.2 hb⟩
theorem atoiWF : AtoiF WF := ⟨fun s w hd h1 h2 hw => atoiF.calls s w hd h1 h2 hw.1, fun w w' h hb => WF_stay h hb⟩
set_option maxRecDepth 100000 in
set_option maxHeartbeats 4000000 in
theorem Format_calls (x : E) (A : Option Addr) (c : Nat) (w : World) (hC : (k24).C w A x.f3.length x.f3) (hw : WF w) :
    Calls Tryd.prog 16 #[.agg (cE x (.slice A x.f3.length c))] w fun e w' => e = .returned (.string (FormatB x)) ∧ Below w.heap.size w w' := by
  have HA := Aside0.mk (below_alloc (Below.refl w.heap.size w) (.cells (cE x (.slice A x.f3.length c)) 24))
  have BX := Aside0.mk (heap_alloc_new w (.cells (cE x (.slice A x.f3.length c)) 24))
  have HV := Aside0.mk (valid_calls x A c _ (Kd.C_below hC HA.out))
  have HC := Aside0.mk (Kd.C_below hC HA.out)
  have HW := Aside0.mk (WF_stay hw HA.out)
  have HX := Aside0.mk (validB_is x)
  clear hC hw
  obtain ⟨F, hF⟩ : ∃ F, FormatB x = F := ⟨_, rfl⟩
  rw [hF]
  unfold FormatB at hF
  have HF := Aside0.mk hF
  clear hF
  have x0 : (w.alloc (.cells (cE x (.slice A x.f3.length c)) 24)).cell? ⟨w.heap.size, 0, none⟩ = some (.int .i64 x.f0) := blk_cell BX.out 0
  have x1 : (w.alloc (.cells (cE x (.slice A x.f3.length c)) 24)).cell? ⟨w.heap.size, 1, none⟩ = some (.int .i64 x.f1) := blk_cell BX.out 1
  have x2 : (w.alloc (.cells (cE x (.slice A x.f3.length c)) 24)).cell? ⟨w.heap.size, 2, none⟩ = some (.string x.f2) := blk_cell BX.out 2
  have x3 : (w.alloc (.cells (cE x (.slice A x.f3.length c)) 24)).cell? ⟨w.heap.size, 3, none⟩ = some (.slice A x.f3.length c) := blk_cell BX.out 3
  generalize hb : validB x = b at *
  go_enter Tryd.func16, Tryd.ntmps16
  cases b with
  | false =>
    have hf := HF.out
    rw [if_neg (by simp)] at hf
    clear HF
    subst hf
    clear hb
    go_wp2_with fail
    with_reducible refine HV.out.mono ?_
    rintro e w2 ⟨rfl, HD⟩
    have HB := Aside0.mk (below_step HA.out HD)
    clear HD HV HA x0 x1 x2 x3
    go_wp2_with fail
    go_ret
    exact ⟨rfl, HB.out⟩
  | true =>
    have hf := HF.out
    rw [if_pos (by trivial)] at hf
    clear HF
    subst hf
    obtain ⟨hz, -, hbe⟩ := HX.out.mp rfl
    clear hb
    have HZ := Aside0.mk (And.intro hz hbe)
    clear hz hbe
    go_wp2_with fail
    with_reducible refine HV.out.mono ?_
    rintro e w2 ⟨rfl, HD⟩
    have HB := Aside0.mk (below_step HA.out HD)
    replace BX := Aside0.mk (blk_below BX.out HD)
    have HG := Aside0.mk (format_calls 60 x A c w2 HZ.out.1 (by decide) HZ.out.2 (Kd.C_below HC.out HD) (WF_stay HW.out HD).2)
    clear HD HV HA x0 x1 x2 x3
    have x0 : w2.cell? ⟨w.heap.size, 0, none⟩ = some (.int .i64 x.f0) := blk_cell BX.out 0
    have x1 : w2.cell? ⟨w.heap.size, 1, none⟩ = some (.int .i64 x.f1) := blk_cell BX.out 1
    have x2 : w2.cell? ⟨w.heap.size, 2, none⟩ = some (.string x.f2) := blk_cell BX.out 2
    have x3 : w2.cell? ⟨w.heap.size, 3, none⟩ = some (.slice A x.f3.length c) := blk_cell BX.out 3
    go_wp2_with fail
    with_reducible refine HG.out.mono ?_
    rintro e w3 ⟨rfl, HD⟩
    replace HB := Aside0.mk (below_step HB.out HD)
    clear HD HG x0 x1 x2 x3
    go_wp2_with fail
    go_ret
    exact ⟨rfl, HB.out⟩
abbrev knownS : ByteArray := bs [97, 32, 97, 110, 100, 32, 110, 111, 116, 32, 98, 32, 111, 114, 32, 99]
abbrev knownX : E := ⟨6, 0, ⟨#[]⟩, [⟨5, 0, ⟨#[]⟩, [⟨3, 0, bs [97], []⟩, ⟨4, 0, ⟨#[]⟩, [⟨3, 0, bs [98], []⟩]⟩]⟩, ⟨3, 0, bs [99], []⟩]⟩
set_option maxRecDepth 100000 in
theorem known_parse : parseP knownS = (knownX, 0, 0) := by kernel_rfl
set_option maxRecDepth 100000 in
theorem known_format : FormatB knownX = bs [40, 40, 97, 32, 97, 110, 100, 32, 40, 110, 111, 116, 32, 98, 41, 41, 32, 111, 114, 32, 99, 41] := by kernel_rfl
theorem known_both : ∃ x, parseP knownS = (x, 0, 0) ∧ FormatB x = bs [40, 40, 97, 32, 97, 110, 100, 32, 40, 110, 111, 116, 32, 98, 41, 41, 32, 111, 114, 32, 99, 41] := ⟨knownX, known_parse, known_format⟩
set_option maxRecDepth 100000 in
set_option maxHeartbeats 4000000 in
theorem known_calls (w : World) (hw : WF w) : Calls Tryd.prog 13 #[] w fun e w' => e = .returned (.bool true) ∧ Below w.heap.size w w' := by
  have HP := Aside0.mk (parse_calls atoiWF knownS w hw)
  have HW := Aside0.mk hw
  obtain ⟨x, hk1, hk2⟩ := known_both
  have HK := Aside0.mk hk1
  have HK2 := Aside0.mk hk2
  clear hk1 hk2
  clear hw
  go_enter Tryd.func13, Tryd.ntmps13
  go_wp2_with fail
  with_reducible refine HP.out.mono ?_
  clear HP
  rintro e w2 ⟨v3, rfl, hx, HB⟩
  rw [HK.out] at hx ⊢
  obtain ⟨A, c, rfl⟩ := Kd.R_slice hx
  have hC := (Kd.R_reads' hx).2.2
  dsimp only at hC ⊢
  clear hx HK
  replace HW := Aside0.mk (WF_stay HW.out HB)
  have HB := Aside0.mk HB
  have HA := Aside0.mk (below_alloc (Below.refl w2.heap.size w2) (.cells (cE x (.slice A x.f3.length c)) 24))
  have BX := Aside0.mk (heap_alloc_new w2 (.cells (cE x (.slice A x.f3.length c)) 24))
  have HF := Aside0.mk (Format_calls x A c _ (Kd.C_below hC HA.out) (WF_stay HW.out HA.out))
  rw [HK2.out] at HF
  replace HB := Aside0.mk (below_step HB.out HA.out)
  have x0 : (w2.alloc (.cells (cE x (.slice A x.f3.length c)) 24)).cell? ⟨w2.heap.size, 0, none⟩ = some (.int .i64 x.f0) := blk_cell BX.out 0
  have x1 : (w2.alloc (.cells (cE x (.slice A x.f3.length c)) 24)).cell? ⟨w2.heap.size, 1, none⟩ = some (.int .i64 x.f1) := blk_cell BX.out 1
  have x2 : (w2.alloc (.cells (cE x (.slice A x.f3.length c)) 24)).cell? ⟨w2.heap.size, 2, none⟩ = some (.string x.f2) := blk_cell BX.out 2
  have x3 : (w2.alloc (.cells (cE x (.slice A x.f3.length c)) 24)).cell? ⟨w2.heap.size, 3, none⟩ = some (.slice A x.f3.length c) := blk_cell BX.out 3
  clear hC HA BX
  go_wp2_with fail
  with_reducible refine HF.out.mono ?_
  rintro e w3 ⟨rfl, HD⟩
  replace HB := Aside0.mk (below_step HB.out HD)
  clear HD HF x0 x1 x2 x3
  have ht : ((bs [40, 40, 97, 32, 97, 110, 100, 32, 40, 110, 111, 116, 32, 98, 41, 41, 32, 111, 114, 32, 99, 41]).toList == (⟨#[40, 40, 97, 32, 97, 110, 100, 32, 40, 110, 111, 116, 32, 98, 41, 41, 32, 111, 114, 32, 99, 41]⟩ : ByteArray).toList) = true := by simp
  go_wp2_with fail
  go_ret
  exact ⟨rfl, HB.out⟩
end Go.Proofs.YtbbopomecanaoaaDoor.A
namespace Go.Proofs.YtbbopomecanaoaaDoor.A
open Go.RowKit Go.Proofs.YtbbopomecanaoaaDoorW.PrintWords Go.Proofs.YtbbopomecanaoaaDoorW.PrintLast Go.Proofs.YtbbopomecanaoaaDoorW.PrintMore Go.Proofs.YtbbopomecanaoaaDoor.XK
open Go.Proofs.YtbbopomecanaoaaDoor
set_option linter.unusedVariables false
set_option linter.unusedSimpArgs false
abbrev cI (c : UInt8) : Int := (c.toNat : Int)
def nextL (i : Nat) : List UInt8 → Tk × Nat × Int
  | [] => (⟨0, 0, 0, ⟨#[]⟩⟩, 0, 5)
  | c :: cs =>
    if letterB (cI c) = true then
      (if 12 < ((c :: cs).takeWhile fun b => wordB (cI b)).length then (⟨0, 0, 0, ⟨#[]⟩⟩, 0, 7) else (⟨1, i, 0, bs ((c :: cs).takeWhile fun b => wordB (cI b))⟩, ((c :: cs).takeWhile fun b => wordB (cI b)).length, 0))
    else if digitB (cI c) = true then (numT (bs ((c :: cs).takeWhile fun b => digitB (cI b))) i, ((c :: cs).takeWhile fun b => digitB (cI b)).length, numE (bs ((c :: cs).takeWhile fun b => digitB (cI b))))
    else if symB (cI c) = true then (⟨3, i, 0, bs [c]⟩, 1, 0)
    else (⟨0, 0, 0, ⟨#[]⟩⟩, 0, 5)
def lexL : Nat → List Tk → List UInt8 → Nat → Option LexR
  | 0, _, _, _ => none
  | k + 1, l, [], i => some (.ok l)
  | k + 1, l, c :: cs, i =>
    if cI c = 32 then lexL k l cs (i + 1)
    else if (nextL i (c :: cs)).2.2 = 0 then lexL k (l ++ [(nextL i (c :: cs)).1]) ((c :: cs).drop (nextL i (c :: cs)).2.1) (i + (nextL i (c :: cs)).2.1)
    else some (.bad i (nextL i (c :: cs)).2.2)
def Lx (l : List Tk) (t : List UInt8) (i : Nat) (l' : List Tk) (t' : List UInt8) (i' : Nat) : Prop := ∃ d, ∀ k, lexL (k + d) l t i = lexL k l' t' i'
theorem Lx.refl (l : List Tk) (t : List UInt8) (i : Nat) : Lx l t i l t i := ⟨0, fun _ => rfl⟩
theorem Lx.trans {l l1 l2 : List Tk} {t t1 t2 : List UInt8} {i i1 i2 : Nat} (h : Lx l t i l1 t1 i1) (h2 : Lx l1 t1 i1 l2 t2 i2) : Lx l t i l2 t2 i2 := by
  obtain ⟨d, hd⟩ := h
  obtain ⟨d2, hd2⟩ := h2
  exact ⟨d2 + d, fun k => by rw [← Nat.add_assoc, hd, hd2]⟩
theorem Lx.next {l : List Tk} {c : UInt8} {cs t : List UInt8} {i n : Nat} {tk : Tk} (h32 : cI c ≠ 32) (h : nextL i (c :: cs) = (tk, n, 0)) (hd : (c :: cs).drop n = t) : Lx l (c :: cs) i (l ++ [tk]) t (i + n) :=
  ⟨1, fun k => by rw [lexL, if_neg h32, h, if_pos rfl, hd]⟩
def Sep (t : List UInt8) : Prop := ∀ c cs, t = c :: cs → wordB (cI c) = false
theorem tw_app (p : UInt8 → Bool) : ∀ (w t : List UInt8), (∀ c ∈ w, p c = true) → (∀ c cs, t = c :: cs → p c = false) → (w ++ t).takeWhile p = w
  | [], [], _, _ => rfl
  | [], c :: cs, _, h => by rw [List.nil_append, List.takeWhile_cons, h c cs rfl]; rfl
  | c :: cs, t, hw, h => by
    rw [List.cons_append, List.takeWhile_cons, hw c (by simp)]
    show c :: _ = _
    rw [tw_app p cs t (fun d hd => hw d (by simp [hd])) h]
theorem Lx.word (l : List Tk) (c : UInt8) (w t : List UInt8) (i : Nat) (h1 : letterB (cI c) = true) (hw : ∀ d ∈ w, wordB (cI d) = true) (hl : w.length ≤ 11) (ht : Sep t) :
    Lx l (c :: w ++ t) i (l ++ [⟨1, i, 0, bs (c :: w)⟩]) t (i + (c :: w).length) := by
  have hc : wordB (cI c) = true := by unfold wordB; rw [h1]; rfl
  have e := tw_app (fun b => wordB (cI b)) (c :: w) t (by
    intro d hd
    rcases List.mem_cons.mp hd with rfl | hd
    · exact hc
    · exact hw d hd) ht
  refine Lx.next (cs := w ++ t) ?_ ?_ ?_
  · intro e2
    rw [e2] at h1
    exact absurd h1 (by decide)
  · rw [nextL, if_pos h1, show c :: (w ++ t) = c :: w ++ t from rfl, e, if_neg (by simp; omega)]
  · show (c :: w ++ t).drop (c :: w).length = t
    rw [List.drop_left]
theorem Lx.num (l : List Tk) (c : UInt8) (w t : List UInt8) (i : Nat) (hw : ∀ d ∈ c :: w, digitB (cI d) = true) (hb : numBad (bs (c :: w)) = false) (ht : Sep t) :
    Lx l (c :: w ++ t) i (l ++ [⟨2, i, decV (bs (c :: w)), bs (c :: w)⟩]) t (i + (c :: w).length) := by
  have h2 := hw c (by simp)
  have h2' : 48 ≤ cI c ∧ cI c ≤ 57 := by unfold digitB at h2; simpa using h2
  have h1 : ¬ letterB (cI c) = true := by unfold letterB; simp only [decide_eq_true_eq]; omega
  have e := tw_app (fun b => digitB (cI b)) (c :: w) t hw (fun d ds hd => by
    have := ht d ds hd
    unfold wordB at this
    simp only [Bool.or_eq_false_iff] at this
    exact this.1.2)
  refine Lx.next (cs := w ++ t) (by omega) ?_ ?_
  · rw [nextL, if_neg h1, if_pos h2, show c :: (w ++ t) = c :: w ++ t from rfl, e]
    unfold numT numE
    rw [hb]
    rfl
  · show (c :: w ++ t).drop (c :: w).length = t
    rw [List.drop_left]
end Go.Proofs.YtbbopomecanaoaaDoor.A
namespace Go.Proofs.YtbbopomecanaoaaDoor.A
open Go.RowKit Go.Proofs.YtbbopomecanaoaaDoorW.PrintWords Go.Proofs.YtbbopomecanaoaaDoorW.PrintLast Go.Proofs.YtbbopomecanaoaaDoorW.PrintMore Go.Proofs.YtbbopomecanaoaaDoor.XK
open Go.Proofs.YtbbopomecanaoaaDoor
set_option linter.unusedVariables false
set_option linter.unusedSimpArgs false
def bare (t : Tk) : Int × Int × ByteArray := (t.f0, t.f2, t.f3)
section
variable {ts ts' : List Tk} {en en' : Int}
end
end Go.Proofs.YtbbopomecanaoaaDoor.A
namespace Go.Proofs.YtbbopomecanaoaaDoor.A
open Go.RowKit Go.Proofs.YtbbopomecanaoaaDoorW.PrintWords Go.Proofs.YtbbopomecanaoaaDoorW.PrintLast Go.Proofs.YtbbopomecanaoaaDoorW.PrintMore Go.Proofs.YtbbopomecanaoaaDoor.XK
open Go.Proofs.YtbbopomecanaoaaDoor
set_option linter.unusedVariables false
set_option linter.unusedSimpArgs false
def LeF {α : Type} (f g : Nat → Int → Option α) : Prop := ∀ i l r, f i l = some r → g i l = some r
section
variable {ts : List Tk} {en : Int}
theorem chainL_mono {opd opd' : Nat → Int → Option Res} {op : ByteArray → Int} (ho : LeF opd opd') : ∀ (k : Nat) (x : E) (i : Nat) (l : Int) (r : Res), chainL ts en opd op k x i l = some r → chainL ts en opd' op (k + 1) x i l = some r
  | 0, x, i, l, r, h => by cases h
  | k + 1, x, i, l, r, h => by
    rw [chainL] at h ⊢
    by_cases h0 : op (pk ts en i).f3 = 0
    · rw [if_pos h0] at h ⊢; exact h
    rw [if_neg h0] at h ⊢
    cases h1 : opd (i + 1) l with
    | none => rw [h1] at h; cases h
    | some r1 =>
      rw [h1] at h
      rw [ho _ _ _ h1]
      cases r1 with
      | fail a => exact h
      | ok y i1 l1 => exact chainL_mono ho k _ _ _ _ h
theorem chainP_mono {opd opd' : Nat → Int → Option Res} {op : ByteArray → Int} (ho : LeF opd opd') (k : Nat) : LeF (chainP ts en opd op k) (chainP ts en opd' op (k + 1)) := by
  intro i l r h
  unfold chainP at h ⊢
  cases h1 : opd i l with
  | none => rw [h1] at h; cases h
  | some r1 =>
    rw [h1] at h
    rw [ho _ _ _ h1]
    cases r1 with
    | fail a => exact h
    | ok y i1 l1 => exact chainL_mono ho k _ _ _ _ h
theorem rel_mono {opd opd' : Nat → Int → Option Res} (ho : LeF opd opd') : LeF (relP ts en opd) (relP ts en opd') := by
  intro i l r h
  unfold relP at h ⊢
  cases h1 : opd i l with
  | none => rw [h1] at h; cases h
  | some r1 =>
    rw [h1] at h
    rw [ho _ _ _ h1]
    cases r1 with
    | fail a => exact h
    | ok y i1 l1 =>
      dsimp only at h ⊢
      by_cases h0 : cmpOp (pk ts en i1).f3 = 0
      · rw [if_pos h0] at h ⊢; exact h
      rw [if_neg h0] at h ⊢
      cases h2 : opd (i1 + 1) l1 with
      | none => rw [h2] at h; cases h
      | some r2 =>
        rw [h2] at h
        rw [ho _ _ _ h2]
        exact h
theorem not_mono {self self' rel rel' : Nat → Int → Option Res} (hs : LeF self self') (hr : LeF rel rel') : LeF (notP ts en self rel) (notP ts en self' rel') := by
  intro i l r h
  unfold notP at h ⊢
  by_cases h0 : (pk ts en i).f3.toList = [110, 111, 116]
  · rw [if_pos h0] at h ⊢
    cases h1 : self (i + 1) l with
    | none => rw [h1] at h; cases h
    | some r1 => rw [h1] at h; rw [hs _ _ _ h1]; exact h
  · rw [if_neg h0] at h ⊢; exact hr _ _ _ h
theorem args_mono {ex ex' : Nat → Int → Option Res} (he : LeF ex ex') : ∀ (n j : Nat) (xs : List E) (i : Nat) (l : Int) (r : ResL), argsP ts en ex n j xs i l = some r → argsP ts en ex' n j xs i l = some r
  | 0, j, xs, i, l, r, h => h
  | n + 1, j, xs, i, l, r, h => by
    rw [argsP] at h ⊢
    by_cases h0 : 0 < j ∧ (pk ts en i).f3.toList ≠ [44]
    · rw [if_pos h0] at h ⊢; exact h
    rw [if_neg h0] at h ⊢
    cases h1 : ex (if 0 < j then i + 1 else i) l with
    | none => rw [h1] at h; cases h
    | some r1 =>
      rw [h1] at h
      rw [he _ _ _ h1]
      cases r1 with
      | fail a => exact h
      | ok y i1 l1 => exact args_mono he n _ _ _ _ _ h
theorem call_mono {ex ex' : Nat → Int → Option Res} (he : LeF ex ex') (op : Int) : LeF (callP ts en ex op) (callP ts en ex' op) := by
  intro i l r h
  unfold callP at h ⊢
  by_cases h0 : (pk ts en i).f3.toList ≠ [40]
  · rw [if_pos h0] at h ⊢; exact h
  rw [if_neg h0] at h ⊢
  cases h1 : argsP ts en ex (arityN op) 0 [] (i + 1) l with
  | none => rw [h1] at h; cases h
  | some r1 =>
    rw [h1] at h
    rw [args_mono he _ _ _ _ _ _ h1]
    exact h
theorem prim_mono {ex ex' : Nat → Int → Option Res} (he : LeF ex ex') : LeF (primP ts en ex) (primP ts en ex') := by
  intro i l r h
  unfold primP at h ⊢
  by_cases h0 : (pk ts en i).f0 = 2
  · rw [if_pos h0] at h ⊢; exact h
  rw [if_neg h0] at h ⊢
  by_cases h1 : (pk ts en i).f3.toList = [116, 114, 117, 101]
  · rw [if_pos h1] at h ⊢; exact h
  rw [if_neg h1] at h ⊢
  by_cases h2 : (pk ts en i).f3.toList = [102, 97, 108, 115, 101]
  · rw [if_pos h2] at h ⊢; exact h
  rw [if_neg h2] at h ⊢
  by_cases h3 : (pk ts en i).f3.toList = [40]
  · rw [if_pos h3] at h ⊢
    cases h4 : ex (i + 1) l with
    | none => rw [h4] at h; cases h
    | some r1 => rw [h4] at h; rw [he _ _ _ h4]; exact h
  rw [if_neg h3] at h ⊢
  by_cases h4 : fnOp (pk ts en i).f3 ≠ 0
  · rw [if_pos h4] at h ⊢; exact call_mono he _ _ _ _ h
  rw [if_neg h4] at h ⊢
  exact h
theorem P_mono (ts : List Tk) (en : Int) : ∀ (k : Nat) (lv : Lv), LeF (P ts en k lv) (P ts en (k + 1) lv)
  | 0, lv => fun i l r h => by cases h
  | k + 1, lv => by
    cases lv with
    | or => exact chainP_mono (P_mono ts en k .xor) k
    | xor => exact chainP_mono (P_mono ts en k .and) k
    | and => exact chainP_mono (P_mono ts en k .not) k
    | not => exact not_mono (P_mono ts en k .not) (P_mono ts en k .rel)
    | rel => exact rel_mono (P_mono ts en k .sum)
    | sum => exact chainP_mono (P_mono ts en k .prim) k
    | prim => exact prim_mono (P_mono ts en k .or)
theorem P_up {k : Nat} {lv : Lv} {i : Nat} {l : Int} {r : Res} (h : P ts en k lv i l = some r) : ∀ n, P ts en (k + n) lv i l = some r
  | 0 => h
  | n + 1 => P_mono ts en (k + n) lv i l r (P_up h n)
def Says (ts : List Tk) (en : Int) (lv : Lv) (i : Nat) (l : Int) (x : E) (i' : Nat) (l' : Int) : Prop := ∃ k, P ts en k lv i l = some (.ok x i' l')
section
variable {i i' : Nat} {l l' : Int} {x : E}
theorem chain_stop {opd : Nat → Int → Option Res} {op : ByteArray → Int} (k : Nat) (h : opd i l = some (.ok x i' l')) (h0 : op (pk ts en i').f3 = 0) : chainP ts en opd op (k + 1) i l = some (.ok x i' l') := by
  unfold chainP
  rw [h]
  dsimp only
  rw [chainL, if_pos h0]
theorem Says.sum (h : Says ts en .prim i l x i' l') (h0 : sumOp (pk ts en i').f3 = 0) : Says ts en .sum i l x i' l' := by
  obtain ⟨k, hk⟩ := h
  exact ⟨k + 1 + 1, chain_stop k (P_up hk 1) h0⟩
theorem Says.rel (h : Says ts en .sum i l x i' l') (h0 : cmpOp (pk ts en i').f3 = 0) : Says ts en .rel i l x i' l' := by
  obtain ⟨k, hk⟩ := h
  refine ⟨k + 1, ?_⟩
  show relP ts en (P ts en k .sum) i l = _
  unfold relP
  rw [hk]
  dsimp only
  rw [if_pos h0]
theorem Says.not (h : Says ts en .rel i l x i' l') (h0 : (pk ts en i).f3.toList ≠ [110, 111, 116]) : Says ts en .not i l x i' l' := by
  obtain ⟨k, hk⟩ := h
  refine ⟨k + 1, ?_⟩
  show notP ts en (P ts en k .not) (P ts en k .rel) i l = _
  unfold notP
  rw [if_neg h0, hk]
theorem Says.and (h : Says ts en .not i l x i' l') (h0 : onlyOp [97, 110, 100] 5 (pk ts en i').f3 = 0) : Says ts en .and i l x i' l' := by
  obtain ⟨k, hk⟩ := h
  exact ⟨k + 1 + 1, chain_stop k (P_up hk 1) h0⟩
theorem Says.xor (h : Says ts en .and i l x i' l') (h0 : onlyOp [120, 111, 114] 7 (pk ts en i').f3 = 0) : Says ts en .xor i l x i' l' := by
  obtain ⟨k, hk⟩ := h
  exact ⟨k + 1 + 1, chain_stop k (P_up hk 1) h0⟩
theorem Says.or (h : Says ts en .xor i l x i' l') (h0 : onlyOp [111, 114] 6 (pk ts en i').f3 = 0) : Says ts en .or i l x i' l' := by
  obtain ⟨k, hk⟩ := h
  exact ⟨k + 1 + 1, chain_stop k (P_up hk 1) h0⟩
def Stop (s : ByteArray) : Prop := s.toList = [] ∨ s.toList = [41] ∨ s.toList = [44]
theorem Stop.ops {s : ByteArray} (h : Stop s) : sumOp s = 0 ∧ cmpOp s = 0 ∧ onlyOp [97, 110, 100] 5 s = 0 ∧ onlyOp [120, 111, 114] 7 s = 0 ∧ onlyOp [111, 114] 6 s = 0 := by
  unfold sumOp cmpOp onlyOp
  rcases h with h | h | h <;> rw [h] <;> exact ⟨rfl, rfl, rfl, rfl, rfl⟩
theorem Says.up (h : Says ts en .prim i l x i' l') (h0 : (pk ts en i).f3.toList ≠ [110, 111, 116]) (hs : Stop (pk ts en i').f3) : Says ts en .or i l x i' l' := by
  obtain ⟨a, b, c, d, e⟩ := hs.ops
  exact (((((h.sum a).rel b).not h0).and c).xor d).or e
end
end
end Go.Proofs.YtbbopomecanaoaaDoor.A
namespace Go.Proofs.YtbbopomecanaoaaDoor.A
open Go.RowKit Go.Proofs.YtbbopomecanaoaaDoorW.PrintWords Go.Proofs.YtbbopomecanaoaaDoorW.PrintLast Go.Proofs.YtbbopomecanaoaaDoorW.PrintMore Go.Proofs.YtbbopomecanaoaaDoor.XK
open Go.Proofs.YtbbopomecanaoaaDoor
set_option linter.unusedVariables false
set_option linter.unusedSimpArgs false
end Go.Proofs.YtbbopomecanaoaaDoor.A
namespace Go.Proofs.YtbbopomecanaoaaDoor.A
open Go.RowKit Go.Proofs.YtbbopomecanaoaaDoorW.PrintWords Go.Proofs.YtbbopomecanaoaaDoorW.PrintLast Go.Proofs.YtbbopomecanaoaaDoorW.PrintMore Go.Proofs.YtbbopomecanaoaaDoor.XK
open Go.Proofs.YtbbopomecanaoaaDoor
set_option linter.unusedVariables false
set_option linter.unusedSimpArgs false
abbrev Bare := Int × Int × ByteArray
abbrev wd (s : List UInt8) : Bare := (1, 0, bs s)
abbrev nm (n : Int) : Bare := (2, n, numB n)
def LexTo (t : List UInt8) (b : List Bare) : Prop := ∀ (post : List UInt8) (l : List Tk) (i : Nat), Sep post → ∃ ts, ts.map bare = b ∧ Lx l (t ++ post) i (l ++ ts) post (i + t.length)
def LexAny (t : List UInt8) (b : List Bare) : Prop := ∀ (post : List UInt8) (l : List Tk) (i : Nat), ∃ ts, ts.map bare = b ∧ Lx l (t ++ post) i (l ++ ts) post (i + t.length)
theorem LexAny.then_ {t1 t2 : List UInt8} {b1 b2 : List Bare} (h1 : LexAny t1 b1) (h2 : LexTo t2 b2) : LexTo (t1 ++ t2) (b1 ++ b2) := by
  intro post l i hp
  obtain ⟨s1, e1, x1⟩ := h1 (t2 ++ post) l i
  obtain ⟨s2, e2, x2⟩ := h2 post (l ++ s1) (i + t1.length) hp
  refine ⟨s1 ++ s2, by rw [List.map_append, e1, e2], ?_⟩
  have := x1.trans x2
  rwa [List.append_assoc l, ← List.append_assoc t1, Nat.add_assoc, ← List.length_append] at this
theorem LexTo.then_ {t1 t2 : List UInt8} {b1 b2 : List Bare} (h1 : LexTo t1 b1) (h2 : LexTo t2 b2) {c : UInt8} {cs : List UInt8} (hc : t2 = c :: cs) (hw : wordB (cI c) = false) : LexTo (t1 ++ t2) (b1 ++ b2) := by
  intro post l i hp
  obtain ⟨s1, e1, x1⟩ := h1 (t2 ++ post) l i (fun d ds e => by rw [hc] at e; cases e; exact hw)
  obtain ⟨s2, e2, x2⟩ := h2 post (l ++ s1) (i + t1.length) hp
  refine ⟨s1 ++ s2, by rw [List.map_append, e1, e2], ?_⟩
  have := x1.trans x2
  rwa [List.append_assoc l, ← List.append_assoc t1, Nat.add_assoc, ← List.length_append] at this
end Go.Proofs.YtbbopomecanaoaaDoor.A
namespace Go.Proofs.YtbbopomecanaoaaDoor.A
open Go.RowKit Go.Proofs.YtbbopomecanaoaaDoorW.PrintWords Go.Proofs.YtbbopomecanaoaaDoorW.PrintLast Go.Proofs.YtbbopomecanaoaaDoorW.PrintMore Go.Proofs.YtbbopomecanaoaaDoor.XK
open Go.Proofs.YtbbopomecanaoaaDoor
set_option linter.unusedVariables false
set_option linter.unusedSimpArgs false
end Go.Proofs.YtbbopomecanaoaaDoor.A
namespace Go.Proofs.YtbbopomecanaoaaDoor.A
open Go.RowKit Go.Proofs.YtbbopomecanaoaaDoorW.PrintWords Go.Proofs.YtbbopomecanaoaaDoorW.PrintLast Go.Proofs.YtbbopomecanaoaaDoorW.PrintMore Go.Proofs.YtbbopomecanaoaaDoor.XK
open Go.Proofs.YtbbopomecanaoaaDoor
set_option linter.unusedVariables false
set_option linter.unusedSimpArgs false
def At (ts : List Tk) (i : Nat) (b : List Bare) : Prop := ∃ rest, (ts.map bare).drop i = b ++ rest
section
variable {ts : List Tk} {en : Int} {i : Nat}
theorem At.app {a b : List Bare} (h : At ts i (a ++ b)) : At ts i a ∧ At ts (i + a.length) b := by
  obtain ⟨rest, h⟩ := h
  refine ⟨⟨b ++ rest, by rw [h, List.append_assoc]⟩, rest, ?_⟩
  rw [← List.drop_drop, h, List.append_assoc, List.drop_left]
theorem At.tail {b0 : Bare} {b : List Bare} (h : At ts i (b0 :: b)) : At ts (i + 1) b := (At.app (a := [b0]) h).2
end
end Go.Proofs.YtbbopomecanaoaaDoor.A
namespace Go.Proofs.YtbbopomecanaoaaDoor.A
open Go.RowKit Go.Proofs.YtbbopomecanaoaaDoorW.PrintWords Go.Proofs.YtbbopomecanaoaaDoorW.PrintLast Go.Proofs.YtbbopomecanaoaaDoorW.PrintMore Go.Proofs.YtbbopomecanaoaaDoor.XK
open Go.Proofs.YtbbopomecanaoaaDoor
attribute [local go_sem] max2_int min2_int max_two min_two max_three min_three max_four min_four fld1 fld3
set_option linter.unusedVariables false
set_option linter.unusedSimpArgs false
structure Bx (x : E) (A : Option Addr) (c xb : Nat) (w : World) : Prop where
  bx : w.heap[xb]? = some (.cells #[.int .i64 x.f0, .int .i64 x.f1, .string x.f2, .slice A x.f3.length c] 24 (0, 0))
  le : x.f3.length ≤ c
  rd : (k24).C w A x.f3.length x.f3
theorem Bx.below {x : E} {A : Option Addr} {c xb : Nat} {w w1 : World} (h : Bx x A c xb w) (hb : Below w.heap.size w w1) : Bx x A c xb w1 := ⟨blk_below h.bx hb, h.le, Kd.C_below h.rd hb⟩
theorem Bx.c0 {x : E} {A : Option Addr} {c xb : Nat} {w : World} (h : Bx x A c xb w) : w.cell? ⟨xb, 0, none⟩ = some (.int .i64 x.f0) := blk_cell h.bx 0
theorem Bx.c1 {x : E} {A : Option Addr} {c xb : Nat} {w : World} (h : Bx x A c xb w) : w.cell? ⟨xb, 1, none⟩ = some (.int .i64 x.f1) := blk_cell h.bx 1
theorem Bx.c2 {x : E} {A : Option Addr} {c xb : Nat} {w : World} (h : Bx x A c xb w) : w.cell? ⟨xb, 2, none⟩ = some (.string x.f2) := blk_cell h.bx 2
theorem Bx.c3 {x : E} {A : Option Addr} {c xb : Nat} {w : World} (h : Bx x A c xb w) : w.cell? ⟨xb, 3, none⟩ = some (.slice A x.f3.length c) := blk_cell h.bx 3
end Go.Proofs.YtbbopomecanaoaaDoor.A
namespace Go.Proofs.YtbbopomecanaoaaDoor.A
open Go.ChangeShapes Go.WideShapes Go.ChangeAt Go.RowKit Go.Deep Go.Proofs.YtbbopomecanaoaaDoorW.PrintWords Go.Proofs.YtbbopomecanaoaaDoor.XK
set_option linter.unusedVariables false
section
variable {H : Type} {enc : TypeId × Value → H} {W : World} {spare : Nat → Bool} {held : Bool}
theorem cells24 : Tryd.prog.cellsOf 24 = 4 := by kernel_rfl
theorem cells3 : Tryd.prog.cellsOf 3 = 1 := by kernel_rfl
theorem cells9 : Tryd.prog.cellsOf 9 = 1 := by kernel_rfl
theorem cells22 : Tryd.prog.cellsOf 22 = 1 := by kernel_rfl
set_option maxRecDepth 100000 in
theorem trod_expr : ∀ (m fuel : Nat), fuel ≤ m → ∀ (cs : List Value) (y : DataW H × List MemPlace), DataW.trod enc Tryd.prog W 0 spare held fuel 24 cs = some y → ∃ x : E, (k24).K W x cs
  | 0, fuel, hm, cs, y, h => by
    obtain ⟨xs, n, hfu, -⟩ := DataW.trod_struct Tryd.underlying24 h
    omega
  | m + 1, fuel, hm, cs, y, h => by
    obtain ⟨xs, n, hfu, hx, hl, hlen, hf⟩ := DataW.trod_struct Tryd.underlying24 h
    rw [cells24] at hl
    have h0 : DataW.trod enc Tryd.prog W 0 spare held n 3 ((cs.drop 0).take (Tryd.prog.cellsOf 3)) = xs[0]? := hf 0 _ rfl
    have h1 : DataW.trod enc Tryd.prog W 0 spare held n 3 ((cs.drop 1).take (Tryd.prog.cellsOf 3)) = xs[1]? := hf 1 _ rfl
    have h2 : DataW.trod enc Tryd.prog W 0 spare held n 9 ((cs.drop 2).take (Tryd.prog.cellsOf 9)) = xs[2]? := hf 2 _ rfl
    have h3 : DataW.trod enc Tryd.prog W 0 spare held n 22 ((cs.drop 3).take (Tryd.prog.cellsOf 22)) = xs[3]? := hf 3 _ rfl
    rw [cells3] at h0 h1
    rw [cells9] at h2
    rw [cells22] at h3
    match cs, hl with
    | [c0, c1, c2, c3], _ =>
      match xs, hlen with
      | [y0, y1, y2, y3], _ =>
        obtain ⟨a, i0, -, -⟩ := DataW.trod_int Tryd.underlying3 (show DataW.trod _ _ _ _ _ _ n 3 [c0] = some y0 from h0)
        obtain ⟨b, i1, -, -⟩ := DataW.trod_int Tryd.underlying3 (show DataW.trod _ _ _ _ _ _ n 3 [c1] = some y1 from h1)
        obtain ⟨s, i2, -, -⟩ := DataW.trod_string Tryd.underlying9 (show DataW.trod _ _ _ _ _ _ n 9 [c2] = some y2 from h2)
        have h3 : DataW.trod enc Tryd.prog W 0 spare held n 22 [c3] = some y3 := h3
        simp only [List.cons.injEq, and_true] at i0 i1 i2
        subst i0 i1 i2
        rcases DataW.trod_slice Tryd.underlying22 h3 with ⟨e3, -⟩ | ⟨ad, len, cap, elems, rest, n2, hn2, e3, -, -, hlc, hcm, hel, hall, -, -⟩
        · replace e3 := (List.cons.inj e3).1
          subst e3
          exact ⟨⟨a, b, s, []⟩, k24_mk W ⟨a, b, s, []⟩ (Nat.le_refl 0) (Kd.C_nil k24 W)⟩
        · replace e3 := (List.cons.inj e3).1
          subst e3
          rw [cells24] at hall
          have hx : ∀ i, i < len → ∃ x : E, ∃ cs', W.cells? 0 (ad.add (i * 4)) 4 = some cs' ∧ (k24).K W x cs' := by
            intro i hi
            have h4 := hall i hi
            rw [List.getElem?_eq_getElem (by omega : i < elems.length)] at h4
            obtain ⟨cs', hc, ht⟩ := Option.bind_eq_some_iff.mp h4
            obtain ⟨x, hK⟩ := trod_expr m n2 (by omega) cs' _ ht
            exact ⟨x, cs', hc, hK⟩
          have hL : ∃ l : List E, l.length = len ∧ ∀ (j : Nat) (p : E), l[j]? = some p → ∃ cs', W.cells? 0 (ad.add (j * 4)) 4 = some cs' ∧ (k24).K W p cs' := by
            refine ⟨(List.range len).map fun i => if h : i < len then Classical.choose (hx i h) else z24, by simp, fun j p hp => ?_⟩
            rw [List.getElem?_map] at hp
            rcases Nat.lt_or_ge j len with hj | hj
            · rw [List.getElem?_range hj, Option.map_some, dif_pos hj] at hp
              have e := Option.some.inj hp
              rw [← e]
              exact Classical.choose_spec (hx j hj)
            · rw [List.getElem?_eq_none (by simpa using hj)] at hp
              cases hp
          obtain ⟨l, hll, hlr⟩ := hL
          have hmx : maxLen ≤ 9223372036854775807 := by decide
          have hl9 : l.length ≤ 9223372036854775807 := by omega
          have hC : (k24).C W (some ad) l.length l := ⟨rfl, hl9, fun _ => ⟨ad, rfl, fun j p hp => by
            obtain ⟨cs', hc, hK⟩ := hlr j p hp
            obtain ⟨_, hcl, hat⟩ := World.cells?_some hc
            refine ⟨cs', hcl, hK, fun i u hu => ?_⟩
            have hi : i < 4 := by
              rcases Nat.lt_or_ge i cs'.length with h5 | h5
              · omega
              · rw [List.getElem?_eq_none h5] at hu; cases hu
            have := hat i hi
            rw [hu] at this
            show W.cell? (ad.add (j * 4 + i)) = some u
            rw [← Go.Deep.add_add]
            exact this⟩⟩
          have hK := k24_mk W ⟨a, b, s, l⟩ (A3 := some ad) (c3 := cap) (by show l.length ≤ cap; omega) hC
          refine ⟨⟨a, b, s, l⟩, ?_⟩
          rw [← hll]
          exact hK
set_option maxRecDepth 100000 in
theorem expr_arg {b0 : Nat} {v : Value} {d : DataW H} {p : List MemPlace} {r : Reach} (hv : Value.okWide Tryd.prog W r b0 24 v) (h : DataW.Trod enc Tryd.prog W 0 spare held 24 v d p) :
    ∃ (x : E) (A : Option Addr) (c : Nat), v = .agg #[.int .i64 x.f0, .int .i64 x.f1, .string x.f2, .slice A x.f3.length c] ∧ x.f3.length ≤ c ∧ (k24).C W A x.f3.length x.f3 := by
  obtain ⟨cs, rfl, hsz⟩ := okWide_struct Tryd.underlying24 hv
  obtain ⟨fuel, hf⟩ := h
  have hf : DataW.trod enc Tryd.prog W 0 spare held fuel 24 cs.toList = some (d, p) := hf
  obtain ⟨x, hK⟩ := trod_expr fuel fuel (Nat.le_refl _) _ _ hf
  obtain ⟨A3, c3, e, hl, hC⟩ := k24_open hK
  refine ⟨x, A3, c3, ?_, hl, hC⟩
  obtain ⟨cl⟩ := cs
  have e : cl = _ := e
  rw [e]
end
end Go.Proofs.YtbbopomecanaoaaDoor.A
namespace Go.Proofs.YtbbopomecanaoaaDoor.A
open Go.RowKit Go.Proofs.YtbbopomecanaoaaDoorW.PrintWords Go.Proofs.YtbbopomecanaoaaDoorW.PrintLast Go.Proofs.YtbbopomecanaoaaDoorW.PrintMore Go.Proofs.YtbbopomecanaoaaDoor.XK
open Go.Proofs.YtbbopomecanaoaaDoor
attribute [local go_sem] max2_int min2_int max_two min_two max_three min_three max_four min_four fld1 fld3
set_option linter.unusedVariables false
set_option linter.unusedSimpArgs false
set_option maxRecDepth 100000 in
set_option maxHeartbeats 4000000 in
theorem EquationFormats_walk (x : E) (A : Option Addr) (c : Nat) (W : World) (hw : WF W) (hle : x.f3.length ≤ c) (hC : (k24).C W A x.f3.length x.f3) :
    Calls Tryd.prog 3 #[.agg (cE x (.slice A x.f3.length c))] W fun e w' => e = .returned (.bool true) ∧ Below W.heap.size W w' := by
  have HK := Aside0.mk (fun w1 h => known_calls w1 (h : WF w1))
  have HA := below_alloc (Below.refl W.heap.size W) (.cells (cE x (.slice A x.f3.length c)) 24)
  have HW := Aside0.mk (WF_stay hw HA)
  have BX : Aside0 (Bx x A c W.heap.size (W.alloc (.cells (cE x (.slice A x.f3.length c)) 24))) := ⟨heap_alloc_new W _, hle, Kd.C_below hC HA⟩
  have HB := Aside0.mk HA
  clear HA hw hle hC
  obtain ⟨k, hk⟩ := small_f 30 x 1 (by decide) (by decide)
  have HSM := Aside0.mk (substationlaw26_small.calls k _ _ _ _ _ _ 1 _ _ BX.out.rd BX.out.le hk)
  clear hk
  have x0 := BX.out.c0
  have x1 := BX.out.c1
  have x2 := BX.out.c2
  have x3 := BX.out.c3
  cases hsm : smF 30 x with
  | false =>
    rw [hsm] at HSM
    clear hsm
    go_enter Tryd.func3, Tryd.ntmps3
    go_wp2_with fail
    with_reducible refine HSM.out.mono ?_
    rintro e w2 ⟨rfl, HD⟩
    replace HB := Aside0.mk (below_step HB.out HD)
    replace HW := Aside0.mk (WF_stay HW.out HD)
    clear HD HSM x0 x1 x2 x3
    go_wp2_with fail
    with_reducible refine (HK.out _ HW.out).mono ?_
    rintro e w3 ⟨rfl, HD⟩
    replace HB := Aside0.mk (below_step HB.out HD)
    clear HD HK
    go_wp2_with fail
    go_ret
    exact ⟨rfl, HB.out⟩
  | true =>
    obtain ⟨kv, hkv⟩ := rvalid 30 (by decide) x hsm
    obtain ⟨kf, hkf⟩ := rformat 30 (by decide) x hsm
    rw [hsm] at HSM
    have HRV := Aside0.mk hkv
    have HRF := Aside0.mk hkf
    clear hsm hkv hkf
    have HV := Aside0.mk (fun w1 h => valid_calls x A c w1 h)
    have HF := Aside0.mk (fun w1 h h' => Format_calls x A c w1 h h')
    generalize validB x = b at *
    generalize FormatB x = f at *
    have q1 : (b == b) = true := by simp
    have q2 : (f.toList == f.toList) = true := by simp
    go_enter Tryd.func3, Tryd.ntmps3
    go_wp2_with fail
    with_reducible refine HSM.out.mono ?_
    rintro e w2 ⟨rfl, HD⟩
    replace HB := Aside0.mk (below_step HB.out HD)
    replace HW := Aside0.mk (WF_stay HW.out HD)
    replace BX := Aside0.mk (BX.out.below HD)
    clear HD HSM x0 x1 x2 x3
    have x0 := BX.out.c0
    have x1 := BX.out.c1
    have x2 := BX.out.c2
    have x3 := BX.out.c3
    go_wp2_with fail
    refine Q.q_start (by kernel_rfl) (by kernel_rfl) ?_
    refine Q.q_call (N := some 7) (v := .bool true) (a' := ?_) 13 #[] rfl (by rfl) Tryd.func13 (by kernel_rfl) rfl (by rfl) (by first | rfl | (simp only [List.map_toArray, List.map_cons, List.map_nil]; done) | (simp only [List.map_toArray, List.map_cons, List.map_nil]; rfl)) (fun w' hb => (HK.out w' (WF_stay HW.out hb)).mono fun e w'' ⟨he, hb'⟩ => ⟨he, below_step hb hb'⟩) ?_ ?_
    rotate_left
    · simp only [Act.put, List.setIfInBounds_toArray, List.set_cons_zero, List.set_cons_succ, i64_w, i32_w]
      rfl
    refine Q.q_value (N := some 8) (v := ?_) (a' := ?_) rfl (by rfl) ?_ ?_ ?_
    rotate_left
    · intro w' hb
      clear hb
      go_simp
      with_reducible rfl
    rotate_left
    · simp only [Act.put, List.setIfInBounds_toArray, List.set_cons_zero, List.set_cons_succ, i64_w, i32_w]
      rfl
    refine Q.q_value (N := some 9) (v := ?_) (a' := ?_) rfl (by rfl) ?_ ?_ ?_
    rotate_left
    · intro w' hb
      have s0 := pw_cell_below hb x0
      have s1 := pw_cell_below hb x1
      have s2 := pw_cell_below hb x2
      have s3 := pw_cell_below hb x3
      clear hb
      go_simp
      with_reducible rfl
    rotate_left
    · simp only [Act.put, List.setIfInBounds_toArray, List.set_cons_zero, List.set_cons_succ, i64_w, i32_w]
      rfl
    refine Q.q_call (N := some 10) (v := .bool b) (a' := ?_) 14 #[.agg (cE x (.slice A x.f3.length c))] rfl (by rfl) Tryd.func14 (by kernel_rfl) rfl (by rfl) (by first | rfl | (simp only [List.map_toArray, List.map_cons, List.map_nil]; done) | (simp only [List.map_toArray, List.map_cons, List.map_nil]; rfl)) (fun w' hb => (HV.out w' (Kd.C_below BX.out.rd hb)).mono fun e w'' ⟨he, hb'⟩ => ⟨he, below_step hb hb'⟩) ?_ ?_
    rotate_left
    · simp only [Act.put, List.setIfInBounds_toArray, List.set_cons_zero, List.set_cons_succ, i64_w, i32_w]
      rfl
    refine Q.q_value (N := some 11) (v := ?_) (a' := ?_) rfl (by rfl) ?_ ?_ ?_
    rotate_left
    · intro w' hb
      have s0 := pw_cell_below hb x0
      have s1 := pw_cell_below hb x1
      have s2 := pw_cell_below hb x2
      have s3 := pw_cell_below hb x3
      clear hb
      go_simp
      with_reducible rfl
    rotate_left
    · simp only [Act.put, List.setIfInBounds_toArray, List.set_cons_zero, List.set_cons_succ, i64_w, i32_w]
      rfl
    refine Q.q_call (N := some 12) (v := .bool b) (a' := ?_) 15 #[.agg (cE x (.slice A x.f3.length c))] rfl (by rfl) Tryd.func15 (by kernel_rfl) rfl (by rfl) (by first | rfl | (simp only [List.map_toArray, List.map_cons, List.map_nil]; done) | (simp only [List.map_toArray, List.map_cons, List.map_nil]; rfl)) (fun w' hb => (substationref26_Valid.calls kv _ _ _ _ _ _ b w' (Kd.C_below BX.out.rd hb) BX.out.le HRV.out).mono fun e w'' ⟨he, hb'⟩ => ⟨he, below_step hb hb'⟩) ?_ ?_
    rotate_left
    · simp only [Act.put, List.setIfInBounds_toArray, List.set_cons_zero, List.set_cons_succ, i64_w, i32_w]
      rfl
    refine Q.q_value (N := some 13) (v := ?_) (a' := ?_) rfl (by rfl) ?_ ?_ ?_
    rotate_left
    · intro w' hb
      clear hb
      go_simp
      with_reducible rfl
    rotate_left
    · simp only [Act.put, List.setIfInBounds_toArray, List.set_cons_zero, List.set_cons_succ, i64_w, i32_w]
      rfl
    refine Q.q_value (N := some 14) (v := ?_) (a' := ?_) rfl (by rfl) ?_ ?_ ?_
    rotate_left
    · intro w' hb
      clear hb
      go_simp
      with_reducible rfl
    rotate_left
    · simp only [Act.put, List.setIfInBounds_toArray, List.set_cons_zero, List.set_cons_succ, i64_w, i32_w]
      rfl
    refine Q.q_value (N := some 15) (v := ?_) (a' := ?_) rfl (by rfl) ?_ ?_ ?_
    rotate_left
    · intro w' hb
      clear hb
      go_simp
      with_reducible rfl
    rotate_left
    · simp only [Act.put, List.setIfInBounds_toArray, List.set_cons_zero, List.set_cons_succ, i64_w, i32_w]
      rfl
    refine Q.q_value (N := some 16) (v := ?_) (a' := ?_) rfl (by rfl) ?_ ?_ ?_
    rotate_left
    · intro w' hb
      have s0 := pw_cell_below hb x0
      have s1 := pw_cell_below hb x1
      have s2 := pw_cell_below hb x2
      have s3 := pw_cell_below hb x3
      clear hb
      go_simp
      with_reducible rfl
    rotate_left
    · simp only [Act.put, List.setIfInBounds_toArray, List.set_cons_zero, List.set_cons_succ, i64_w, i32_w]
      rfl
    refine Q.q_call (N := some 17) (v := .string f) (a' := ?_) 16 #[.agg (cE x (.slice A x.f3.length c))] rfl (by rfl) Tryd.func16 (by kernel_rfl) rfl (by rfl) (by first | rfl | (simp only [List.map_toArray, List.map_cons, List.map_nil]; done) | (simp only [List.map_toArray, List.map_cons, List.map_nil]; rfl)) (fun w' hb => (HF.out w' (Kd.C_below BX.out.rd hb) (WF_stay HW.out hb)).mono fun e w'' ⟨he, hb'⟩ => ⟨he, below_step hb hb'⟩) ?_ ?_
    rotate_left
    · simp only [Act.put, List.setIfInBounds_toArray, List.set_cons_zero, List.set_cons_succ, i64_w, i32_w]
      rfl
    refine Q.q_value (N := some 18) (v := ?_) (a' := ?_) rfl (by rfl) ?_ ?_ ?_
    rotate_left
    · intro w' hb
      have s0 := pw_cell_below hb x0
      have s1 := pw_cell_below hb x1
      have s2 := pw_cell_below hb x2
      have s3 := pw_cell_below hb x3
      clear hb
      go_simp
      with_reducible rfl
    rotate_left
    · simp only [Act.put, List.setIfInBounds_toArray, List.set_cons_zero, List.set_cons_succ, i64_w, i32_w]
      rfl
    refine Q.q_call (N := some 19) (v := .string f) (a' := ?_) 17 #[.agg (cE x (.slice A x.f3.length c))] rfl (by rfl) Tryd.func17 (by kernel_rfl) rfl (by rfl) (by first | rfl | (simp only [List.map_toArray, List.map_cons, List.map_nil]; done) | (simp only [List.map_toArray, List.map_cons, List.map_nil]; rfl)) (fun w' hb => (substationref26_Format.calls kf _ _ _ _ _ _ f w' (Kd.C_below BX.out.rd hb) BX.out.le HRF.out).mono fun e w'' ⟨he, hb'⟩ => ⟨he, below_step hb hb'⟩) ?_ ?_
    rotate_left
    · simp only [Act.put, List.setIfInBounds_toArray, List.set_cons_zero, List.set_cons_succ, i64_w, i32_w]
      rfl
    refine Q.q_value (N := some 20) (v := ?_) (a' := ?_) rfl (by rfl) ?_ ?_ ?_
    rotate_left
    · intro w' hb
      clear hb
      go_simp
      with_reducible rfl
    rotate_left
    · simp only [Act.put, List.setIfInBounds_toArray, List.set_cons_zero, List.set_cons_succ, i64_w, i32_w]
      rfl
    refine Q.q_value (N := some 21) (v := ?_) (a' := ?_) rfl (by rfl) ?_ ?_ ?_
    rotate_left
    · intro w' hb
      clear hb
      go_simp
      with_reducible rfl
    rotate_left
    · simp only [Act.put, List.setIfInBounds_toArray, List.set_cons_zero, List.set_cons_succ, i64_w, i32_w]
      rfl
    refine Q.q_value (N := some 2) (v := ?_) (a' := ?_) rfl (by rfl) ?_ ?_ ?_
    rotate_left
    · intro w' hb
      clear hb
      go_simp
      with_reducible rfl
    rotate_left
    · simp only [Act.put, List.setIfInBounds_toArray, List.set_cons_zero, List.set_cons_succ, i64_w, i32_w]
      rfl
    refine wpQuiet_nil ?_
    intro w9 HB9
    replace HB := Aside0.mk (below_step HB.out HB9)
    clear HB9 x0 x1 x2 x3
    go_wp2_with fail
    go_ret
    exact ⟨by first | rfl | simp, HB.out⟩
end Go.Proofs.YtbbopomecanaoaaDoor.A
namespace Go.Proofs.YtbbopomecanaoaaDoor.A
open Go.ChangeShapes Go.WideShapes Go.ChangeAt Go.RowKit
set_option linter.unusedVariables false
abbrev laid1 : List (String × DataW Unit) := [("math/bits.deBruijn32tab", Rows.laid_math_bits_deBruijn32tab), ("math/bits.deBruijn64tab", Rows.laid_math_bits_deBruijn64tab), ("internal/strconv.uint64pow10", Rows.laid_internal_strconv_uint64pow10), ("strconv.ErrRange", Rows.laid_strconv_ErrRange), ("strconv.ErrSyntax", Rows.laid_strconv_ErrSyntax)]
theorem door_met (os : Os) (args : Array Value) : laidMetH Tryd.prog laid1 ((World.doorLaid Tryd.prog 400 os).forCall (fun _ _ => 0) ⟨#[], args, []⟩).memory :=
  laidMetH_of_parts3 (fuel := 8) (laidMet_of_run' 8 (by kernel_rfl) (by kernel_rfl)) (by kernel_rfl) (by kernel_rfl)
theorem gPow : Tryd.prog.globalNamed "internal/strconv.uint64pow10" = some 1 := by kernel_rfl
theorem tPow : (Tryd.prog.globals[1]?).map (·.type) = some 142 := by kernel_rfl
theorem gErr : Tryd.prog.globalNamed "strconv.ErrRange" = some 3 := by kernel_rfl
theorem tErr : (Tryd.prog.globals[3]?).map (·.type) = some 128 := by kernel_rfl
theorem star : "*" ++ "errors.errorString" = "*errors.errorString" := by decide
theorem rowErr (u : TypeId) (h : Tryd.prog.typeName? 3 u = some "*errors.errorString") : u = 164 :=
  typeName_ptr_named (nm := "errors.errorString") (by rw [star]; kernel_rfl) (by kernel_rfl) (by decide) u (by rw [star]; exact h)
theorem powData : (Rows.laid_internal_strconv_uint64pow10 : DataW Unit) = Lib.tabData .u64 Lib.pow10Tab := by kernel_rfl
theorem of_laid {W : World} (h : laidMetH Tryd.prog laid1 W) : WF W := by
  rw [MakeChecks.laidMetH_plain _ _ _ (by kernel_rfl)] at h
  have h2 := h.tail.tail
  refine ⟨?_, ?_⟩
  · obtain ⟨a0, s0, hv0, -, -, -⟩ := laid_sentinel h2.tail gErr tErr Tryd.underlying128 rowErr Tryd.underlying164 Tryd.underlying166 rfl rfl Tryd.underlying9 (by kernel_rfl) (by kernel_rfl)
    exact ⟨_, by have h0 := World.var?_cell gErr hv0 0; simpa using h0, Or.inr ⟨_, _, rfl⟩⟩
  · rw [powData] at h2
    exact Lib.tabIs_of_head gPow tPow Tryd.underlying142 Tryd.underlying135 (by kernel_rfl) (by kernel_rfl) h2
end Go.Proofs.YtbbopomecanaoaaDoor.A
