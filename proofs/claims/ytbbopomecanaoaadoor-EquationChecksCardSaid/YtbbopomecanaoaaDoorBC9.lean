import Derived.Test.YtbbopomecanaoaaDoorBC8
/- The texts that the law's proof stands on, merged and pruned by program. No condition. -/
namespace Go.Proofs.YtbbopomecanaoaaDoor.A
open Go.RowKit Go.Proofs.YtbbopomecanaoaaDoorW.PrintWords Go.Proofs.YtbbopomecanaoaaDoorW.PrintLast Go.Proofs.YtbbopomecanaoaaDoorW.PrintMore Go.Proofs.YtbbopomecanaoaaDoor.XK
open Go.Proofs.YtbbopomecanaoaaDoor
set_option linter.unusedVariables false
set_option linter.unusedSimpArgs false
theorem tol (s : ByteArray) : s.toList = s.data.toList := by
  have h := bs_list s.data.toList
  rwa [show bs s.data.toList = s from by cases s; simp [bs]] at h
theorem tol_nil (s : ByteArray) : s.toList = [] ↔ s.size = 0 := by
  rw [tol, show s.size = s.data.toList.length from rfl]
  exact List.length_eq_zero_iff.symm
theorem rarity (op : Int) : substationref26_Arity.f 2 op = some (arityI op) := by
  by_cases h : 1 ≤ op ∧ op ≤ 22
  · have : op = 1 ∨ op = 2 ∨ op = 3 ∨ op = 4 ∨ op = 5 ∨ op = 6 ∨ op = 7 ∨ op = 8 ∨ op = 9 ∨ op = 10 ∨ op = 11 ∨ op = 12 ∨ op = 13 ∨ op = 14 ∨ op = 15 ∨ op = 16 ∨ op = 17 ∨ op = 18 ∨ op = 19 ∨ op = 20 ∨ op = 21 ∨ op = 22 := by omega
    rcases this with rfl | rfl | rfl | rfl | rfl | rfl | rfl | rfl | rfl | rfl | rfl | rfl | rfl | rfl | rfl | rfl | rfl | rfl | rfl | rfl | rfl | rfl <;> decide
  · have e2 : arityI op = -1 := by
      unfold arityI
      rw [if_neg (by omega), if_neg (by omega), if_neg (by omega), if_neg (by omega)]
    rw [e2]
    unfold substationref26_Arity.f
    by_cases h1 : op ≥ 1
    · rw [if_pos h1, decide_eq_false (by omega), substationref26_Arity.j0, if_neg (by decide), if_neg (by omega), if_neg (by omega), if_pos (by omega), decide_eq_false (by omega), substationref26_Arity.j1, if_neg (by decide), if_neg (by omega), if_pos (by omega), if_neg (by omega)]
    · rw [if_neg h1, substationref26_Arity.j0, if_neg (by decide), if_neg (by omega), if_neg (by omega), if_neg (by omega), substationref26_Arity.j1, if_neg (by decide), if_neg (by omega), if_neg (by omega)]
theorem bt_at (s : ByteArray) (i : Nat) (h : i < s.size) : bt s (i : Int) = byteAt s i := by
  unfold bt byteAt
  rw [dif_pos (show (i : Int).toNat < s.size from h)]
  show ((s.data[i]'h).toNat : Int) = ((s.data[i]!).toNat : Int)
  rw [getElem!_pos s.data i h]
theorem rletter (b : Int) : substationref26_letter.f b = some (letterB b) := by
  unfold substationref26_letter.f letterB
  by_cases h1 : b ≥ 97 <;> by_cases h2 : b ≤ 122 <;> by_cases h3 : b ≥ 65 <;> by_cases h4 : b ≤ 90 <;> simp [h1, h2, h3, h4] <;> omega
theorem rdigit (b : Int) : substationref26_digit.f b = some (digitB b) := by
  unfold substationref26_digit.f digitB
  by_cases h1 : b ≥ 48 <;> by_cases h2 : b ≤ 57 <;> simp [h1, h2] <;> omega
theorem rname_loop (s : ByteArray) (hs : s.size ≤ 1000) : ∀ (n i : Nat), 1 ≤ i → i + n = s.size → substationref26_Name.l0 (n + 1) s (i : Int) = some (nameGo s n i)
  | 0, i, h1, h => by
    rw [substationref26_Name.l0, if_neg (by omega), nameGo]
  | n + 1, i, h1, h => by
    have ih := rname_loop s hs n (i + 1) (by omega) (by omega)
    have e : wrap64 ((i : Int) + 1) = ((i + 1 : Nat) : Int) := by rw [w64 (by omega) (by omega)]; rfl
    rw [substationref26_Name.l0, if_pos (by omega), if_pos (by omega), bt_at s i (by omega), rletter, rdigit, Option.bind_some, Option.bind_some, e, ih, nameGo, if_pos (show i < s.size by omega)]
    have e0 : (i == 0) = false := by simp; omega
    rw [e0]
    unfold nameOk
    cases letterB (byteAt s i) <;> cases digitB (byteAt s i) <;> by_cases h95 : byteAt s i = 95 <;> simp [h95]
theorem res_loop (s : ByteArray) (W : List ByteArray) (hW : W.length ≤ 1000) : ∀ (rest pre : List ByteArray), pre ++ rest = W → substationref26_Reserved.l0 (rest.length + 1) s W (W.length : Int) (pre.length : Int) = some (rest.any fun w => decide (w.toList = s.toList))
  | [], pre, e => by
    rw [substationref26_Reserved.l0, if_neg (by rw [← e]; simp)]
    rfl
  | y :: ys, pre, e => by
    have ih := res_loop s W hW ys (pre ++ [y]) (by rw [← e]; simp)
    have hlen : (pre.length : Int) < (W.length : Int) := by rw [← e]; simp; omega
    have e1 : rdOf ByteArray.empty W (pre.length : Int) = y := by rw [← e]; unfold rdOf; simp
    rw [List.length_cons, substationref26_Reserved.l0, if_pos hlen, if_pos (by omega), if_pos hlen, e1, w64 (by omega) (by omega), ← pre_len pre y, ih, List.any_cons]
    by_cases h : y.toList = s.toList <;> simp [h]
theorem reserved_is (s : ByteArray) : substationref26_Reserved.f 17 s = some (resB s) := by
  unfold substationref26_Reserved.f substationref26_Words.f
  rw [Option.bind_some]
  refine (res_loop s _ (by decide) _ [] rfl).trans (congrArg some ?_)
  simp only [List.any_cons, List.any_nil, tol]
  unfold resB equation_reserved.f
  rw [tol]
  generalize s.data.toList = l
  by_cases h : l = [116, 114, 117, 101] ∨ l = [102, 97, 108, 115, 101] ∨ l = [110, 111, 116] ∨ l = [97, 110, 100] ∨ l = [111, 114] ∨ l = [120, 111, 114] ∨ l = [109, 105, 110] ∨ l = [109, 97, 120] ∨ l = [97, 98, 115] ∨ l = [105, 102] ∨ l = [114, 105, 115, 101] ∨ l = [102, 97, 108, 108] ∨ l = [100, 101, 108, 97, 121] ∨ l = [104, 111, 108, 100] ∨ l = [108, 97, 116, 99, 104] ∨ l = [99, 111, 117, 110, 116]
  · rcases h with rfl | rfl | rfl | rfl | rfl | rfl | rfl | rfl | rfl | rfl | rfl | rfl | rfl | rfl | rfl | rfl <;> decide
  · simp only [not_or] at h
    obtain ⟨h1, h2, h3, h4, h5, h6, h7, h8, h9, h10, h11, h12, h13, h14, h15, h16⟩ := h
    rw [if_neg h1, if_neg h2, if_neg h3, if_neg h4, if_neg h5, if_neg h6, if_neg h7, if_neg h8, if_neg h9, if_neg h10, if_neg h11, if_neg h12, if_neg h13, if_neg h14, if_neg h15, if_neg h16]
    rw [decide_eq_false (Ne.symm h1), decide_eq_false (Ne.symm h2), decide_eq_false (Ne.symm h3), decide_eq_false (Ne.symm h4), decide_eq_false (Ne.symm h5), decide_eq_false (Ne.symm h6), decide_eq_false (Ne.symm h7), decide_eq_false (Ne.symm h8), decide_eq_false (Ne.symm h9), decide_eq_false (Ne.symm h10), decide_eq_false (Ne.symm h11), decide_eq_false (Ne.symm h12), decide_eq_false (Ne.symm h13), decide_eq_false (Ne.symm h14), decide_eq_false (Ne.symm h15), decide_eq_false (Ne.symm h16)]
    rfl
theorem rname (s : ByteArray) (hs : s.size ≤ 1000) : ∃ n, substationref26_Name.f n s = some (nameE s) := by
  unfold nameE sNameB
  by_cases h0 : s.size = 0
  · refine ⟨1, ?_⟩
    rw [substationref26_Name.f, if_pos (by omega), substationref26_Name.j0, if_pos rfl, if_pos ((tol_nil s).mpr h0)]
    rfl
  rw [if_neg (fun h => h0 ((tol_nil s).mp h))]
  by_cases h1 : 12 < s.size
  · refine ⟨1, ?_⟩
    rw [substationref26_Name.f, if_neg (by omega), if_pos (by omega), substationref26_Name.j0, if_pos rfl, if_pos h1]
    rfl
  rw [if_neg h1]
  obtain ⟨m, hm⟩ : ∃ m, s.size = m + 1 := ⟨s.size - 1, by omega⟩
  have h2 := rname_loop s hs m 1 (by omega) (by omega)
  refine ⟨20, ?_⟩
  have e0 : bt s 0 = byteAt s 0 := bt_at s 0 (by omega)
  have e1 : wrap64 ((0 : Int) + 1) = ((1 : Nat) : Int) := by rw [w64 (by omega) (by omega)]; rfl
  rw [substationref26_Name.f, if_neg (by omega), if_neg (by omega), if_pos (by omega), e0, rletter, Option.bind_some, lift_le (f := fun k => substationref26_Reserved.f k s) (fun k => substationref26_Reserved.mono _ k) (reserved_is s) (by decide), Option.bind_some, hm, nameGo, if_pos (show 0 < s.size by omega)]
  have e3 : nameOk (0 == 0) (byteAt s 0) = letterB (byteAt s 0) := by unfold nameOk; simp
  rw [e3]
  cases hl : letterB (byteAt s 0) with
  | false =>
    rw [if_neg Bool.false_ne_true, if_neg Bool.false_ne_true, substationref26_Name.j0, if_pos rfl]
    rfl
  | true =>
    rw [if_pos rfl, if_pos rfl, substationref26_Name.j0]
    cases hr : resB s with
    | true => rw [if_pos rfl]; simp
    | false =>
      rw [if_neg Bool.false_ne_true, substationref26_Name.l0, if_pos (show (0 : Int) < (s.size : Int) by omega), if_pos (Int.le_refl 0), e0, rletter, Option.bind_some, hl, if_pos rfl, e1, lift_le (f := fun k => substationref26_Name.l0 k s ((1 : Nat) : Int)) (fun k => (substationref26_Name.mono_l k).2 _ _) h2 (by omega)]
      simp
theorem built_loop (L : List E) (hl : L.length ≤ 1000) (hf : ∀ y ∈ L, ∃ k, substationref26_built.f k y.f0 y.f1 y.f2 y.f3 = some (bE y)) :
    ∀ (rest pre : List E), pre ++ rest = L → ∃ k, substationref26_built.l0 k L (L.length : Int) (pre.length : Int) = some (bL rest)
  | [], pre, e => ⟨1, by
    rw [substationref26_built.l0, if_neg (by rw [← e]; simp), bL]⟩
  | y :: ys, pre, e => by
    obtain ⟨k1, h1⟩ := hf y (by rw [← e]; simp)
    have hlen : (pre.length : Int) < (L.length : Int) := by rw [← e]; simp; omega
    have e1 : rd_T24 L (pre.length : Int) = y := by rw [← e]; exact rd_pre pre ys y
    cases hy : bE y with
    | false =>
      refine ⟨k1 + 1, ?_⟩
      rw [substationref26_built.l0, if_pos hlen, if_pos (by omega), if_pos hlen, e1, h1, Option.bind_some, hy, if_neg (by decide), bL, hy]
      rfl
    | true =>
      obtain ⟨k2, h2⟩ := built_loop L hl hf ys (pre ++ [y]) (by rw [← e]; simp)
      refine ⟨max k1 k2 + 1, ?_⟩
      rw [substationref26_built.l0, if_pos hlen, if_pos (by omega), if_pos hlen, e1, lift_le (f := fun k => substationref26_built.f k y.f0 y.f1 y.f2 y.f3) (fun k => substationref26_built.mono _ _ _ _ k) h1 (Nat.le_max_left _ _), Option.bind_some, hy, if_pos rfl, w64 (by omega) (by omega), ← pre_len pre y,
        lift_le (f := fun k => substationref26_built.l0 k L (L.length : Int) (((pre ++ [y]).length : Nat) : Int)) (fun k => (substationref26_built.mono_l k).2.2.2 _ _ _) h2 (Nat.le_max_right _ _), bL, hy, Bool.true_and]
theorem built_j1 (x : E) (b : Bool) (n : Nat) (hn : substationref26_built.l0 n x.f3 (x.f3.length : Int) 0 = some (bL x.f3)) : substationref26_built.j1 (n + 1) b x.f0 x.f1 x.f2 x.f3 = some (!b && bL x.f3) := by
  rw [substationref26_built.j1]
  cases b with
  | true => rw [if_pos rfl]; rfl
  | false => rw [if_neg (by decide), hn]; rfl
theorem built_j0 (x : E) (hi : Int) (hs : x.f2.size ≤ 1000) (n : Nat) (hn : substationref26_built.l0 n x.f3 (x.f3.length : Int) 0 = some (bL x.f3)) :
    ∃ m, substationref26_built.j0 m 0 hi x.f0 x.f1 x.f2 x.f3 = some (namedB x && decide (0 ≤ x.f1) && decide (x.f1 ≤ hi) && bL x.f3) := by
  by_cases h1 : x.f1 < 0
  · refine ⟨n + 2, ?_⟩
    rw [substationref26_built.j0, if_pos h1, built_j1 x true n hn, decide_eq_false (show ¬ 0 ≤ x.f1 by omega)]
    simp
  by_cases h2 : x.f1 > hi
  · refine ⟨n + 2, ?_⟩
    rw [substationref26_built.j0, if_neg h1, if_pos h2, built_j1 x true n hn, decide_eq_false (show ¬ x.f1 ≤ hi by omega)]
    simp
  have hd : (namedB x && decide (0 ≤ x.f1) && decide (x.f1 ≤ hi) && bL x.f3) = (!(!namedB x) && bL x.f3) := by
    rw [decide_eq_true (show 0 ≤ x.f1 by omega), decide_eq_true (show x.f1 ≤ hi by omega)]
    simp
  rw [hd]
  unfold namedB
  by_cases h3 : x.f0 = 3
  · obtain ⟨m, hm⟩ := rname x.f2 hs
    refine ⟨max m (n + 1) + 1, ?_⟩
    have hj : ∀ b, substationref26_built.j1 (max m (n + 1)) b x.f0 x.f1 x.f2 x.f3 = some (!b && bL x.f3) := fun b =>
      lift_le (f := fun k => substationref26_built.j1 k b x.f0 x.f1 x.f2 x.f3) (fun k => (substationref26_built.mono_l k).2.2.1 _ _ _ _ _) (built_j1 x b n hn) (Nat.le_max_right _ _)
    rw [substationref26_built.j0, if_neg h1, if_neg h2, if_pos h3, lift_le (f := fun k => substationref26_Name.f k x.f2) (fun k => substationref26_Name.mono _ k) hm (Nat.le_max_left _ _), Option.bind_some, if_pos h3, hj, hj]
    cases nameE x.f2 <;> rfl
  · refine ⟨n + 2, ?_⟩
    rw [substationref26_built.j0, if_neg h1, if_neg h2, if_neg h3, if_neg h3, built_j1 x _ n hn]
    by_cases h : x.f2.toList = [] <;> simp [h]
theorem built_f : ∀ (k : Nat) (x : E), smF k x = true → ∃ n, substationref26_built.f n x.f0 x.f1 x.f2 x.f3 = some (bE x)
  | 0, x, h => by cases h
  | k + 1, x, h => by
    obtain ⟨h1, h2, h3, h4⟩ := smF_succ h
    obtain ⟨n, hn⟩ := built_loop x.f3 (by omega) (fun y hy => built_f k y (h3 y hy)) x.f3 [] rfl
    have hz : ∀ hi, boundI x.f0 = hi → ∃ m, substationref26_built.j0 m 0 hi x.f0 x.f1 x.f2 x.f3 = some (namedB x && decide (0 ≤ x.f1) && decide (x.f1 ≤ boundI x.f0) && bL x.f3) := fun hi e => by rw [e]; exact built_j0 x hi (by omega) n hn
    have har : ∀ m, 2 ≤ m → substationref26_Arity.f m x.f0 = some (arityI x.f0) := fun m hm => lift_le (f := fun k => substationref26_Arity.f k x.f0) (fun k => substationref26_Arity.mono _ k) (rarity x.f0) hm
    by_cases ha : arityI x.f0 = (x.f3.length : Int)
    · have hb : bE x = (namedB x && decide (0 ≤ x.f1) && decide (x.f1 ≤ boundI x.f0) && bL x.f3) := by
        rw [bE_eq]
        unfold nodeB
        rw [decide_eq_true ha.symm, Bool.and_true]
      rw [hb]
      have hfin : ∀ m, (∀ m', m ≤ m' → (if x.f0 = 1 then (substationref26_built.j0 m' 0 1 x.f0 x.f1 x.f2 x.f3) else (if x.f0 = 2 then (substationref26_built.j0 m' 0 32767 x.f0 x.f1 x.f2 x.f3) else (if x.f0 = 19 then (substationref26_built.j0 m' 0 500 x.f0 x.f1 x.f2 x.f3) else (if x.f0 = 20 then (substationref26_built.j0 m' 0 500 x.f0 x.f1 x.f2 x.f3) else (substationref26_built.j0 m' 0 0 x.f0 x.f1 x.f2 x.f3))))) = some (namedB x && decide (0 ≤ x.f1) && decide (x.f1 ≤ boundI x.f0) && bL x.f3)) →
          ∃ n, substationref26_built.f n x.f0 x.f1 x.f2 x.f3 = some (namedB x && decide (0 ≤ x.f1) && decide (x.f1 ≤ boundI x.f0) && bL x.f3) := fun m hm =>
        ⟨max m 2 + 1, by rw [substationref26_built.f, har _ (Nat.le_max_right _ _), Option.bind_some, if_pos ha]; exact hm _ (Nat.le_max_left _ _)⟩
      have up : ∀ hi m m', substationref26_built.j0 m 0 hi x.f0 x.f1 x.f2 x.f3 = some (namedB x && decide (0 ≤ x.f1) && decide (x.f1 ≤ boundI x.f0) && bL x.f3) → m ≤ m' → substationref26_built.j0 m' 0 hi x.f0 x.f1 x.f2 x.f3 = some (namedB x && decide (0 ≤ x.f1) && decide (x.f1 ≤ boundI x.f0) && bL x.f3) := fun hi m m' h hm =>
        lift_le (f := fun k => substationref26_built.j0 k 0 hi x.f0 x.f1 x.f2 x.f3) (fun k => (substationref26_built.mono_l k).2.1 _ _ _ _ _ _) h hm
      by_cases c1 : x.f0 = 1
      · obtain ⟨m, hm⟩ := hz 1 (by rw [c1]; rfl)
        exact hfin m fun m' h' => by rw [if_pos c1]; exact up _ _ _ hm h'
      by_cases c2 : x.f0 = 2
      · obtain ⟨m, hm⟩ := hz 32767 (by rw [c2]; rfl)
        exact hfin m fun m' h' => by rw [if_neg c1, if_pos c2]; exact up _ _ _ hm h'
      by_cases c3 : x.f0 = 19
      · obtain ⟨m, hm⟩ := hz 500 (by rw [c3]; rfl)
        exact hfin m fun m' h' => by rw [if_neg c1, if_neg c2, if_pos c3]; exact up _ _ _ hm h'
      by_cases c4 : x.f0 = 20
      · obtain ⟨m, hm⟩ := hz 500 (by rw [c4]; rfl)
        exact hfin m fun m' h' => by rw [if_neg c1, if_neg c2, if_neg c3, if_pos c4]; exact up _ _ _ hm h'
      · obtain ⟨m, hm⟩ := hz 0 (by unfold boundI; rw [if_neg c1, if_neg c2, if_neg (by omega)])
        exact hfin m fun m' h' => by rw [if_neg c1, if_neg c2, if_neg c3, if_neg c4]; exact up _ _ _ hm h'
    · refine ⟨3, ?_⟩
      rw [substationref26_built.f, har _ (Nat.le_refl _), Option.bind_some, if_neg ha, bE_eq]
      unfold nodeB
      rw [decide_eq_false (fun e => ha e.symm)]
      simp
theorem rvalid (k : Nat) (hk : k ≤ 1000) (x : E) (h : smF k x = true) : ∃ n, substationref26_Valid.f n x.f0 x.f1 x.f2 x.f3 = some (validB x) := by
  obtain ⟨n1, h1⟩ := small_depth k x hk h
  obtain ⟨n2, h2⟩ := small_size k x h
  obtain ⟨n3, h3⟩ := built_f k x h
  have hv := validB_is x
  refine ⟨max n1 (max n2 n3), ?_⟩
  rw [substationref26_Valid.f, lift_le (f := fun k => substationref26_Depth.f k x.f0 x.f1 x.f2 x.f3) (fun k => substationref26_Depth.mono _ _ _ _ k) h1 (by omega), Option.bind_some, lift_le (f := fun k => substationref26_Size.f k x.f0 x.f1 x.f2 x.f3) (fun k => substationref26_Size.mono _ _ _ _ k) h2 (by omega), Option.bind_some,
    lift_le (f := fun k => substationref26_built.f k x.f0 x.f1 x.f2 x.f3) (fun k => substationref26_built.mono _ _ _ _ k) h3 (by omega), Option.bind_some]
  by_cases hd : (dpE x : Int) ≤ 16
  · rw [if_pos hd]
    by_cases hz : (szE x : Int) ≤ 60
    · rw [if_pos hz]
      cases hb : bE x with
      | true => rw [hv.mpr ⟨by omega, by omega, hb⟩]
      | false =>
        cases hvb : validB x with
        | false => rfl
        | true => have := (hv.mp hvb).2.2; rw [hb] at this; cases this
    · rw [if_neg hz]
      cases hvb : validB x with
      | false => rfl
      | true => have := (hv.mp hvb).1; omega
  · rw [if_neg hd]
    cases hvb : validB x with
    | false => rfl
    | true => have := (hv.mp hvb).2.1; omega
end Go.Proofs.YtbbopomecanaoaaDoor.A
