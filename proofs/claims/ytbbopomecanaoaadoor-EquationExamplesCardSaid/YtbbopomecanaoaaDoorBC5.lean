import Derived.Test.YtbbopomecanaoaaDoorBC4
import Derived.Lib.AtoiErrMem
import Derived.Laws.RangeString
import Derived.Laws.RangeAny
/- The texts that the law's proof stands on, merged and pruned by program. No condition. -/
namespace Go.Proofs.YtbbopomecanaoaaDoor.A
open Go.RowKit Go.Proofs.YtbbopomecanaoaaDoorW.PrintWords Go.Proofs.YtbbopomecanaoaaDoorW.PrintLast Go.Proofs.YtbbopomecanaoaaDoorW.PrintMore Go.Proofs.YtbbopomecanaoaaDoor.XK
open Go.Proofs.YtbbopomecanaoaaDoor
attribute [local go_sem] max2_int min2_int max_two min_two max_three min_three max_four min_four fld1 fld3
set_option linter.unusedVariables false
set_option linter.unusedSimpArgs false
def valN (acc : Nat) (l : List UInt8) : Nat := l.foldl (fun a c => a * 10 + (c.toNat - 48)) acc
theorem valN_cons (acc : Nat) (c : UInt8) (r : List UInt8) : valN acc (c :: r) = valN (acc * 10 + (c.toNat - 48)) r := by unfold valN; rw [List.foldl_cons]
theorem valN_ge (l : List UInt8) : ∀ acc : Nat, acc ≤ valN acc l := by
  induction l with
  | nil => intro acc; rw [valN, List.foldl_nil]; exact Nat.le_refl _
  | cons c r ih =>
    intro acc
    have h := ih (acc * 10 + (c.toNat - 48))
    rw [valN_cons]
    have h2 : acc ≤ acc * 10 + (c.toNat - 48) := Nat.le_trans (Nat.le_mul_of_pos_right acc (by decide)) (Nat.le_add_right _ _)
    exact Nat.le_trans h2 h
theorem decV_valN (l : List UInt8) (hd : ∀ b ∈ l, 48 ≤ b.toNat ∧ b.toNat ≤ 57) : ∀ acc : Nat, l.foldl (fun (a : Int) b => a * 10 + ((b.toNat : Int) - 48)) (acc : Int) = (valN acc l : Nat) := by
  induction l with
  | nil => intro acc; rfl
  | cons c r ih =>
    intro acc
    have hc := hd c (List.mem_cons_self)
    rw [List.foldl_cons, valN_cons, ← ih (fun b hb => hd b (List.mem_cons_of_mem _ hb))]
    congr 1
    omega
theorem uint10_digits : ∀ (l : List UInt8) (acc : Nat), (∀ b ∈ l, 48 ≤ b.toNat ∧ b.toNat ≤ 57) → Lib.parseUint10 acc l = .ok (valN acc l) ∨ (Lib.parseUint10 acc l = .range ∧ 1844674407370955162 ≤ valN acc l)
  | [], acc, _ => .inl rfl
  | c :: r, acc, hd => by
    have hc := hd c (List.mem_cons_self)
    have hr : ∀ b ∈ r, 48 ≤ b.toNat ∧ b.toNat ≤ 57 := fun b hb => hd b (List.mem_cons_of_mem _ hb)
    rw [Lib.parseUint10, if_pos hc, valN_cons]
    have hge := valN_ge r (acc * 10 + (c.toNat - 48))
    by_cases h1 : 1844674407370955162 ≤ acc
    · rw [if_pos h1]
      exact .inr ⟨rfl, by omega⟩
    · rw [if_neg h1]
      by_cases h2 : 18446744073709551616 ≤ acc * 10 + (c.toNat - 48)
      · rw [if_pos h2]
        exact .inr ⟨rfl, by omega⟩
      · rw [if_neg h2]
        exact uint10_digits r _ hr
theorem atoi_digits (s : ByteArray) (h1 : 1 ≤ s.size) (hd : Digits s) : Lib.atoiAll s.data.toList = .ok (decV s) ∨ (Lib.atoiAll s.data.toList = .range ∧ 32767 < decV s) := by
  have hv : decV s = (valN 0 s.data.toList : Nat) := decV_valN s.data.toList hd 0
  have hu := uint10_digits s.data.toList 0 hd
  rw [hv]
  have hl : s.data.toList.length = s.size := rfl
  unfold Digits at hd
  generalize s.data.toList = l at *
  cases l with
  | nil => simp at hl; omega
  | cons c r =>
    have hc := hd c (List.mem_cons_self)
    have hp : Lib.parseMag (c :: r) = Lib.parseUint10 0 (c :: r) := by unfold Lib.parseMag; rw [if_neg (by simp)]
    unfold Lib.atoiAll
    dsimp only
    rw [if_neg (by omega), hp]
    rcases hu with hu | ⟨hu, hbig⟩
    · rw [hu]
      dsimp only
      by_cases hb : 9223372036854775808 ≤ valN 0 (c :: r)
      · rw [if_pos ⟨by omega, hb⟩]
        exact .inr ⟨rfl, by omega⟩
      · rw [if_neg (fun h => hb h.2), if_neg (fun h => by have := h.1; omega), if_neg (by omega)]
        exact .inl rfl
    · rw [hu]
      exact .inr ⟨rfl, by omega⟩
def WR (w : World) : Prop := ∃ ev, w.cell? ⟨3, 0, none⟩ = some ev ∧ (ev = .nilIface ∨ ∃ te pe, ev = .iface te pe)
theorem atoiF : AtoiF WR := ⟨fun s w hd h1 h2 hw => by
  rcases atoi_digits s h1 hd with h | ⟨h, hb⟩
  · refine (Tryd.strconv_Atoi_ok s (by omega) _ h w).mono ?_
    rintro e w' ⟨rfl, hw'⟩
    refine ⟨?_, .inl rfl⟩
    rcases hw' with rfl | ⟨t, rfl⟩
    · exact Below.refl _ _
    · exact Lib.bytesWorld_below _ _ _
  · obtain ⟨ev, hv, hev⟩ := hw
    refine (Tryd.strconv_Atoi_range s (by omega) h ev w hv hev).mono ?_
    rintro e w' ⟨N, rfl, _, _, hB⟩
    exact ⟨hB, .inr ⟨hb, _, _, _, rfl⟩⟩, fun w w' ⟨ev, hv, hev⟩ hb => ⟨ev, by
    have hlt := World.block_lt_of_cell? w _ hv
    have := hb.block _ hlt
    simpa [World.cell?, this] using hv, hev⟩⟩
end Go.Proofs.YtbbopomecanaoaaDoor.A
namespace Go.Proofs.YtbbopomecanaoaaDoor.A
open Go.RowKit Go.Proofs.YtbbopomecanaoaaDoorW.PrintWords Go.Proofs.YtbbopomecanaoaaDoor.XK
set_option linter.unusedVariables false
section
variable (ts : List Tk) (en : Int)
theorem pk_text {i : Nat} (h : (pk ts en i).f3.toList ≠ []) : i < ts.length := by
  unfold pk at h
  split at h
  · assumption
  · exact (h (by first | rfl | simp | decide)).elim
theorem pk_kind {i : Nat} {c : Int} (h : (pk ts en i).f0 = c) (hc : c ≠ 0) : i < ts.length := by
  unfold pk at h
  split at h
  · assumption
  · exact (hc h.symm).elim
def Goes (opd : Nat → Int → Option Res) : Prop := ∀ i l x i' l', opd i l = some (.ok x i' l') → i < i' ∧ i' ≤ ts.length
def Ends (i0 : Nat) (opd : Nat → Int → Option Res) : Prop := ∀ i l, i0 ≤ i → ∃ r, opd i l = some r
variable {ts en}
theorem chainL_goes {opd : Nat → Int → Option Res} {op : ByteArray → Int} (hg : Goes ts opd) : ∀ (k : Nat) (x : E) (i : Nat) (l : Int) (y : E) (i' : Nat) (l' : Int), i ≤ ts.length → chainL ts en opd op k x i l = some (.ok y i' l') → i ≤ i' ∧ i' ≤ ts.length
  | 0, x, i, l, y, i', l', h0, h => by rw [chainL] at h; cases h
  | k + 1, x, i, l, y, i', l', h0, h => by
    rw [chainL] at h
    split at h
    · injection h with h
      injection h with h1 h2 h3
      omega
    · split at h
      · cases h
      · injection h with h; cases h
      · rename_i y2 i2 l2 he
        have h1 := hg _ _ _ _ _ he
        have h2 := chainL_goes hg k _ _ _ _ _ _ h1.2 h
        omega
theorem chainP_goes {opd : Nat → Int → Option Res} {op : ByteArray → Int} (hg : Goes ts opd) (k : Nat) : Goes ts (chainP ts en opd op k) := by
  intro i l x i' l' h
  unfold chainP at h
  split at h
  · cases h
  · injection h with h; cases h
  · rename_i y i2 l2 he
    have h1 := hg _ _ _ _ _ he
    have h2 := chainL_goes hg k _ _ _ _ _ _ h1.2 h
    omega
theorem chainL_ends {opd : Nat → Int → Option Res} {op : ByteArray → Int} (hop : ∀ s, op s ≠ 0 → s.toList ≠ []) (hg : Goes ts opd) {i0 : Nat} (he : Ends i0 opd) : ∀ (k : Nat) (x : E) (i : Nat) (l : Int), i0 ≤ i → i ≤ ts.length → ts.length < i + k → ∃ r, chainL ts en opd op k x i l = some r
  | 0, x, i, l, h0, h1, h2 => by omega
  | k + 1, x, i, l, h0, h1, h2 => by
    rw [chainL]
    split
    · exact ⟨_, rfl⟩
    · rename_i hne
      obtain ⟨r, hr⟩ := he (i + 1) l (by omega)
      rw [hr]
      cases r with
      | fail a => exact ⟨_, rfl⟩
      | ok y i' l' =>
        have h3 := hg _ _ _ _ _ hr
        exact chainL_ends hop hg he k _ _ _ (by omega) h3.2 (by omega)
theorem chainP_ends {opd : Nat → Int → Option Res} {op : ByteArray → Int} (hop : ∀ s, op s ≠ 0 → s.toList ≠ []) (hg : Goes ts opd) {i0 : Nat} (he : Ends i0 opd) {k i : Nat} (l : Int) (h0 : i0 ≤ i) (hk : ts.length < i + k + 1) : ∃ r, chainP ts en opd op k i l = some r := by
  unfold chainP
  obtain ⟨r, hr⟩ := he i l h0
  rw [hr]
  cases r with
  | fail a => exact ⟨_, rfl⟩
  | ok y i' l' =>
    have h3 := hg _ _ _ _ _ hr
    exact chainL_ends hop hg he k _ _ _ (by omega) h3.2 (by omega)
theorem args_goes {ex : Nat → Int → Option Res} (hg : Goes ts ex) : ∀ (n j : Nat) (xs : List E) (i : Nat) (l : Int) (ys : List E) (i' : Nat) (l' : Int), i ≤ ts.length → argsP ts en ex n j xs i l = some (.ok ys i' l') → i ≤ i' ∧ i' ≤ ts.length
  | 0, j, xs, i, l, ys, i', l', h0, h => by
    rw [argsP] at h
    injection h with h
    injection h with h1 h2 h3
    omega
  | n + 1, j, xs, i, l, ys, i', l', h0, h => by
    rw [argsP] at h
    split at h
    · injection h with h; cases h
    · split at h
      · cases h
      · injection h with h; cases h
      · rename_i x i2 l2 he
        have h1 := hg _ _ _ _ _ he
        have h2 := args_goes hg n _ _ _ _ _ _ _ h1.2 h
        have h3 : i ≤ if 0 < j then i + 1 else i := by split <;> omega
        omega
theorem args_ends {ex : Nat → Int → Option Res} (hg : Goes ts ex) {i0 : Nat} (he : Ends i0 ex) : ∀ (n j : Nat) (xs : List E) (i : Nat) (l : Int), i0 ≤ i → ∃ r, argsP ts en ex n j xs i l = some r
  | 0, j, xs, i, l, h0 => ⟨_, rfl⟩
  | n + 1, j, xs, i, l, h0 => by
    rw [argsP]
    split
    · exact ⟨_, rfl⟩
    · have h3 : i ≤ if 0 < j then i + 1 else i := by split <;> omega
      obtain ⟨r, hr⟩ := he _ l (Nat.le_trans h0 h3)
      rw [hr]
      cases r with
      | fail a => exact ⟨_, rfl⟩
      | ok x i' l' =>
        have h1 := hg _ _ _ _ _ hr
        exact args_ends hg he n _ _ _ _ (by omega)
theorem steps_goes {op : Int} {xs : List E} {i : Nat} {l : Int} {x : E} {i' : Nat} {l' : Int} (h : stepsP ts en op xs i l = .ok x i' l') : i < i' ∧ i' ≤ ts.length := by
  unfold stepsP at h
  split at h
  · split at h
    · cases h
    · split at h
      · cases h
      · split at h
        · cases h
        · rename_i h3
          have := pk_text ts en (i := i + 2) (by intro e; rw [e] at h3; exact h3 (by decide))
          injection h with h1 h2 h3
          omega
  · split at h
    · cases h
    · rename_i h3
      have := pk_text ts en (i := i) (by intro e; rw [e] at h3; exact h3 (by decide))
      injection h with h1 h2 h3
      omega
theorem call_goes {ex : Nat → Int → Option Res} (hg : Goes ts ex) {op : Int} {i : Nat} {l : Int} {x : E} {i' : Nat} {l' : Int} (h : callP ts en ex op i l = some (.ok x i' l')) : i < i' ∧ i' ≤ ts.length := by
  unfold callP at h
  split at h
  · injection h with h; cases h
  · rename_i h0
    have hi := pk_text ts en (i := i) (by intro e; rw [e] at h0; exact h0 (by decide))
    split at h
    · cases h
    · injection h with h; cases h
    · rename_i ys i2 l2 he
      injection h with h
      have h1 := args_goes hg _ _ _ _ _ _ _ _ (by omega) he
      have h2 := steps_goes h
      omega
theorem call_ends {ex : Nat → Int → Option Res} (hg : Goes ts ex) {i0 : Nat} (he : Ends i0 ex) (op : Int) (i : Nat) (l : Int) (h0 : i0 ≤ i + 1) : ∃ r, callP ts en ex op i l = some r := by
  unfold callP
  split
  · exact ⟨_, rfl⟩
  · obtain ⟨r, hr⟩ := args_ends (en := en) hg he (arityN op) 0 [] (i + 1) l h0
    rw [hr]
    cases r with
    | fail a => exact ⟨_, rfl⟩
    | ok ys i' l' => exact ⟨_, rfl⟩
theorem prim_goes {ex : Nat → Int → Option Res} (hg : Goes ts ex) : Goes ts (primP ts en ex) := by
  intro i l x i' l' h
  unfold primP at h
  split at h
  · rename_i h0
    have := pk_kind ts en h0 (by decide)
    injection h with h
    injection h with h1 h2 h3
    omega
  · split at h
    · rename_i h0
      have := pk_text ts en (i := i) (by rw [h0]; decide)
      injection h with h
      injection h with h1 h2 h3
      omega
    · split at h
      · rename_i h0
        have := pk_text ts en (i := i) (by rw [h0]; decide)
        injection h with h
        injection h with h1 h2 h3
        omega
      · split at h
        · split at h
          · cases h
          · injection h with h; cases h
          · rename_i y i2 l2 he
            have h1 := hg _ _ _ _ _ he
            split at h
            · rename_i h0
              have := pk_text ts en (i := i2) (by rw [h0]; decide)
              injection h with h
              injection h with h1 h2 h3
              omega
            · injection h with h; cases h
        · split at h
          · have := call_goes hg h
            omega
          · split at h
            · injection h with h; cases h
            · rename_i h0
              have := pk_kind ts en (i := i) (c := 1) (by
                cases Classical.em ((pk ts en i).f0 = 1) with
                | inl h => exact h
                | inr h => exact absurd (Or.inl h) h0) (by decide)
              injection h with h
              injection h with h1 h2 h3
              omega
theorem prim_ends {ex : Nat → Int → Option Res} (hg : Goes ts ex) (i : Nat) (l : Int) (he : i < ts.length → Ends (i + 1) ex) : ∃ r, primP ts en ex i l = some r := by
  unfold primP
  split
  · exact ⟨_, rfl⟩
  · split
    · exact ⟨_, rfl⟩
    · split
      · exact ⟨_, rfl⟩
      · split
        · rename_i h0
          have hi := pk_text ts en (i := i) (by rw [h0]; decide)
          obtain ⟨r, hr⟩ := he hi (i + 1) l (Nat.le_refl _)
          rw [hr]
          cases r with
          | fail a => exact ⟨_, rfl⟩
          | ok y i2 l2 =>
            dsimp only
            split <;> exact ⟨_, rfl⟩
        · split
          · rename_i h0
            have hi := pk_text ts en (i := i) (fnOp_ne h0)
            exact call_ends hg (he hi) _ _ _ (by omega)
          · split <;> exact ⟨_, rfl⟩
theorem rel_goes {opd : Nat → Int → Option Res} (hg : Goes ts opd) : Goes ts (relP ts en opd) := by
  intro i l x i' l' h
  unfold relP at h
  split at h
  · cases h
  · injection h with h; cases h
  · rename_i y i2 l2 he
    have h1 := hg _ _ _ _ _ he
    split at h
    · injection h with h
      injection h with h1 h2 h3
      omega
    · split at h
      · cases h
      · injection h with h; cases h
      · rename_i z i3 l3 he2
        have h2 := hg _ _ _ _ _ he2
        injection h with h
        injection h with h3 h4 h5
        omega
theorem rel_ends {opd : Nat → Int → Option Res} (hg : Goes ts opd) {i0 : Nat} (he : Ends i0 opd) (i : Nat) (l : Int) (h0 : i0 ≤ i) : ∃ r, relP ts en opd i l = some r := by
  unfold relP
  obtain ⟨r, hr⟩ := he i l h0
  rw [hr]
  cases r with
  | fail a => exact ⟨_, rfl⟩
  | ok y i2 l2 =>
    have h1 := hg _ _ _ _ _ hr
    dsimp only
    split
    · exact ⟨_, rfl⟩
    · obtain ⟨r, hr⟩ := he (i2 + 1) l2 (by omega)
      rw [hr]
      cases r with
      | fail a => exact ⟨_, rfl⟩
      | ok y i3 l3 => exact ⟨_, rfl⟩
theorem not_goes {self rel : Nat → Int → Option Res} (hs : Goes ts self) (hr : Goes ts rel) : Goes ts (notP ts en self rel) := by
  intro i l x i' l' h
  unfold notP at h
  split at h
  · split at h
    · cases h
    · injection h with h; cases h
    · rename_i y i2 l2 he
      have h1 := hs _ _ _ _ _ he
      injection h with h
      injection h with h3 h4 h5
      omega
  · exact hr _ _ _ _ _ h
theorem not_ends {self rel : Nat → Int → Option Res} (i : Nat) (l : Int) (he : i < ts.length → Ends (i + 1) self) (hr : Ends i rel) : ∃ r, notP ts en self rel i l = some r := by
  unfold notP
  split
  · rename_i h0
    have hi := pk_text ts en (i := i) (by rw [h0]; decide)
    obtain ⟨r, hr⟩ := he hi (i + 1) l (Nat.le_refl _)
    rw [hr]
    cases r with
    | fail a => exact ⟨_, rfl⟩
    | ok y i2 l2 => exact ⟨_, rfl⟩
  · exact hr i l (Nat.le_refl _)
theorem only_ne (t : List UInt8) (ht : t ≠ []) (o : Int) (s : ByteArray) (h : onlyOp t o s ≠ 0) : s.toList ≠ [] := fun e => h (by unfold onlyOp; rw [e, if_neg (fun e2 => ht e2.symm)])
theorem sum_ne (s : ByteArray) (h : sumOp s ≠ 0) : s.toList ≠ [] := fun e => h (by unfold sumOp onlyOp; rw [e]; rfl)
theorem P_goes (ts : List Tk) (en : Int) : ∀ (k : Nat) (lv : Lv), Goes ts (P ts en k lv)
  | 0, lv => fun i l x i' l' h => by rw [P] at h; cases h
  | k + 1, .or => chainP_goes (P_goes ts en k .xor) k
  | k + 1, .xor => chainP_goes (P_goes ts en k .and) k
  | k + 1, .and => chainP_goes (P_goes ts en k .not) k
  | k + 1, .not => not_goes (P_goes ts en k .not) (P_goes ts en k .rel)
  | k + 1, .rel => rel_goes (P_goes ts en k .sum)
  | k + 1, .sum => chainP_goes (P_goes ts en k .prim) k
  | k + 1, .prim => prim_goes (P_goes ts en k .or)
def rank : Lv → Nat
  | .or => 6
  | .xor => 5
  | .and => 4
  | .not => 3
  | .rel => 2
  | .sum => 1
  | .prim => 0
theorem P_ends (ts : List Tk) (en : Int) : ∀ (k : Nat) (lv : Lv) (i : Nat), 7 * (ts.length - i) + rank lv < k → Ends i (P ts en k lv) := by
  intro k
  induction k with
  | zero => intro lv i h; exact absurd h (by omega)
  | succ k ih =>
    intro lv i h i1 l hi1
    have hm : 7 * (ts.length - i1) + rank lv < k + 1 := by omega
    cases lv with
    | or => exact chainP_ends (only_ne _ (by decide) _) (P_goes ts en k .xor) (ih .xor i1 (by simp [rank] at hm ⊢; omega)) l (Nat.le_refl _) (by simp [rank] at hm; omega)
    | xor => exact chainP_ends (only_ne _ (by decide) _) (P_goes ts en k .and) (ih .and i1 (by simp [rank] at hm ⊢; omega)) l (Nat.le_refl _) (by simp [rank] at hm; omega)
    | and => exact chainP_ends (only_ne _ (by decide) _) (P_goes ts en k .not) (ih .not i1 (by simp [rank] at hm ⊢; omega)) l (Nat.le_refl _) (by simp [rank] at hm; omega)
    | not => exact not_ends i1 l (fun hlt => ih .not (i1 + 1) (by simp [rank] at hm ⊢; omega)) (ih .rel i1 (by simp [rank] at hm ⊢; omega))
    | rel => exact rel_ends (P_goes ts en k .sum) (ih .sum i1 (by simp [rank] at hm ⊢; omega)) i1 l (Nat.le_refl _)
    | sum => exact chainP_ends sum_ne (P_goes ts en k .prim) (ih .prim i1 (by simp [rank] at hm ⊢; omega)) l (Nat.le_refl _) (by simp [rank] at hm; omega)
    | prim => exact prim_ends (P_goes ts en k .or) i1 l (fun hlt => ih .or (i1 + 1) (by simp [rank] at hm ⊢; omega))
end
end Go.Proofs.YtbbopomecanaoaaDoor.A
namespace Go.Proofs.YtbbopomecanaoaaDoor.A
open Go.RowKit Go.Proofs.YtbbopomecanaoaaDoorW.PrintWords Go.Proofs.YtbbopomecanaoaaDoorW.PrintLast Go.Proofs.YtbbopomecanaoaaDoorW.PrintMore Go.Proofs.YtbbopomecanaoaaDoor.XK
open Go.Proofs.YtbbopomecanaoaaDoor
attribute [local go_sem] max2_int min2_int max_two min_two max_three min_three max_four min_four fld1 fld3
set_option linter.unusedVariables false
set_option linter.unusedSimpArgs false
def nameOk (first : Bool) (b : Int) : Bool := letterB b || (!first && (b == 95 || digitB b))
def nameGo (s : ByteArray) : Nat → Nat → Bool
  | 0, _ => true
  | k + 1, i => if i < s.size then (if nameOk (i == 0) (byteAt s i) = true then nameGo s k (i + 1) else false) else true
def sNameB (s : ByteArray) : Bool := if s.toList = [] then false else if 12 < s.size then false else nameGo s s.size 0
theorem rune_at (s : ByteArray) (i : Nat) (h : i < s.size) : (((Utf8.decode s i).1 : Int) = byteAt s i ∧ byteAt s i < 128 ∧ (Utf8.decode s i).2 = 1) ∨ (128 ≤ ((Utf8.decode s i).1 : Int) ∧ 128 ≤ byteAt s i) := by
  have e : s[i]'h = s.get! i := by
    show s.data[i]'h = s.data[i]!
    rw [getElem!_pos s.data i h]
  by_cases ha : (s[i]'h).toNat < 128
  · have hd := decode_ascii s i h ha
    left
    rw [hd]
    rw [e] at ha ⊢
    exact ⟨rfl, by unfold byteAt; omega, rfl⟩
  · have hd := decode_high s i h (by omega)
    right
    rw [e] at ha
    exact ⟨by omega, by unfold byteAt; omega⟩
set_option maxRecDepth 100000 in
set_option maxHeartbeats 4000000 in
theorem sname_calls (s : ByteArray) (w : World) : Calls Tryd.prog 39 #[.string s] w fun e w' => e = .returned (.bool (sNameB s)) ∧ Below w.heap.size w w' := by
  obtain ⟨r, hr⟩ : ∃ r, sNameB s = r := ⟨_, rfl⟩
  rw [hr]
  unfold sNameB at hr
  by_cases h0 : s.toList = []
  · rw [if_pos h0] at hr
    subst hr
    have t0 : (s.toList == []) = true := by simpa using h0
    have t1 : s.toList.isEmpty = true := by simpa using h0
    clear h0
    go_enter Tryd.func39, Tryd.ntmps39
    go_wp2_with fail
    go_ret
    exact ⟨rfl, Below.refl _ _⟩
  rw [if_neg h0] at hr
  have t0 : (s.toList == []) = false := by simpa using h0
  have t1 : s.toList.isEmpty = false := by simpa using h0
  clear h0
  by_cases h1 : 12 < s.size
  · rw [if_pos h1] at hr
    subst hr
    have t2 : decide ((12 : Int) < (s.size : Int)) = true := by simp; omega
    go_enter Tryd.func39, Tryd.ntmps39
    go_wp2_with fail
    go_ret
    exact ⟨rfl, Below.refl _ _⟩
  rw [if_neg h1] at hr
  have t2 : decide ((12 : Int) < (s.size : Int)) = false := by simp; omega
  have HR := Aside0.mk hr
  have HS := Aside0.mk (show s.size ≤ 12 by omega)
  clear hr h1
  go_enter Tryd.func39, Tryd.ntmps39
  go_wp2_with fail
  clear t0 t1 t2
  go_loopg [3] s.size (fun gk v3 wr => ∃ (pos : Nat), wr = w.iter s pos ∧ Aside0 (pos ≤ s.size ∧ gk = s.size - pos) ∧ Aside0 (nameGo s gk pos = r))
  case atStart => exact ⟨0, rfl, ⟨Nat.zero_le _, rfl⟩, HR⟩
  case round =>
    clear HR
    obtain ⟨pos, rfl, HJ, HR⟩ := hrel
    have hr := HR.out
    obtain ⟨hj1, hj2⟩ := HJ.out
    have hs12 := HS.out
    clear HR
    by_cases hp : pos < s.size
    · obtain ⟨gk, rfl⟩ : ∃ g, gk = g + 1 := ⟨gk - 1, by omega⟩
      rw [nameGo, if_pos hp] at hr
      have hra := rune_at s pos hp
      have hnx : ∀ ty, (Instr.next (.pointer (some ⟨w.heap.size, 0, none⟩)) true ty).run Tryd.prog (w.iter s pos) = _ := fun ty => run_next_any w s pos ty hp
      generalize byteAt s pos = b at *
      generalize (Utf8.decode s pos).2 = wd at *
      generalize hcd : ((Utf8.decode s pos).1 : Int) = c at *
      clear hcd
      have hc : (c = b ∧ b < 128 ∧ wd = 1) ∨ (128 ≤ c ∧ 128 ≤ b) := hra
      clear hra
      by_cases hz : pos = 0
      · subst hz
        rw [show ((0 : Nat) == 0) = true from rfl] at hr
        rcases (by omega : c ≤ 47 ∨ (48 ≤ c ∧ c ≤ 57) ∨ (58 ≤ c ∧ c ≤ 64) ∨ (65 ≤ c ∧ c ≤ 90) ∨ (91 ≤ c ∧ c ≤ 94) ∨ c = 95 ∨ c = 96 ∨ (97 ≤ c ∧ c ≤ 122) ∨ 123 ≤ c) with hv | hv | hv | hv | hv | hv | hv | hv | hv
        · have g0 : decide (c ≥ 97) = false := by simp; omega
          have g1 : decide (c ≤ 122) = true := by simp; omega
          have g2 : decide (c ≥ 65) = false := by simp; omega
          have g3 : decide (c ≤ 90) = true := by simp; omega
          have g4 : decide (c < 48) = true := by simp; omega
          have g5 : decide (c > 57) = false := by simp; omega
          have g6 : (c != 95) = true := by simp; omega
          have g7 : (c == 95) = false := by simp; omega
          have hb : nameOk true b = false := by unfold nameOk letterB digitB; simp; omega
          rw [hb] at hr
          rw [if_neg (by decide)] at hr
          subst hr
          clear hb hc hv
          go_wp2_with fail
          go_ret
          exact ⟨rfl, below_alloc (Below.refl _ _) _⟩
        · have g0 : decide (c ≥ 97) = false := by simp; omega
          have g1 : decide (c ≤ 122) = true := by simp; omega
          have g2 : decide (c ≥ 65) = false := by simp; omega
          have g3 : decide (c ≤ 90) = true := by simp; omega
          have g4 : decide (c < 48) = false := by simp; omega
          have g5 : decide (c > 57) = false := by simp; omega
          have g6 : (c != 95) = true := by simp; omega
          have g7 : (c == 95) = false := by simp; omega
          have hb : nameOk true b = false := by unfold nameOk letterB digitB; simp; omega
          rw [hb] at hr
          rw [if_neg (by decide)] at hr
          subst hr
          clear hb hc hv
          go_wp2_with fail
          go_ret
          exact ⟨rfl, below_alloc (Below.refl _ _) _⟩
        · have g0 : decide (c ≥ 97) = false := by simp; omega
          have g1 : decide (c ≤ 122) = true := by simp; omega
          have g2 : decide (c ≥ 65) = false := by simp; omega
          have g3 : decide (c ≤ 90) = true := by simp; omega
          have g4 : decide (c < 48) = false := by simp; omega
          have g5 : decide (c > 57) = true := by simp; omega
          have g6 : (c != 95) = true := by simp; omega
          have g7 : (c == 95) = false := by simp; omega
          have hb : nameOk true b = false := by unfold nameOk letterB digitB; simp; omega
          rw [hb] at hr
          rw [if_neg (by decide)] at hr
          subst hr
          clear hb hc hv
          go_wp2_with fail
          go_ret
          exact ⟨rfl, below_alloc (Below.refl _ _) _⟩
        · have g0 : decide (c ≥ 97) = false := by simp; omega
          have g1 : decide (c ≤ 122) = true := by simp; omega
          have g2 : decide (c ≥ 65) = true := by simp; omega
          have g3 : decide (c ≤ 90) = true := by simp; omega
          have g4 : decide (c < 48) = false := by simp; omega
          have g5 : decide (c > 57) = true := by simp; omega
          have g6 : (c != 95) = true := by simp; omega
          have g7 : (c == 95) = false := by simp; omega
          have hb : nameOk true b = true := by unfold nameOk letterB digitB; simp; omega
          rw [hb] at hr
          rw [if_pos rfl] at hr
          have HR := Aside0.mk hr
          have hw1 : wd = 1 := by omega
          subst hw1
          clear hb hc hv hr
          go_wp2_with fail
          go_roundg gk
          case measure => omega
          case rel => exact ⟨0 + 1, rfl, ⟨by omega, by omega⟩, HR⟩
        · have g0 : decide (c ≥ 97) = false := by simp; omega
          have g1 : decide (c ≤ 122) = true := by simp; omega
          have g2 : decide (c ≥ 65) = true := by simp; omega
          have g3 : decide (c ≤ 90) = false := by simp; omega
          have g4 : decide (c < 48) = false := by simp; omega
          have g5 : decide (c > 57) = true := by simp; omega
          have g6 : (c != 95) = true := by simp; omega
          have g7 : (c == 95) = false := by simp; omega
          have hb : nameOk true b = false := by unfold nameOk letterB digitB; simp; omega
          rw [hb] at hr
          rw [if_neg (by decide)] at hr
          subst hr
          clear hb hc hv
          go_wp2_with fail
          go_ret
          exact ⟨rfl, below_alloc (Below.refl _ _) _⟩
        · have g0 : decide (c ≥ 97) = false := by simp; omega
          have g1 : decide (c ≤ 122) = true := by simp; omega
          have g2 : decide (c ≥ 65) = true := by simp; omega
          have g3 : decide (c ≤ 90) = false := by simp; omega
          have g4 : decide (c < 48) = false := by simp; omega
          have g5 : decide (c > 57) = true := by simp; omega
          have g6 : (c != 95) = false := by simp; omega
          have g7 : (c == 95) = true := by simp; omega
          have hb : nameOk true b = false := by unfold nameOk letterB digitB; simp; omega
          rw [hb] at hr
          rw [if_neg (by decide)] at hr
          subst hr
          clear hb hc hv
          go_wp2_with fail
          go_ret
          exact ⟨rfl, below_alloc (Below.refl _ _) _⟩
        · have g0 : decide (c ≥ 97) = false := by simp; omega
          have g1 : decide (c ≤ 122) = true := by simp; omega
          have g2 : decide (c ≥ 65) = true := by simp; omega
          have g3 : decide (c ≤ 90) = false := by simp; omega
          have g4 : decide (c < 48) = false := by simp; omega
          have g5 : decide (c > 57) = true := by simp; omega
          have g6 : (c != 95) = true := by simp; omega
          have g7 : (c == 95) = false := by simp; omega
          have hb : nameOk true b = false := by unfold nameOk letterB digitB; simp; omega
          rw [hb] at hr
          rw [if_neg (by decide)] at hr
          subst hr
          clear hb hc hv
          go_wp2_with fail
          go_ret
          exact ⟨rfl, below_alloc (Below.refl _ _) _⟩
        · have g0 : decide (c ≥ 97) = true := by simp; omega
          have g1 : decide (c ≤ 122) = true := by simp; omega
          have g2 : decide (c ≥ 65) = true := by simp; omega
          have g3 : decide (c ≤ 90) = false := by simp; omega
          have g4 : decide (c < 48) = false := by simp; omega
          have g5 : decide (c > 57) = true := by simp; omega
          have g6 : (c != 95) = true := by simp; omega
          have g7 : (c == 95) = false := by simp; omega
          have hb : nameOk true b = true := by unfold nameOk letterB digitB; simp; omega
          rw [hb] at hr
          rw [if_pos rfl] at hr
          have HR := Aside0.mk hr
          have hw1 : wd = 1 := by omega
          subst hw1
          clear hb hc hv hr
          go_wp2_with fail
          go_roundg gk
          case measure => omega
          case rel => exact ⟨0 + 1, rfl, ⟨by omega, by omega⟩, HR⟩
        · have g0 : decide (c ≥ 97) = true := by simp; omega
          have g1 : decide (c ≤ 122) = false := by simp; omega
          have g2 : decide (c ≥ 65) = true := by simp; omega
          have g3 : decide (c ≤ 90) = false := by simp; omega
          have g4 : decide (c < 48) = false := by simp; omega
          have g5 : decide (c > 57) = true := by simp; omega
          have g6 : (c != 95) = true := by simp; omega
          have g7 : (c == 95) = false := by simp; omega
          have hb : nameOk true b = false := by unfold nameOk letterB digitB; simp; omega
          rw [hb] at hr
          rw [if_neg (by decide)] at hr
          subst hr
          clear hb hc hv
          go_wp2_with fail
          go_ret
          exact ⟨rfl, below_alloc (Below.refl _ _) _⟩
      · rw [show (pos == 0) = false by simpa using hz] at hr
        have hz1 : ((pos : Int) == 0) = false := by simp; omega
        rcases (by omega : c ≤ 47 ∨ (48 ≤ c ∧ c ≤ 57) ∨ (58 ≤ c ∧ c ≤ 64) ∨ (65 ≤ c ∧ c ≤ 90) ∨ (91 ≤ c ∧ c ≤ 94) ∨ c = 95 ∨ c = 96 ∨ (97 ≤ c ∧ c ≤ 122) ∨ 123 ≤ c) with hv | hv | hv | hv | hv | hv | hv | hv | hv
        · have g0 : decide (c ≥ 97) = false := by simp; omega
          have g1 : decide (c ≤ 122) = true := by simp; omega
          have g2 : decide (c ≥ 65) = false := by simp; omega
          have g3 : decide (c ≤ 90) = true := by simp; omega
          have g4 : decide (c < 48) = true := by simp; omega
          have g5 : decide (c > 57) = false := by simp; omega
          have g6 : (c != 95) = true := by simp; omega
          have g7 : (c == 95) = false := by simp; omega
          have hb : nameOk false b = false := by unfold nameOk letterB digitB; simp; omega
          rw [hb] at hr
          rw [if_neg (by decide)] at hr
          subst hr
          clear hb hc hv
          go_wp2_with fail
          go_ret
          exact ⟨rfl, below_alloc (Below.refl _ _) _⟩
        · have g0 : decide (c ≥ 97) = false := by simp; omega
          have g1 : decide (c ≤ 122) = true := by simp; omega
          have g2 : decide (c ≥ 65) = false := by simp; omega
          have g3 : decide (c ≤ 90) = true := by simp; omega
          have g4 : decide (c < 48) = false := by simp; omega
          have g5 : decide (c > 57) = false := by simp; omega
          have g6 : (c != 95) = true := by simp; omega
          have g7 : (c == 95) = false := by simp; omega
          have hb : nameOk false b = true := by unfold nameOk letterB digitB; simp; omega
          rw [hb] at hr
          rw [if_pos rfl] at hr
          have HR := Aside0.mk hr
          have hw1 : wd = 1 := by omega
          subst hw1
          clear hb hc hv hr
          go_wp2_with fail
          go_roundg gk
          case measure => omega
          case rel => exact ⟨pos + 1, rfl, ⟨by omega, by omega⟩, HR⟩
        · have g0 : decide (c ≥ 97) = false := by simp; omega
          have g1 : decide (c ≤ 122) = true := by simp; omega
          have g2 : decide (c ≥ 65) = false := by simp; omega
          have g3 : decide (c ≤ 90) = true := by simp; omega
          have g4 : decide (c < 48) = false := by simp; omega
          have g5 : decide (c > 57) = true := by simp; omega
          have g6 : (c != 95) = true := by simp; omega
          have g7 : (c == 95) = false := by simp; omega
          have hb : nameOk false b = false := by unfold nameOk letterB digitB; simp; omega
          rw [hb] at hr
          rw [if_neg (by decide)] at hr
          subst hr
          clear hb hc hv
          go_wp2_with fail
          go_ret
          exact ⟨rfl, below_alloc (Below.refl _ _) _⟩
        · have g0 : decide (c ≥ 97) = false := by simp; omega
          have g1 : decide (c ≤ 122) = true := by simp; omega
          have g2 : decide (c ≥ 65) = true := by simp; omega
          have g3 : decide (c ≤ 90) = true := by simp; omega
          have g4 : decide (c < 48) = false := by simp; omega
          have g5 : decide (c > 57) = true := by simp; omega
          have g6 : (c != 95) = true := by simp; omega
          have g7 : (c == 95) = false := by simp; omega
          have hb : nameOk false b = true := by unfold nameOk letterB digitB; simp; omega
          rw [hb] at hr
          rw [if_pos rfl] at hr
          have HR := Aside0.mk hr
          have hw1 : wd = 1 := by omega
          subst hw1
          clear hb hc hv hr
          go_wp2_with fail
          go_roundg gk
          case measure => omega
          case rel => exact ⟨pos + 1, rfl, ⟨by omega, by omega⟩, HR⟩
        · have g0 : decide (c ≥ 97) = false := by simp; omega
          have g1 : decide (c ≤ 122) = true := by simp; omega
          have g2 : decide (c ≥ 65) = true := by simp; omega
          have g3 : decide (c ≤ 90) = false := by simp; omega
          have g4 : decide (c < 48) = false := by simp; omega
          have g5 : decide (c > 57) = true := by simp; omega
          have g6 : (c != 95) = true := by simp; omega
          have g7 : (c == 95) = false := by simp; omega
          have hb : nameOk false b = false := by unfold nameOk letterB digitB; simp; omega
          rw [hb] at hr
          rw [if_neg (by decide)] at hr
          subst hr
          clear hb hc hv
          go_wp2_with fail
          go_ret
          exact ⟨rfl, below_alloc (Below.refl _ _) _⟩
        · have g0 : decide (c ≥ 97) = false := by simp; omega
          have g1 : decide (c ≤ 122) = true := by simp; omega
          have g2 : decide (c ≥ 65) = true := by simp; omega
          have g3 : decide (c ≤ 90) = false := by simp; omega
          have g4 : decide (c < 48) = false := by simp; omega
          have g5 : decide (c > 57) = true := by simp; omega
          have g6 : (c != 95) = false := by simp; omega
          have g7 : (c == 95) = true := by simp; omega
          have hb : nameOk false b = true := by unfold nameOk letterB digitB; simp; omega
          rw [hb] at hr
          rw [if_pos rfl] at hr
          have HR := Aside0.mk hr
          have hw1 : wd = 1 := by omega
          subst hw1
          clear hb hc hv hr
          go_wp2_with fail
          go_roundg gk
          case measure => omega
          case rel => exact ⟨pos + 1, rfl, ⟨by omega, by omega⟩, HR⟩
        · have g0 : decide (c ≥ 97) = false := by simp; omega
          have g1 : decide (c ≤ 122) = true := by simp; omega
          have g2 : decide (c ≥ 65) = true := by simp; omega
          have g3 : decide (c ≤ 90) = false := by simp; omega
          have g4 : decide (c < 48) = false := by simp; omega
          have g5 : decide (c > 57) = true := by simp; omega
          have g6 : (c != 95) = true := by simp; omega
          have g7 : (c == 95) = false := by simp; omega
          have hb : nameOk false b = false := by unfold nameOk letterB digitB; simp; omega
          rw [hb] at hr
          rw [if_neg (by decide)] at hr
          subst hr
          clear hb hc hv
          go_wp2_with fail
          go_ret
          exact ⟨rfl, below_alloc (Below.refl _ _) _⟩
        · have g0 : decide (c ≥ 97) = true := by simp; omega
          have g1 : decide (c ≤ 122) = true := by simp; omega
          have g2 : decide (c ≥ 65) = true := by simp; omega
          have g3 : decide (c ≤ 90) = false := by simp; omega
          have g4 : decide (c < 48) = false := by simp; omega
          have g5 : decide (c > 57) = true := by simp; omega
          have g6 : (c != 95) = true := by simp; omega
          have g7 : (c == 95) = false := by simp; omega
          have hb : nameOk false b = true := by unfold nameOk letterB digitB; simp; omega
          rw [hb] at hr
          rw [if_pos rfl] at hr
          have HR := Aside0.mk hr
          have hw1 : wd = 1 := by omega
          subst hw1
          clear hb hc hv hr
          go_wp2_with fail
          go_roundg gk
          case measure => omega
          case rel => exact ⟨pos + 1, rfl, ⟨by omega, by omega⟩, HR⟩
        · have g0 : decide (c ≥ 97) = true := by simp; omega
          have g1 : decide (c ≤ 122) = false := by simp; omega
          have g2 : decide (c ≥ 65) = true := by simp; omega
          have g3 : decide (c ≤ 90) = false := by simp; omega
          have g4 : decide (c < 48) = false := by simp; omega
          have g5 : decide (c > 57) = true := by simp; omega
          have g6 : (c != 95) = true := by simp; omega
          have g7 : (c == 95) = false := by simp; omega
          have hb : nameOk false b = false := by unfold nameOk letterB digitB; simp; omega
          rw [hb] at hr
          rw [if_neg (by decide)] at hr
          subst hr
          clear hb hc hv
          go_wp2_with fail
          go_ret
          exact ⟨rfl, below_alloc (Below.refl _ _) _⟩
    · have hnx : ∀ ty, (Instr.next (.pointer (some ⟨w.heap.size, 0, none⟩)) true ty).run Tryd.prog (w.iter s pos) = _ := fun ty => run_next_end w s pos ty hp
      have hg0 : gk = 0 := by omega
      subst hg0
      rw [nameGo] at hr
      subst hr
      clear hj1 hj2 HJ
      go_wp2_with fail
      go_ret
      exact ⟨rfl, below_alloc (Below.refl _ _) _⟩
end Go.Proofs.YtbbopomecanaoaaDoor.A
namespace Go.Proofs.YtbbopomecanaoaaDoor.A
open Go.RowKit Go.Proofs.YtbbopomecanaoaaDoorW.PrintWords Go.Proofs.YtbbopomecanaoaaDoorW.PrintLast Go.Proofs.YtbbopomecanaoaaDoorW.PrintMore Go.Proofs.YtbbopomecanaoaaDoor.XK
open Go.Proofs.YtbbopomecanaoaaDoor
attribute [local go_sem] max2_int min2_int max_two min_two max_three min_three max_four min_four fld1 fld3
set_option linter.unusedVariables false
set_option linter.unusedSimpArgs false
def nameE (s : ByteArray) : Bool := sNameB s && !resB s
set_option maxRecDepth 100000 in
set_option maxHeartbeats 1000000 in
theorem name_calls (s : ByteArray) (w : World) : Calls Tryd.prog 21 #[.string s] w fun e w' => e = .returned (.bool (nameE s)) ∧ Below w.heap.size w w' := by
  have H1 := Aside0.mk (sname_calls s w)
  have e : nameE s = (sNameB s && !resB s) := rfl
  have HF := Aside0.mk (reserved_f s)
  rw [e]
  clear e
  generalize sNameB s = b1 at *
  generalize resB s = b2 at *
  go_enter Tryd.func21, Tryd.ntmps21
  cases b1 with
  | false =>
    go_wp2_with fail
    with_reducible refine H1.out.mono ?_
    rintro e w1 ⟨rfl, HB1⟩
    replace HB1 := Aside0.mk HB1
    go_wp2_with fail
    go_ret
    exact ⟨rfl, HB1.out⟩
  | true =>
    go_wp2_with fail
    with_reducible refine H1.out.mono ?_
    rintro e w1 ⟨rfl, HB1⟩
    replace HB1 := Aside0.mk HB1
    have H2 := Aside0.mk (equation_reserved.calls s _ w1 HF.out)
    clear HF H1
    go_wp2_with fail
    with_reducible refine H2.out.mono ?_
    rintro e w2 ⟨rfl, HB2⟩
    replace HB1 := Aside0.mk (below_step HB1.out HB2.below)
    clear HB2 H2
    cases b2 with
    | true =>
      go_wp2_with fail
      go_ret
      exact ⟨rfl, HB1.out⟩
    | false =>
      go_wp2_with fail
      go_ret
      exact ⟨rfl, HB1.out⟩
def arityI (op : Int) : Int :=
  if op = 1 ∨ op = 2 ∨ op = 3 then 0 else if op = 4 ∨ op = 15 ∨ op = 17 ∨ op = 18 ∨ op = 19 ∨ op = 20 then 1
  else if (5 ≤ op ∧ op ≤ 14) ∨ op = 21 ∨ op = 22 then 2 else if op = 16 then 3 else -1
theorem arity_all (op : Int) : equation_arity.f 3 op = some (arityI op) := by
  by_cases h : 1 ≤ op ∧ op ≤ 22
  · have : op = 1 ∨ op = 2 ∨ op = 3 ∨ op = 4 ∨ op = 5 ∨ op = 6 ∨ op = 7 ∨ op = 8 ∨ op = 9 ∨ op = 10 ∨ op = 11 ∨ op = 12 ∨ op = 13 ∨ op = 14 ∨ op = 15 ∨ op = 16 ∨ op = 17 ∨ op = 18 ∨ op = 19 ∨ op = 20 ∨ op = 21 ∨ op = 22 := by omega
    rcases this with rfl | rfl | rfl | rfl | rfl | rfl | rfl | rfl | rfl | rfl | rfl | rfl | rfl | rfl | rfl | rfl | rfl | rfl | rfl | rfl | rfl | rfl <;> rfl
  · have hk : ∀ n : Int, 1 ≤ n → n ≤ 22 → ¬ op = n := fun n h1 h2 e => h (by omega)
    have e2 : arityI op = -1 := by
      unfold arityI
      rw [if_neg (by omega), if_neg (by omega), if_neg (by omega), if_neg (by omega)]
    rw [e2]
    unfold equation_arity.f
    simp only [equation_arity.j0, equation_arity.j1, equation_arity.j2, hk 1 (by decide) (by decide), hk 2 (by decide) (by decide), hk 3 (by decide) (by decide), hk 4 (by decide) (by decide), hk 5 (by decide) (by decide), hk 6 (by decide) (by decide), hk 7 (by decide) (by decide), hk 8 (by decide) (by decide), hk 9 (by decide) (by decide), hk 10 (by decide) (by decide), hk 11 (by decide) (by decide), hk 12 (by decide) (by decide), hk 13 (by decide) (by decide), hk 14 (by decide) (by decide), hk 15 (by decide) (by decide), hk 16 (by decide) (by decide), hk 17 (by decide) (by decide), hk 18 (by decide) (by decide), hk 19 (by decide) (by decide), hk 20 (by decide) (by decide), hk 21 (by decide) (by decide), hk 22 (by decide) (by decide), beq_iff_eq, if_false]
end Go.Proofs.YtbbopomecanaoaaDoor.A
namespace Go.Proofs.YtbbopomecanaoaaDoor.A
open Go.RowKit Go.Proofs.YtbbopomecanaoaaDoorW.PrintWords Go.Proofs.YtbbopomecanaoaaDoorW.PrintLast Go.Proofs.YtbbopomecanaoaaDoorW.PrintMore Go.Proofs.YtbbopomecanaoaaDoor.XK
open Go.Proofs.YtbbopomecanaoaaDoor
attribute [local go_sem] max2_int min2_int max_two min_two max_three min_three max_four min_four fld1 fld3
set_option linter.unusedVariables false
set_option linter.unusedSimpArgs false
def boundI (op : Int) : Int := if op = 1 then 1 else if op = 2 then 32767 else if op = 19 ∨ op = 20 then 500 else 0
set_option maxRecDepth 100000 in
set_option maxHeartbeats 1000000 in
theorem bound_calls (op : Int) (w : World) : Calls Tryd.prog 50 #[.int .i64 op] w fun e w' => e = .returned (.int .i64 (boundI op)) ∧ Below w.heap.size w w' := by
  by_cases h : op = 1 ∨ op = 2 ∨ op = 19 ∨ op = 20
  · rcases h with rfl | rfl | rfl | rfl <;>
    · go_enter Tryd.func50, Tryd.ntmps50
      go_wp2_with fail
      go_ret
      exact ⟨rfl, Below.refl _ _⟩
  · have e : boundI op = 0 := by
      unfold boundI
      rw [if_neg (by omega), if_neg (by omega), if_neg (by omega)]
    rw [e]
    have h1 : (op == 1) = false := by simp; omega
    have h2 : (op == 2) = false := by simp; omega
    have h3 : (op == 19) = false := by simp; omega
    have h4 : (op == 20) = false := by simp; omega
    clear h e
    go_enter Tryd.func50, Tryd.ntmps50
    go_wp2_with fail
    go_ret
    exact ⟨rfl, Below.refl _ _⟩
def namedB (x : E) : Bool := if x.f0 = 3 then nameE x.f2 else decide (x.f2.toList = [])
def nodeB (x : E) : Bool := namedB x && decide ((x.f3.length : Int) = arityI x.f0) && decide (0 ≤ x.f1) && decide (x.f1 ≤ boundI x.f0)
set_option maxRecDepth 100000 in
set_option maxHeartbeats 3000000 in
theorem node_calls (x : E) (A : Option Addr) (c : Nat) (w : World) : Calls Tryd.prog 30 #[.agg (cE x (.slice A x.f3.length c))] w fun e w' => e = .returned (.bool (nodeB x)) ∧ Below w.heap.size w w' := by
  obtain ⟨r, hr⟩ : ∃ r, nodeB x = r := ⟨_, rfl⟩
  rw [hr]
  unfold nodeB at hr
  have HB := Aside0.mk (below_alloc (Below.refl w.heap.size w) (.cells (cE x (.slice A x.f3.length c)) 24))
  have BX := Aside0.mk (heap_alloc_new w (.cells (cE x (.slice A x.f3.length c)) 24))
  have HE := Aside0.mk hr
  have HN := Aside0.mk (fun w => name_calls x.f2 w)
  clear hr
  by_cases h3 : x.f0 = 3
  · have b3 : (x.f0 == 3) = true := by simpa using h3
    have hE := HE.out
    rw [show namedB x = nameE x.f2 from if_pos h3] at hE
    clear h3 HE
    generalize nameE x.f2 = nb at *
    go_enter Tryd.func30, Tryd.ntmps30
    go_wp2_with fail
    with_reducible refine (HN.out _).mono ?_
    clear HN
    rintro e w1 ⟨rfl, HB1⟩
    replace HB := Aside0.mk (below_step HB.out HB1)
    replace BX := Aside0.mk (blk_below BX.out HB1)
    clear HB1
    go_wp2_with fail
    generalize w.heap.size = xb at BX ⊢
    have x0 : w1.cell? ⟨xb, 0, none⟩ = some (.int .i64 x.f0) := blk_cell BX.out 0
    have x1 : w1.cell? ⟨xb, 1, none⟩ = some (.int .i64 x.f1) := blk_cell BX.out 1
    have x3 : w1.cell? ⟨xb, 3, none⟩ = some (.slice A x.f3.length c) := blk_cell BX.out 3
    clear BX
    cases nb with
    | false =>
      rw [show (false && decide ((x.f3.length : Int) = arityI x.f0) && decide (0 ≤ x.f1) && decide (x.f1 ≤ boundI x.f0)) = false from rfl] at hE
      subst hE
      refine Q.q_start (by kernel_rfl) (by kernel_rfl) ?_
      refine Q.q_value (N := some 13) (v := ?_) (a' := ?_) rfl (by rfl) ?_ ?_ ?_
      rotate_left
      · intro w' hb
        clear hb
        go_simp
        with_reducible rfl
      rotate_left
      · simp only [Act.put, List.setIfInBounds_toArray, List.set_cons_zero, List.set_cons_succ, i64_w, i32_w]
        rfl
      refine Q.q_value (N := some 14) (v := ?_) (a' := ?_) rfl (by rfl) ?_ ?_ ?_
      rotate_left
      · intro w' hb
        clear hb
        go_simp
        with_reducible rfl
      rotate_left
      · simp only [Act.put, List.setIfInBounds_toArray, List.set_cons_zero, List.set_cons_succ, i64_w, i32_w]
        rfl
      refine Q.q_off (N := some 15) (a' := ?_) rfl (by rfl) ?_ ?_
      rotate_left
      · simp only [Act.put, List.setIfInBounds_toArray, List.set_cons_zero, List.set_cons_succ, i64_w, i32_w]
        rfl
      refine Q.q_off (N := some 16) (a' := ?_) rfl (by rfl) ?_ ?_
      rotate_left
      · simp only [Act.put, List.setIfInBounds_toArray, List.set_cons_zero, List.set_cons_succ, i64_w, i32_w]
        rfl
      refine Q.q_off (N := some 17) (a' := ?_) rfl (by rfl) ?_ ?_
      rotate_left
      · simp only [Act.put, List.setIfInBounds_toArray, List.set_cons_zero, List.set_cons_succ, i64_w, i32_w]
        rfl
      refine Q.q_off (N := some 18) (a' := ?_) rfl (by rfl) ?_ ?_
      rotate_left
      · simp only [Act.put, List.setIfInBounds_toArray, List.set_cons_zero, List.set_cons_succ, i64_w, i32_w]
        rfl
      refine Q.q_off (N := some 19) (a' := ?_) rfl (by rfl) ?_ ?_
      rotate_left
      · simp only [Act.put, List.setIfInBounds_toArray, List.set_cons_zero, List.set_cons_succ, i64_w, i32_w]
        rfl
      refine Q.q_off (N := some 20) (a' := ?_) rfl (by rfl) ?_ ?_
      rotate_left
      · simp only [Act.put, List.setIfInBounds_toArray, List.set_cons_zero, List.set_cons_succ, i64_w, i32_w]
        rfl
      refine Q.q_off (N := some 21) (a' := ?_) rfl (by rfl) ?_ ?_
      rotate_left
      · simp only [Act.put, List.setIfInBounds_toArray, List.set_cons_zero, List.set_cons_succ, i64_w, i32_w]
        rfl
      refine Q.q_value (N := some 22) (v := ?_) (a' := ?_) rfl (by rfl) ?_ ?_ ?_
      rotate_left
      · intro w' hb
        clear hb
        go_simp
        with_reducible rfl
      rotate_left
      · simp only [Act.put, List.setIfInBounds_toArray, List.set_cons_zero, List.set_cons_succ, i64_w, i32_w]
        rfl
      refine Q.q_value (N := some 23) (v := ?_) (a' := ?_) rfl (by rfl) ?_ ?_ ?_
      rotate_left
      · intro w' hb
        clear hb
        go_simp
        with_reducible rfl
      rotate_left
      · simp only [Act.put, List.setIfInBounds_toArray, List.set_cons_zero, List.set_cons_succ, i64_w, i32_w]
        rfl
      refine Q.q_off (N := some 24) (a' := ?_) rfl (by rfl) ?_ ?_
      rotate_left
      · simp only [Act.put, List.setIfInBounds_toArray, List.set_cons_zero, List.set_cons_succ, i64_w, i32_w]
        rfl
      refine Q.q_off (N := some 25) (a' := ?_) rfl (by rfl) ?_ ?_
      rotate_left
      · simp only [Act.put, List.setIfInBounds_toArray, List.set_cons_zero, List.set_cons_succ, i64_w, i32_w]
        rfl
      refine Q.q_off (N := some 26) (a' := ?_) rfl (by rfl) ?_ ?_
      rotate_left
      · simp only [Act.put, List.setIfInBounds_toArray, List.set_cons_zero, List.set_cons_succ, i64_w, i32_w]
        rfl
      refine Q.q_value (N := some 27) (v := ?_) (a' := ?_) rfl (by rfl) ?_ ?_ ?_
      rotate_left
      · intro w' hb
        clear hb
        go_simp
        with_reducible rfl
      rotate_left
      · simp only [Act.put, List.setIfInBounds_toArray, List.set_cons_zero, List.set_cons_succ, i64_w, i32_w]
        rfl
      refine Q.q_value (N := some 28) (v := ?_) (a' := ?_) rfl (by rfl) ?_ ?_ ?_
      rotate_left
      · intro w' hb
        clear hb
        go_simp
        with_reducible rfl
      rotate_left
      · simp only [Act.put, List.setIfInBounds_toArray, List.set_cons_zero, List.set_cons_succ, i64_w, i32_w]
        rfl
      refine Q.q_off (N := some 29) (a' := ?_) rfl (by rfl) ?_ ?_
      rotate_left
      · simp only [Act.put, List.setIfInBounds_toArray, List.set_cons_zero, List.set_cons_succ, i64_w, i32_w]
        rfl
      refine Q.q_off (N := some 30) (a' := ?_) rfl (by rfl) ?_ ?_
      rotate_left
      · simp only [Act.put, List.setIfInBounds_toArray, List.set_cons_zero, List.set_cons_succ, i64_w, i32_w]
        rfl
      refine Q.q_off (N := some 31) (a' := ?_) rfl (by rfl) ?_ ?_
      rotate_left
      · simp only [Act.put, List.setIfInBounds_toArray, List.set_cons_zero, List.set_cons_succ, i64_w, i32_w]
        rfl
      refine Q.q_off (N := some 32) (a' := ?_) rfl (by rfl) ?_ ?_
      rotate_left
      · simp only [Act.put, List.setIfInBounds_toArray, List.set_cons_zero, List.set_cons_succ, i64_w, i32_w]
        rfl
      refine Q.q_off (N := some 33) (a' := ?_) rfl (by rfl) ?_ ?_
      rotate_left
      · simp only [Act.put, List.setIfInBounds_toArray, List.set_cons_zero, List.set_cons_succ, i64_w, i32_w]
        rfl
      refine Q.q_off (N := some 34) (a' := ?_) rfl (by rfl) ?_ ?_
      rotate_left
      · simp only [Act.put, List.setIfInBounds_toArray, List.set_cons_zero, List.set_cons_succ, i64_w, i32_w]
        rfl
      refine Q.q_value (N := some 35) (v := ?_) (a' := ?_) rfl (by rfl) ?_ ?_ ?_
      rotate_left
      · intro w' hb
        clear hb
        go_simp
        with_reducible rfl
      rotate_left
      · simp only [Act.put, List.setIfInBounds_toArray, List.set_cons_zero, List.set_cons_succ, i64_w, i32_w]
        rfl
      refine Q.q_value (N := some 2) (v := ?_) (a' := ?_) rfl (by rfl) ?_ ?_ ?_
      rotate_left
      · intro w' hb
        clear hb
        go_simp
        with_reducible rfl
      rotate_left
      · simp only [Act.put, List.setIfInBounds_toArray, List.set_cons_zero, List.set_cons_succ, i64_w, i32_w]
        rfl
      refine wpQuiet_nil ?_
      intro w9 HB9
      replace HB := Aside0.mk (below_step HB.out HB9)
      clear HB9
      go_wp2_with fail
      go_ret
      exact ⟨rfl, HB.out⟩
    | true =>
      by_cases h1 : (x.f3.length : Int) = arityI x.f0
      · by_cases h2 : 0 ≤ x.f1
        · rw [show (true && decide ((x.f3.length : Int) = arityI x.f0) && decide (0 ≤ x.f1) && decide (x.f1 ≤ boundI x.f0)) = decide (x.f1 ≤ boundI x.f0) by simp [h1, h2]] at hE
          subst hE
          have g1 : ((x.f3.length : Int) == arityI x.f0) = true := by simpa using h1
          have g2 : decide (x.f1 ≥ 0) = true := by simpa using h2
          clear h1 h2
          refine Q.q_start (by kernel_rfl) (by kernel_rfl) ?_
          refine Q.q_value (N := some 13) (v := ?_) (a' := ?_) rfl (by rfl) ?_ ?_ ?_
          rotate_left
          · intro w' hb
            clear hb
            go_simp
            with_reducible rfl
          rotate_left
          · simp only [Act.put, List.setIfInBounds_toArray, List.set_cons_zero, List.set_cons_succ, i64_w, i32_w]
            rfl
          refine Q.q_value (N := some 14) (v := ?_) (a' := ?_) rfl (by rfl) ?_ ?_ ?_
          rotate_left
          · intro w' hb
            clear hb
            go_simp
            with_reducible rfl
          rotate_left
          · simp only [Act.put, List.setIfInBounds_toArray, List.set_cons_zero, List.set_cons_succ, i64_w, i32_w]
            rfl
          refine Q.q_value (N := some 15) (v := ?_) (a' := ?_) rfl (by rfl) ?_ ?_ ?_
          rotate_left
          · intro w' hb
            clear hb
            go_simp
            with_reducible rfl
          rotate_left
          · simp only [Act.put, List.setIfInBounds_toArray, List.set_cons_zero, List.set_cons_succ, i64_w, i32_w]
            rfl
          refine Q.q_value (N := some 16) (v := ?_) (a' := ?_) rfl (by rfl) ?_ ?_ ?_
          rotate_left
          · intro w' hb
            have s0 := pw_cell_below hb x3
            clear hb
            go_simp
            with_reducible rfl
          rotate_left
          · simp only [Act.put, List.setIfInBounds_toArray, List.set_cons_zero, List.set_cons_succ, i64_w, i32_w]
            rfl
          refine Q.q_value (N := some 17) (v := ?_) (a' := ?_) rfl (by rfl) ?_ ?_ ?_
          rotate_left
          · intro w' hb
            clear hb
            go_simp
            with_reducible rfl
          rotate_left
          · simp only [Act.put, List.setIfInBounds_toArray, List.set_cons_zero, List.set_cons_succ, i64_w, i32_w]
            rfl
          refine Q.q_value (N := some 18) (v := ?_) (a' := ?_) rfl (by rfl) ?_ ?_ ?_
          rotate_left
          · intro w' hb
            clear hb
            go_simp
            with_reducible rfl
          rotate_left
          · simp only [Act.put, List.setIfInBounds_toArray, List.set_cons_zero, List.set_cons_succ, i64_w, i32_w]
            rfl
          refine Q.q_value (N := some 19) (v := ?_) (a' := ?_) rfl (by rfl) ?_ ?_ ?_
          rotate_left
          · intro w' hb
            have s0 := pw_cell_below hb x0
            clear hb
            go_simp
            with_reducible rfl
          rotate_left
          · simp only [Act.put, List.setIfInBounds_toArray, List.set_cons_zero, List.set_cons_succ, i64_w, i32_w]
            rfl
          refine Q.q_call (N := some 20) (v := .int .i64 (arityI x.f0)) (a' := ?_) 49 #[.int .i64 x.f0] rfl (by rfl) Tryd.func49 (by kernel_rfl) rfl (by rfl) (by first | rfl | (simp only [List.map_toArray, List.map_cons, List.map_nil]; done) | (simp only [List.map_toArray, List.map_cons, List.map_nil]; rfl)) (fun w' hb => (equation_arity.calls 3 x.f0 _ w' (arity_all x.f0)).mono fun e w'' ⟨he, hb'⟩ => ⟨he, below_step hb hb'.below⟩) ?_ ?_
          rotate_left
          · simp only [Act.put, List.setIfInBounds_toArray, List.set_cons_zero, List.set_cons_succ, i64_w, i32_w]
            rfl
          refine Q.q_value (N := some 21) (v := ?_) (a' := ?_) rfl (by rfl) ?_ ?_ ?_
          rotate_left
          · intro w' hb
            clear hb
            go_simp
            with_reducible rfl
          rotate_left
          · simp only [Act.put, List.setIfInBounds_toArray, List.set_cons_zero, List.set_cons_succ, i64_w, i32_w]
            rfl
          refine Q.q_value (N := some 22) (v := ?_) (a' := ?_) rfl (by rfl) ?_ ?_ ?_
          rotate_left
          · intro w' hb
            clear hb
            go_simp
            with_reducible rfl
          rotate_left
          · simp only [Act.put, List.setIfInBounds_toArray, List.set_cons_zero, List.set_cons_succ, i64_w, i32_w]
            rfl
          refine Q.q_value (N := some 23) (v := ?_) (a' := ?_) rfl (by rfl) ?_ ?_ ?_
          rotate_left
          · intro w' hb
            clear hb
            go_simp
            with_reducible rfl
          rotate_left
          · simp only [Act.put, List.setIfInBounds_toArray, List.set_cons_zero, List.set_cons_succ, i64_w, i32_w]
            rfl
          refine Q.q_value (N := some 24) (v := ?_) (a' := ?_) rfl (by rfl) ?_ ?_ ?_
          rotate_left
          · intro w' hb
            clear hb
            go_simp
            with_reducible rfl
          rotate_left
          · simp only [Act.put, List.setIfInBounds_toArray, List.set_cons_zero, List.set_cons_succ, i64_w, i32_w]
            rfl
          refine Q.q_value (N := some 25) (v := ?_) (a' := ?_) rfl (by rfl) ?_ ?_ ?_
          rotate_left
          · intro w' hb
            have s0 := pw_cell_below hb x1
            clear hb
            go_simp
            with_reducible rfl
          rotate_left
          · simp only [Act.put, List.setIfInBounds_toArray, List.set_cons_zero, List.set_cons_succ, i64_w, i32_w]
            rfl
          refine Q.q_value (N := some 26) (v := ?_) (a' := ?_) rfl (by rfl) ?_ ?_ ?_
          rotate_left
          · intro w' hb
            clear hb
            go_simp
            with_reducible rfl
          rotate_left
          · simp only [Act.put, List.setIfInBounds_toArray, List.set_cons_zero, List.set_cons_succ, i64_w, i32_w]
            rfl
          refine Q.q_value (N := some 27) (v := ?_) (a' := ?_) rfl (by rfl) ?_ ?_ ?_
          rotate_left
          · intro w' hb
            clear hb
            go_simp
            with_reducible rfl
          rotate_left
          · simp only [Act.put, List.setIfInBounds_toArray, List.set_cons_zero, List.set_cons_succ, i64_w, i32_w]
            rfl
          refine Q.q_value (N := some 28) (v := ?_) (a' := ?_) rfl (by rfl) ?_ ?_ ?_
          rotate_left
          · intro w' hb
            clear hb
            go_simp
            with_reducible rfl
          rotate_left
          · simp only [Act.put, List.setIfInBounds_toArray, List.set_cons_zero, List.set_cons_succ, i64_w, i32_w]
            rfl
          refine Q.q_value (N := some 29) (v := ?_) (a' := ?_) rfl (by rfl) ?_ ?_ ?_
          rotate_left
          · intro w' hb
            clear hb
            go_simp
            with_reducible rfl
          rotate_left
          · simp only [Act.put, List.setIfInBounds_toArray, List.set_cons_zero, List.set_cons_succ, i64_w, i32_w]
            rfl
          refine Q.q_value (N := some 30) (v := ?_) (a' := ?_) rfl (by rfl) ?_ ?_ ?_
          rotate_left
          · intro w' hb
            have s0 := pw_cell_below hb x1
            clear hb
            go_simp
            with_reducible rfl
          rotate_left
          · simp only [Act.put, List.setIfInBounds_toArray, List.set_cons_zero, List.set_cons_succ, i64_w, i32_w]
            rfl
          refine Q.q_value (N := some 31) (v := ?_) (a' := ?_) rfl (by rfl) ?_ ?_ ?_
          rotate_left
          · intro w' hb
            clear hb
            go_simp
            with_reducible rfl
          rotate_left
          · simp only [Act.put, List.setIfInBounds_toArray, List.set_cons_zero, List.set_cons_succ, i64_w, i32_w]
            rfl
          refine Q.q_value (N := some 32) (v := ?_) (a' := ?_) rfl (by rfl) ?_ ?_ ?_
          rotate_left
          · intro w' hb
            have s0 := pw_cell_below hb x0
            clear hb
            go_simp
            with_reducible rfl
          rotate_left
          · simp only [Act.put, List.setIfInBounds_toArray, List.set_cons_zero, List.set_cons_succ, i64_w, i32_w]
            rfl
          refine Q.q_call (N := some 33) (v := .int .i64 (boundI x.f0)) (a' := ?_) 50 #[.int .i64 x.f0] rfl (by rfl) Tryd.func50 (by kernel_rfl) rfl (by rfl) (by first | rfl | (simp only [List.map_toArray, List.map_cons, List.map_nil]; done) | (simp only [List.map_toArray, List.map_cons, List.map_nil]; rfl)) (fun w' hb => (bound_calls x.f0 w').mono fun e w'' ⟨he, hb'⟩ => ⟨he, below_step hb hb'⟩) ?_ ?_
          rotate_left
          · simp only [Act.put, List.setIfInBounds_toArray, List.set_cons_zero, List.set_cons_succ, i64_w, i32_w]
            rfl
          refine Q.q_value (N := some 34) (v := ?_) (a' := ?_) rfl (by rfl) ?_ ?_ ?_
          rotate_left
          · intro w' hb
            clear hb
            go_simp
            with_reducible rfl
          rotate_left
          · simp only [Act.put, List.setIfInBounds_toArray, List.set_cons_zero, List.set_cons_succ, i64_w, i32_w]
            rfl
          refine Q.q_value (N := some 35) (v := ?_) (a' := ?_) rfl (by rfl) ?_ ?_ ?_
          rotate_left
          · intro w' hb
            clear hb
            go_simp
            with_reducible rfl
          rotate_left
          · simp only [Act.put, List.setIfInBounds_toArray, List.set_cons_zero, List.set_cons_succ, i64_w, i32_w]
            rfl
          refine Q.q_value (N := some 2) (v := ?_) (a' := ?_) rfl (by rfl) ?_ ?_ ?_
          rotate_left
          · intro w' hb
            clear hb
            go_simp
            with_reducible rfl
          rotate_left
          · simp only [Act.put, List.setIfInBounds_toArray, List.set_cons_zero, List.set_cons_succ, i64_w, i32_w]
            rfl
          refine wpQuiet_nil ?_
          intro w9 HB9
          replace HB := Aside0.mk (below_step HB.out HB9)
          clear HB9
          go_wp2_with fail
          go_ret
          exact ⟨rfl, HB.out⟩
        · rw [show (true && decide ((x.f3.length : Int) = arityI x.f0) && decide (0 ≤ x.f1) && decide (x.f1 ≤ boundI x.f0)) = false by simp [h2]] at hE
          subst hE
          have g1 : ((x.f3.length : Int) == arityI x.f0) = true := by simpa using h1
          have g2 : decide (x.f1 ≥ 0) = false := by simpa using h2
          clear h1 h2
          refine Q.q_start (by kernel_rfl) (by kernel_rfl) ?_
          refine Q.q_value (N := some 13) (v := ?_) (a' := ?_) rfl (by rfl) ?_ ?_ ?_
          rotate_left
          · intro w' hb
            clear hb
            go_simp
            with_reducible rfl
          rotate_left
          · simp only [Act.put, List.setIfInBounds_toArray, List.set_cons_zero, List.set_cons_succ, i64_w, i32_w]
            rfl
          refine Q.q_value (N := some 14) (v := ?_) (a' := ?_) rfl (by rfl) ?_ ?_ ?_
          rotate_left
          · intro w' hb
            clear hb
            go_simp
            with_reducible rfl
          rotate_left
          · simp only [Act.put, List.setIfInBounds_toArray, List.set_cons_zero, List.set_cons_succ, i64_w, i32_w]
            rfl
          refine Q.q_value (N := some 15) (v := ?_) (a' := ?_) rfl (by rfl) ?_ ?_ ?_
          rotate_left
          · intro w' hb
            clear hb
            go_simp
            with_reducible rfl
          rotate_left
          · simp only [Act.put, List.setIfInBounds_toArray, List.set_cons_zero, List.set_cons_succ, i64_w, i32_w]
            rfl
          refine Q.q_value (N := some 16) (v := ?_) (a' := ?_) rfl (by rfl) ?_ ?_ ?_
          rotate_left
          · intro w' hb
            have s0 := pw_cell_below hb x3
            clear hb
            go_simp
            with_reducible rfl
          rotate_left
          · simp only [Act.put, List.setIfInBounds_toArray, List.set_cons_zero, List.set_cons_succ, i64_w, i32_w]
            rfl
          refine Q.q_value (N := some 17) (v := ?_) (a' := ?_) rfl (by rfl) ?_ ?_ ?_
          rotate_left
          · intro w' hb
            clear hb
            go_simp
            with_reducible rfl
          rotate_left
          · simp only [Act.put, List.setIfInBounds_toArray, List.set_cons_zero, List.set_cons_succ, i64_w, i32_w]
            rfl
          refine Q.q_value (N := some 18) (v := ?_) (a' := ?_) rfl (by rfl) ?_ ?_ ?_
          rotate_left
          · intro w' hb
            clear hb
            go_simp
            with_reducible rfl
          rotate_left
          · simp only [Act.put, List.setIfInBounds_toArray, List.set_cons_zero, List.set_cons_succ, i64_w, i32_w]
            rfl
          refine Q.q_value (N := some 19) (v := ?_) (a' := ?_) rfl (by rfl) ?_ ?_ ?_
          rotate_left
          · intro w' hb
            have s0 := pw_cell_below hb x0
            clear hb
            go_simp
            with_reducible rfl
          rotate_left
          · simp only [Act.put, List.setIfInBounds_toArray, List.set_cons_zero, List.set_cons_succ, i64_w, i32_w]
            rfl
          refine Q.q_call (N := some 20) (v := .int .i64 (arityI x.f0)) (a' := ?_) 49 #[.int .i64 x.f0] rfl (by rfl) Tryd.func49 (by kernel_rfl) rfl (by rfl) (by first | rfl | (simp only [List.map_toArray, List.map_cons, List.map_nil]; done) | (simp only [List.map_toArray, List.map_cons, List.map_nil]; rfl)) (fun w' hb => (equation_arity.calls 3 x.f0 _ w' (arity_all x.f0)).mono fun e w'' ⟨he, hb'⟩ => ⟨he, below_step hb hb'.below⟩) ?_ ?_
          rotate_left
          · simp only [Act.put, List.setIfInBounds_toArray, List.set_cons_zero, List.set_cons_succ, i64_w, i32_w]
            rfl
          refine Q.q_value (N := some 21) (v := ?_) (a' := ?_) rfl (by rfl) ?_ ?_ ?_
          rotate_left
          · intro w' hb
            clear hb
            go_simp
            with_reducible rfl
          rotate_left
          · simp only [Act.put, List.setIfInBounds_toArray, List.set_cons_zero, List.set_cons_succ, i64_w, i32_w]
            rfl
          refine Q.q_value (N := some 22) (v := ?_) (a' := ?_) rfl (by rfl) ?_ ?_ ?_
          rotate_left
          · intro w' hb
            clear hb
            go_simp
            with_reducible rfl
          rotate_left
          · simp only [Act.put, List.setIfInBounds_toArray, List.set_cons_zero, List.set_cons_succ, i64_w, i32_w]
            rfl
          refine Q.q_value (N := some 23) (v := ?_) (a' := ?_) rfl (by rfl) ?_ ?_ ?_
          rotate_left
          · intro w' hb
            clear hb
            go_simp
            with_reducible rfl
          rotate_left
          · simp only [Act.put, List.setIfInBounds_toArray, List.set_cons_zero, List.set_cons_succ, i64_w, i32_w]
            rfl
          refine Q.q_value (N := some 24) (v := ?_) (a' := ?_) rfl (by rfl) ?_ ?_ ?_
          rotate_left
          · intro w' hb
            clear hb
            go_simp
            with_reducible rfl
          rotate_left
          · simp only [Act.put, List.setIfInBounds_toArray, List.set_cons_zero, List.set_cons_succ, i64_w, i32_w]
            rfl
          refine Q.q_value (N := some 25) (v := ?_) (a' := ?_) rfl (by rfl) ?_ ?_ ?_
          rotate_left
          · intro w' hb
            have s0 := pw_cell_below hb x1
            clear hb
            go_simp
            with_reducible rfl
          rotate_left
          · simp only [Act.put, List.setIfInBounds_toArray, List.set_cons_zero, List.set_cons_succ, i64_w, i32_w]
            rfl
          refine Q.q_value (N := some 26) (v := ?_) (a' := ?_) rfl (by rfl) ?_ ?_ ?_
          rotate_left
          · intro w' hb
            clear hb
            go_simp
            with_reducible rfl
          rotate_left
          · simp only [Act.put, List.setIfInBounds_toArray, List.set_cons_zero, List.set_cons_succ, i64_w, i32_w]
            rfl
          refine Q.q_value (N := some 27) (v := ?_) (a' := ?_) rfl (by rfl) ?_ ?_ ?_
          rotate_left
          · intro w' hb
            clear hb
            go_simp
            with_reducible rfl
          rotate_left
          · simp only [Act.put, List.setIfInBounds_toArray, List.set_cons_zero, List.set_cons_succ, i64_w, i32_w]
            rfl
          refine Q.q_value (N := some 28) (v := ?_) (a' := ?_) rfl (by rfl) ?_ ?_ ?_
          rotate_left
          · intro w' hb
            clear hb
            go_simp
            with_reducible rfl
          rotate_left
          · simp only [Act.put, List.setIfInBounds_toArray, List.set_cons_zero, List.set_cons_succ, i64_w, i32_w]
            rfl
          refine Q.q_off (N := some 29) (a' := ?_) rfl (by rfl) ?_ ?_
          rotate_left
          · simp only [Act.put, List.setIfInBounds_toArray, List.set_cons_zero, List.set_cons_succ, i64_w, i32_w]
            rfl
          refine Q.q_off (N := some 30) (a' := ?_) rfl (by rfl) ?_ ?_
          rotate_left
          · simp only [Act.put, List.setIfInBounds_toArray, List.set_cons_zero, List.set_cons_succ, i64_w, i32_w]
            rfl
          refine Q.q_off (N := some 31) (a' := ?_) rfl (by rfl) ?_ ?_
          rotate_left
          · simp only [Act.put, List.setIfInBounds_toArray, List.set_cons_zero, List.set_cons_succ, i64_w, i32_w]
            rfl
          refine Q.q_off (N := some 32) (a' := ?_) rfl (by rfl) ?_ ?_
          rotate_left
          · simp only [Act.put, List.setIfInBounds_toArray, List.set_cons_zero, List.set_cons_succ, i64_w, i32_w]
            rfl
          refine Q.q_off (N := some 33) (a' := ?_) rfl (by rfl) ?_ ?_
          rotate_left
          · simp only [Act.put, List.setIfInBounds_toArray, List.set_cons_zero, List.set_cons_succ, i64_w, i32_w]
            rfl
          refine Q.q_off (N := some 34) (a' := ?_) rfl (by rfl) ?_ ?_
          rotate_left
          · simp only [Act.put, List.setIfInBounds_toArray, List.set_cons_zero, List.set_cons_succ, i64_w, i32_w]
            rfl
          refine Q.q_value (N := some 35) (v := ?_) (a' := ?_) rfl (by rfl) ?_ ?_ ?_
          rotate_left
          · intro w' hb
            clear hb
            go_simp
            with_reducible rfl
          rotate_left
          · simp only [Act.put, List.setIfInBounds_toArray, List.set_cons_zero, List.set_cons_succ, i64_w, i32_w]
            rfl
          refine Q.q_value (N := some 2) (v := ?_) (a' := ?_) rfl (by rfl) ?_ ?_ ?_
          rotate_left
          · intro w' hb
            clear hb
            go_simp
            with_reducible rfl
          rotate_left
          · simp only [Act.put, List.setIfInBounds_toArray, List.set_cons_zero, List.set_cons_succ, i64_w, i32_w]
            rfl
          refine wpQuiet_nil ?_
          intro w9 HB9
          replace HB := Aside0.mk (below_step HB.out HB9)
          clear HB9
          go_wp2_with fail
          go_ret
          exact ⟨rfl, HB.out⟩
      · rw [show (true && decide ((x.f3.length : Int) = arityI x.f0) && decide (0 ≤ x.f1) && decide (x.f1 ≤ boundI x.f0)) = false by simp [h1]] at hE
        subst hE
        have g1 : ((x.f3.length : Int) == arityI x.f0) = false := by simpa using h1
        clear h1
        refine Q.q_start (by kernel_rfl) (by kernel_rfl) ?_
        refine Q.q_value (N := some 13) (v := ?_) (a' := ?_) rfl (by rfl) ?_ ?_ ?_
        rotate_left
        · intro w' hb
          clear hb
          go_simp
          with_reducible rfl
        rotate_left
        · simp only [Act.put, List.setIfInBounds_toArray, List.set_cons_zero, List.set_cons_succ, i64_w, i32_w]
          rfl
        refine Q.q_value (N := some 14) (v := ?_) (a' := ?_) rfl (by rfl) ?_ ?_ ?_
        rotate_left
        · intro w' hb
          clear hb
          go_simp
          with_reducible rfl
        rotate_left
        · simp only [Act.put, List.setIfInBounds_toArray, List.set_cons_zero, List.set_cons_succ, i64_w, i32_w]
          rfl
        refine Q.q_value (N := some 15) (v := ?_) (a' := ?_) rfl (by rfl) ?_ ?_ ?_
        rotate_left
        · intro w' hb
          clear hb
          go_simp
          with_reducible rfl
        rotate_left
        · simp only [Act.put, List.setIfInBounds_toArray, List.set_cons_zero, List.set_cons_succ, i64_w, i32_w]
          rfl
        refine Q.q_value (N := some 16) (v := ?_) (a' := ?_) rfl (by rfl) ?_ ?_ ?_
        rotate_left
        · intro w' hb
          have s0 := pw_cell_below hb x3
          clear hb
          go_simp
          with_reducible rfl
        rotate_left
        · simp only [Act.put, List.setIfInBounds_toArray, List.set_cons_zero, List.set_cons_succ, i64_w, i32_w]
          rfl
        refine Q.q_value (N := some 17) (v := ?_) (a' := ?_) rfl (by rfl) ?_ ?_ ?_
        rotate_left
        · intro w' hb
          clear hb
          go_simp
          with_reducible rfl
        rotate_left
        · simp only [Act.put, List.setIfInBounds_toArray, List.set_cons_zero, List.set_cons_succ, i64_w, i32_w]
          rfl
        refine Q.q_value (N := some 18) (v := ?_) (a' := ?_) rfl (by rfl) ?_ ?_ ?_
        rotate_left
        · intro w' hb
          clear hb
          go_simp
          with_reducible rfl
        rotate_left
        · simp only [Act.put, List.setIfInBounds_toArray, List.set_cons_zero, List.set_cons_succ, i64_w, i32_w]
          rfl
        refine Q.q_value (N := some 19) (v := ?_) (a' := ?_) rfl (by rfl) ?_ ?_ ?_
        rotate_left
        · intro w' hb
          have s0 := pw_cell_below hb x0
          clear hb
          go_simp
          with_reducible rfl
        rotate_left
        · simp only [Act.put, List.setIfInBounds_toArray, List.set_cons_zero, List.set_cons_succ, i64_w, i32_w]
          rfl
        refine Q.q_call (N := some 20) (v := .int .i64 (arityI x.f0)) (a' := ?_) 49 #[.int .i64 x.f0] rfl (by rfl) Tryd.func49 (by kernel_rfl) rfl (by rfl) (by first | rfl | (simp only [List.map_toArray, List.map_cons, List.map_nil]; done) | (simp only [List.map_toArray, List.map_cons, List.map_nil]; rfl)) (fun w' hb => (equation_arity.calls 3 x.f0 _ w' (arity_all x.f0)).mono fun e w'' ⟨he, hb'⟩ => ⟨he, below_step hb hb'.below⟩) ?_ ?_
        rotate_left
        · simp only [Act.put, List.setIfInBounds_toArray, List.set_cons_zero, List.set_cons_succ, i64_w, i32_w]
          rfl
        refine Q.q_value (N := some 21) (v := ?_) (a' := ?_) rfl (by rfl) ?_ ?_ ?_
        rotate_left
        · intro w' hb
          clear hb
          go_simp
          with_reducible rfl
        rotate_left
        · simp only [Act.put, List.setIfInBounds_toArray, List.set_cons_zero, List.set_cons_succ, i64_w, i32_w]
          rfl
        refine Q.q_value (N := some 22) (v := ?_) (a' := ?_) rfl (by rfl) ?_ ?_ ?_
        rotate_left
        · intro w' hb
          clear hb
          go_simp
          with_reducible rfl
        rotate_left
        · simp only [Act.put, List.setIfInBounds_toArray, List.set_cons_zero, List.set_cons_succ, i64_w, i32_w]
          rfl
        refine Q.q_value (N := some 23) (v := ?_) (a' := ?_) rfl (by rfl) ?_ ?_ ?_
        rotate_left
        · intro w' hb
          clear hb
          go_simp
          with_reducible rfl
        rotate_left
        · simp only [Act.put, List.setIfInBounds_toArray, List.set_cons_zero, List.set_cons_succ, i64_w, i32_w]
          rfl
        refine Q.q_off (N := some 24) (a' := ?_) rfl (by rfl) ?_ ?_
        rotate_left
        · simp only [Act.put, List.setIfInBounds_toArray, List.set_cons_zero, List.set_cons_succ, i64_w, i32_w]
          rfl
        refine Q.q_off (N := some 25) (a' := ?_) rfl (by rfl) ?_ ?_
        rotate_left
        · simp only [Act.put, List.setIfInBounds_toArray, List.set_cons_zero, List.set_cons_succ, i64_w, i32_w]
          rfl
        refine Q.q_off (N := some 26) (a' := ?_) rfl (by rfl) ?_ ?_
        rotate_left
        · simp only [Act.put, List.setIfInBounds_toArray, List.set_cons_zero, List.set_cons_succ, i64_w, i32_w]
          rfl
        refine Q.q_value (N := some 27) (v := ?_) (a' := ?_) rfl (by rfl) ?_ ?_ ?_
        rotate_left
        · intro w' hb
          clear hb
          go_simp
          with_reducible rfl
        rotate_left
        · simp only [Act.put, List.setIfInBounds_toArray, List.set_cons_zero, List.set_cons_succ, i64_w, i32_w]
          rfl
        refine Q.q_value (N := some 28) (v := ?_) (a' := ?_) rfl (by rfl) ?_ ?_ ?_
        rotate_left
        · intro w' hb
          clear hb
          go_simp
          with_reducible rfl
        rotate_left
        · simp only [Act.put, List.setIfInBounds_toArray, List.set_cons_zero, List.set_cons_succ, i64_w, i32_w]
          rfl
        refine Q.q_off (N := some 29) (a' := ?_) rfl (by rfl) ?_ ?_
        rotate_left
        · simp only [Act.put, List.setIfInBounds_toArray, List.set_cons_zero, List.set_cons_succ, i64_w, i32_w]
          rfl
        refine Q.q_off (N := some 30) (a' := ?_) rfl (by rfl) ?_ ?_
        rotate_left
        · simp only [Act.put, List.setIfInBounds_toArray, List.set_cons_zero, List.set_cons_succ, i64_w, i32_w]
          rfl
        refine Q.q_off (N := some 31) (a' := ?_) rfl (by rfl) ?_ ?_
        rotate_left
        · simp only [Act.put, List.setIfInBounds_toArray, List.set_cons_zero, List.set_cons_succ, i64_w, i32_w]
          rfl
        refine Q.q_off (N := some 32) (a' := ?_) rfl (by rfl) ?_ ?_
        rotate_left
        · simp only [Act.put, List.setIfInBounds_toArray, List.set_cons_zero, List.set_cons_succ, i64_w, i32_w]
          rfl
        refine Q.q_off (N := some 33) (a' := ?_) rfl (by rfl) ?_ ?_
        rotate_left
        · simp only [Act.put, List.setIfInBounds_toArray, List.set_cons_zero, List.set_cons_succ, i64_w, i32_w]
          rfl
        refine Q.q_off (N := some 34) (a' := ?_) rfl (by rfl) ?_ ?_
        rotate_left
        · simp only [Act.put, List.setIfInBounds_toArray, List.set_cons_zero, List.set_cons_succ, i64_w, i32_w]
          rfl
        refine Q.q_value (N := some 35) (v := ?_) (a' := ?_) rfl (by rfl) ?_ ?_ ?_
        rotate_left
        · intro w' hb
          clear hb
          go_simp
          with_reducible rfl
        rotate_left
        · simp only [Act.put, List.setIfInBounds_toArray, List.set_cons_zero, List.set_cons_succ, i64_w, i32_w]
          rfl
        refine Q.q_value (N := some 2) (v := ?_) (a' := ?_) rfl (by rfl) ?_ ?_ ?_
        rotate_left
        · intro w' hb
          clear hb
          go_simp
          with_reducible rfl
        rotate_left
        · simp only [Act.put, List.setIfInBounds_toArray, List.set_cons_zero, List.set_cons_succ, i64_w, i32_w]
          rfl
        refine wpQuiet_nil ?_
        intro w9 HB9
        replace HB := Aside0.mk (below_step HB.out HB9)
        clear HB9
        go_wp2_with fail
        go_ret
        exact ⟨rfl, HB.out⟩
  · have b3 : (x.f0 == 3) = false := by simpa using h3
    have hE := HE.out
    rw [show namedB x = decide (x.f2.toList = []) from if_neg h3] at hE
    clear h3 HE HN
    have hnb : (x.f2.toList == []) = decide (x.f2.toList = []) := by by_cases h : x.f2.toList = [] <;> simp [h]
    generalize decide (x.f2.toList = []) = nb at *
    go_enter Tryd.func30, Tryd.ntmps30
    go_wp2_with fail
    clear hnb
    generalize w.alloc (.cells (cE x (.slice A x.f3.length c)) 24) = w1 at *
    generalize w.heap.size = xb at BX ⊢
    have x0 : w1.cell? ⟨xb, 0, none⟩ = some (.int .i64 x.f0) := blk_cell BX.out 0
    have x1 : w1.cell? ⟨xb, 1, none⟩ = some (.int .i64 x.f1) := blk_cell BX.out 1
    have x3 : w1.cell? ⟨xb, 3, none⟩ = some (.slice A x.f3.length c) := blk_cell BX.out 3
    clear BX
    cases nb with
    | false =>
      rw [show (false && decide ((x.f3.length : Int) = arityI x.f0) && decide (0 ≤ x.f1) && decide (x.f1 ≤ boundI x.f0)) = false from rfl] at hE
      subst hE
      refine Q.q_start (by kernel_rfl) (by kernel_rfl) ?_
      refine Q.q_value (N := some 13) (v := ?_) (a' := ?_) rfl (by rfl) ?_ ?_ ?_
      rotate_left
      · intro w' hb
        clear hb
        go_simp
        with_reducible rfl
      rotate_left
      · simp only [Act.put, List.setIfInBounds_toArray, List.set_cons_zero, List.set_cons_succ, i64_w, i32_w]
        rfl
      refine Q.q_value (N := some 14) (v := ?_) (a' := ?_) rfl (by rfl) ?_ ?_ ?_
      rotate_left
      · intro w' hb
        clear hb
        go_simp
        with_reducible rfl
      rotate_left
      · simp only [Act.put, List.setIfInBounds_toArray, List.set_cons_zero, List.set_cons_succ, i64_w, i32_w]
        rfl
      refine Q.q_off (N := some 15) (a' := ?_) rfl (by rfl) ?_ ?_
      rotate_left
      · simp only [Act.put, List.setIfInBounds_toArray, List.set_cons_zero, List.set_cons_succ, i64_w, i32_w]
        rfl
      refine Q.q_off (N := some 16) (a' := ?_) rfl (by rfl) ?_ ?_
      rotate_left
      · simp only [Act.put, List.setIfInBounds_toArray, List.set_cons_zero, List.set_cons_succ, i64_w, i32_w]
        rfl
      refine Q.q_off (N := some 17) (a' := ?_) rfl (by rfl) ?_ ?_
      rotate_left
      · simp only [Act.put, List.setIfInBounds_toArray, List.set_cons_zero, List.set_cons_succ, i64_w, i32_w]
        rfl
      refine Q.q_off (N := some 18) (a' := ?_) rfl (by rfl) ?_ ?_
      rotate_left
      · simp only [Act.put, List.setIfInBounds_toArray, List.set_cons_zero, List.set_cons_succ, i64_w, i32_w]
        rfl
      refine Q.q_off (N := some 19) (a' := ?_) rfl (by rfl) ?_ ?_
      rotate_left
      · simp only [Act.put, List.setIfInBounds_toArray, List.set_cons_zero, List.set_cons_succ, i64_w, i32_w]
        rfl
      refine Q.q_off (N := some 20) (a' := ?_) rfl (by rfl) ?_ ?_
      rotate_left
      · simp only [Act.put, List.setIfInBounds_toArray, List.set_cons_zero, List.set_cons_succ, i64_w, i32_w]
        rfl
      refine Q.q_off (N := some 21) (a' := ?_) rfl (by rfl) ?_ ?_
      rotate_left
      · simp only [Act.put, List.setIfInBounds_toArray, List.set_cons_zero, List.set_cons_succ, i64_w, i32_w]
        rfl
      refine Q.q_value (N := some 22) (v := ?_) (a' := ?_) rfl (by rfl) ?_ ?_ ?_
      rotate_left
      · intro w' hb
        clear hb
        go_simp
        with_reducible rfl
      rotate_left
      · simp only [Act.put, List.setIfInBounds_toArray, List.set_cons_zero, List.set_cons_succ, i64_w, i32_w]
        rfl
      refine Q.q_value (N := some 23) (v := ?_) (a' := ?_) rfl (by rfl) ?_ ?_ ?_
      rotate_left
      · intro w' hb
        clear hb
        go_simp
        with_reducible rfl
      rotate_left
      · simp only [Act.put, List.setIfInBounds_toArray, List.set_cons_zero, List.set_cons_succ, i64_w, i32_w]
        rfl
      refine Q.q_off (N := some 24) (a' := ?_) rfl (by rfl) ?_ ?_
      rotate_left
      · simp only [Act.put, List.setIfInBounds_toArray, List.set_cons_zero, List.set_cons_succ, i64_w, i32_w]
        rfl
      refine Q.q_off (N := some 25) (a' := ?_) rfl (by rfl) ?_ ?_
      rotate_left
      · simp only [Act.put, List.setIfInBounds_toArray, List.set_cons_zero, List.set_cons_succ, i64_w, i32_w]
        rfl
      refine Q.q_off (N := some 26) (a' := ?_) rfl (by rfl) ?_ ?_
      rotate_left
      · simp only [Act.put, List.setIfInBounds_toArray, List.set_cons_zero, List.set_cons_succ, i64_w, i32_w]
        rfl
      refine Q.q_value (N := some 27) (v := ?_) (a' := ?_) rfl (by rfl) ?_ ?_ ?_
      rotate_left
      · intro w' hb
        clear hb
        go_simp
        with_reducible rfl
      rotate_left
      · simp only [Act.put, List.setIfInBounds_toArray, List.set_cons_zero, List.set_cons_succ, i64_w, i32_w]
        rfl
      refine Q.q_value (N := some 28) (v := ?_) (a' := ?_) rfl (by rfl) ?_ ?_ ?_
      rotate_left
      · intro w' hb
        clear hb
        go_simp
        with_reducible rfl
      rotate_left
      · simp only [Act.put, List.setIfInBounds_toArray, List.set_cons_zero, List.set_cons_succ, i64_w, i32_w]
        rfl
      refine Q.q_off (N := some 29) (a' := ?_) rfl (by rfl) ?_ ?_
      rotate_left
      · simp only [Act.put, List.setIfInBounds_toArray, List.set_cons_zero, List.set_cons_succ, i64_w, i32_w]
        rfl
      refine Q.q_off (N := some 30) (a' := ?_) rfl (by rfl) ?_ ?_
      rotate_left
      · simp only [Act.put, List.setIfInBounds_toArray, List.set_cons_zero, List.set_cons_succ, i64_w, i32_w]
        rfl
      refine Q.q_off (N := some 31) (a' := ?_) rfl (by rfl) ?_ ?_
      rotate_left
      · simp only [Act.put, List.setIfInBounds_toArray, List.set_cons_zero, List.set_cons_succ, i64_w, i32_w]
        rfl
      refine Q.q_off (N := some 32) (a' := ?_) rfl (by rfl) ?_ ?_
      rotate_left
      · simp only [Act.put, List.setIfInBounds_toArray, List.set_cons_zero, List.set_cons_succ, i64_w, i32_w]
        rfl
      refine Q.q_off (N := some 33) (a' := ?_) rfl (by rfl) ?_ ?_
      rotate_left
      · simp only [Act.put, List.setIfInBounds_toArray, List.set_cons_zero, List.set_cons_succ, i64_w, i32_w]
        rfl
      refine Q.q_off (N := some 34) (a' := ?_) rfl (by rfl) ?_ ?_
      rotate_left
      · simp only [Act.put, List.setIfInBounds_toArray, List.set_cons_zero, List.set_cons_succ, i64_w, i32_w]
        rfl
      refine Q.q_value (N := some 35) (v := ?_) (a' := ?_) rfl (by rfl) ?_ ?_ ?_
      rotate_left
      · intro w' hb
        clear hb
        go_simp
        with_reducible rfl
      rotate_left
      · simp only [Act.put, List.setIfInBounds_toArray, List.set_cons_zero, List.set_cons_succ, i64_w, i32_w]
        rfl
      refine Q.q_value (N := some 2) (v := ?_) (a' := ?_) rfl (by rfl) ?_ ?_ ?_
      rotate_left
      · intro w' hb
        clear hb
        go_simp
        with_reducible rfl
      rotate_left
      · simp only [Act.put, List.setIfInBounds_toArray, List.set_cons_zero, List.set_cons_succ, i64_w, i32_w]
        rfl
      refine wpQuiet_nil ?_
      intro w9 HB9
      replace HB := Aside0.mk (below_step HB.out HB9)
      clear HB9
      go_wp2_with fail
      go_ret
      exact ⟨rfl, HB.out⟩
    | true =>
      by_cases h1 : (x.f3.length : Int) = arityI x.f0
      · by_cases h2 : 0 ≤ x.f1
        · rw [show (true && decide ((x.f3.length : Int) = arityI x.f0) && decide (0 ≤ x.f1) && decide (x.f1 ≤ boundI x.f0)) = decide (x.f1 ≤ boundI x.f0) by simp [h1, h2]] at hE
          subst hE
          have g1 : ((x.f3.length : Int) == arityI x.f0) = true := by simpa using h1
          have g2 : decide (x.f1 ≥ 0) = true := by simpa using h2
          clear h1 h2
          refine Q.q_start (by kernel_rfl) (by kernel_rfl) ?_
          refine Q.q_value (N := some 13) (v := ?_) (a' := ?_) rfl (by rfl) ?_ ?_ ?_
          rotate_left
          · intro w' hb
            clear hb
            go_simp
            with_reducible rfl
          rotate_left
          · simp only [Act.put, List.setIfInBounds_toArray, List.set_cons_zero, List.set_cons_succ, i64_w, i32_w]
            rfl
          refine Q.q_value (N := some 14) (v := ?_) (a' := ?_) rfl (by rfl) ?_ ?_ ?_
          rotate_left
          · intro w' hb
            clear hb
            go_simp
            with_reducible rfl
          rotate_left
          · simp only [Act.put, List.setIfInBounds_toArray, List.set_cons_zero, List.set_cons_succ, i64_w, i32_w]
            rfl
          refine Q.q_value (N := some 15) (v := ?_) (a' := ?_) rfl (by rfl) ?_ ?_ ?_
          rotate_left
          · intro w' hb
            clear hb
            go_simp
            with_reducible rfl
          rotate_left
          · simp only [Act.put, List.setIfInBounds_toArray, List.set_cons_zero, List.set_cons_succ, i64_w, i32_w]
            rfl
          refine Q.q_value (N := some 16) (v := ?_) (a' := ?_) rfl (by rfl) ?_ ?_ ?_
          rotate_left
          · intro w' hb
            have s0 := pw_cell_below hb x3
            clear hb
            go_simp
            with_reducible rfl
          rotate_left
          · simp only [Act.put, List.setIfInBounds_toArray, List.set_cons_zero, List.set_cons_succ, i64_w, i32_w]
            rfl
          refine Q.q_value (N := some 17) (v := ?_) (a' := ?_) rfl (by rfl) ?_ ?_ ?_
          rotate_left
          · intro w' hb
            clear hb
            go_simp
            with_reducible rfl
          rotate_left
          · simp only [Act.put, List.setIfInBounds_toArray, List.set_cons_zero, List.set_cons_succ, i64_w, i32_w]
            rfl
          refine Q.q_value (N := some 18) (v := ?_) (a' := ?_) rfl (by rfl) ?_ ?_ ?_
          rotate_left
          · intro w' hb
            clear hb
            go_simp
            with_reducible rfl
          rotate_left
          · simp only [Act.put, List.setIfInBounds_toArray, List.set_cons_zero, List.set_cons_succ, i64_w, i32_w]
            rfl
          refine Q.q_value (N := some 19) (v := ?_) (a' := ?_) rfl (by rfl) ?_ ?_ ?_
          rotate_left
          · intro w' hb
            have s0 := pw_cell_below hb x0
            clear hb
            go_simp
            with_reducible rfl
          rotate_left
          · simp only [Act.put, List.setIfInBounds_toArray, List.set_cons_zero, List.set_cons_succ, i64_w, i32_w]
            rfl
          refine Q.q_call (N := some 20) (v := .int .i64 (arityI x.f0)) (a' := ?_) 49 #[.int .i64 x.f0] rfl (by rfl) Tryd.func49 (by kernel_rfl) rfl (by rfl) (by first | rfl | (simp only [List.map_toArray, List.map_cons, List.map_nil]; done) | (simp only [List.map_toArray, List.map_cons, List.map_nil]; rfl)) (fun w' hb => (equation_arity.calls 3 x.f0 _ w' (arity_all x.f0)).mono fun e w'' ⟨he, hb'⟩ => ⟨he, below_step hb hb'.below⟩) ?_ ?_
          rotate_left
          · simp only [Act.put, List.setIfInBounds_toArray, List.set_cons_zero, List.set_cons_succ, i64_w, i32_w]
            rfl
          refine Q.q_value (N := some 21) (v := ?_) (a' := ?_) rfl (by rfl) ?_ ?_ ?_
          rotate_left
          · intro w' hb
            clear hb
            go_simp
            with_reducible rfl
          rotate_left
          · simp only [Act.put, List.setIfInBounds_toArray, List.set_cons_zero, List.set_cons_succ, i64_w, i32_w]
            rfl
          refine Q.q_value (N := some 22) (v := ?_) (a' := ?_) rfl (by rfl) ?_ ?_ ?_
          rotate_left
          · intro w' hb
            clear hb
            go_simp
            with_reducible rfl
          rotate_left
          · simp only [Act.put, List.setIfInBounds_toArray, List.set_cons_zero, List.set_cons_succ, i64_w, i32_w]
            rfl
          refine Q.q_value (N := some 23) (v := ?_) (a' := ?_) rfl (by rfl) ?_ ?_ ?_
          rotate_left
          · intro w' hb
            clear hb
            go_simp
            with_reducible rfl
          rotate_left
          · simp only [Act.put, List.setIfInBounds_toArray, List.set_cons_zero, List.set_cons_succ, i64_w, i32_w]
            rfl
          refine Q.q_value (N := some 24) (v := ?_) (a' := ?_) rfl (by rfl) ?_ ?_ ?_
          rotate_left
          · intro w' hb
            clear hb
            go_simp
            with_reducible rfl
          rotate_left
          · simp only [Act.put, List.setIfInBounds_toArray, List.set_cons_zero, List.set_cons_succ, i64_w, i32_w]
            rfl
          refine Q.q_value (N := some 25) (v := ?_) (a' := ?_) rfl (by rfl) ?_ ?_ ?_
          rotate_left
          · intro w' hb
            have s0 := pw_cell_below hb x1
            clear hb
            go_simp
            with_reducible rfl
          rotate_left
          · simp only [Act.put, List.setIfInBounds_toArray, List.set_cons_zero, List.set_cons_succ, i64_w, i32_w]
            rfl
          refine Q.q_value (N := some 26) (v := ?_) (a' := ?_) rfl (by rfl) ?_ ?_ ?_
          rotate_left
          · intro w' hb
            clear hb
            go_simp
            with_reducible rfl
          rotate_left
          · simp only [Act.put, List.setIfInBounds_toArray, List.set_cons_zero, List.set_cons_succ, i64_w, i32_w]
            rfl
          refine Q.q_value (N := some 27) (v := ?_) (a' := ?_) rfl (by rfl) ?_ ?_ ?_
          rotate_left
          · intro w' hb
            clear hb
            go_simp
            with_reducible rfl
          rotate_left
          · simp only [Act.put, List.setIfInBounds_toArray, List.set_cons_zero, List.set_cons_succ, i64_w, i32_w]
            rfl
          refine Q.q_value (N := some 28) (v := ?_) (a' := ?_) rfl (by rfl) ?_ ?_ ?_
          rotate_left
          · intro w' hb
            clear hb
            go_simp
            with_reducible rfl
          rotate_left
          · simp only [Act.put, List.setIfInBounds_toArray, List.set_cons_zero, List.set_cons_succ, i64_w, i32_w]
            rfl
          refine Q.q_value (N := some 29) (v := ?_) (a' := ?_) rfl (by rfl) ?_ ?_ ?_
          rotate_left
          · intro w' hb
            clear hb
            go_simp
            with_reducible rfl
          rotate_left
          · simp only [Act.put, List.setIfInBounds_toArray, List.set_cons_zero, List.set_cons_succ, i64_w, i32_w]
            rfl
          refine Q.q_value (N := some 30) (v := ?_) (a' := ?_) rfl (by rfl) ?_ ?_ ?_
          rotate_left
          · intro w' hb
            have s0 := pw_cell_below hb x1
            clear hb
            go_simp
            with_reducible rfl
          rotate_left
          · simp only [Act.put, List.setIfInBounds_toArray, List.set_cons_zero, List.set_cons_succ, i64_w, i32_w]
            rfl
          refine Q.q_value (N := some 31) (v := ?_) (a' := ?_) rfl (by rfl) ?_ ?_ ?_
          rotate_left
          · intro w' hb
            clear hb
            go_simp
            with_reducible rfl
          rotate_left
          · simp only [Act.put, List.setIfInBounds_toArray, List.set_cons_zero, List.set_cons_succ, i64_w, i32_w]
            rfl
          refine Q.q_value (N := some 32) (v := ?_) (a' := ?_) rfl (by rfl) ?_ ?_ ?_
          rotate_left
          · intro w' hb
            have s0 := pw_cell_below hb x0
            clear hb
            go_simp
            with_reducible rfl
          rotate_left
          · simp only [Act.put, List.setIfInBounds_toArray, List.set_cons_zero, List.set_cons_succ, i64_w, i32_w]
            rfl
          refine Q.q_call (N := some 33) (v := .int .i64 (boundI x.f0)) (a' := ?_) 50 #[.int .i64 x.f0] rfl (by rfl) Tryd.func50 (by kernel_rfl) rfl (by rfl) (by first | rfl | (simp only [List.map_toArray, List.map_cons, List.map_nil]; done) | (simp only [List.map_toArray, List.map_cons, List.map_nil]; rfl)) (fun w' hb => (bound_calls x.f0 w').mono fun e w'' ⟨he, hb'⟩ => ⟨he, below_step hb hb'⟩) ?_ ?_
          rotate_left
          · simp only [Act.put, List.setIfInBounds_toArray, List.set_cons_zero, List.set_cons_succ, i64_w, i32_w]
            rfl
          refine Q.q_value (N := some 34) (v := ?_) (a' := ?_) rfl (by rfl) ?_ ?_ ?_
          rotate_left
          · intro w' hb
            clear hb
            go_simp
            with_reducible rfl
          rotate_left
          · simp only [Act.put, List.setIfInBounds_toArray, List.set_cons_zero, List.set_cons_succ, i64_w, i32_w]
            rfl
          refine Q.q_value (N := some 35) (v := ?_) (a' := ?_) rfl (by rfl) ?_ ?_ ?_
          rotate_left
          · intro w' hb
            clear hb
            go_simp
            with_reducible rfl
          rotate_left
          · simp only [Act.put, List.setIfInBounds_toArray, List.set_cons_zero, List.set_cons_succ, i64_w, i32_w]
            rfl
          refine Q.q_value (N := some 2) (v := ?_) (a' := ?_) rfl (by rfl) ?_ ?_ ?_
          rotate_left
          · intro w' hb
            clear hb
            go_simp
            with_reducible rfl
          rotate_left
          · simp only [Act.put, List.setIfInBounds_toArray, List.set_cons_zero, List.set_cons_succ, i64_w, i32_w]
            rfl
          refine wpQuiet_nil ?_
          intro w9 HB9
          replace HB := Aside0.mk (below_step HB.out HB9)
          clear HB9
          go_wp2_with fail
          go_ret
          exact ⟨rfl, HB.out⟩
        · rw [show (true && decide ((x.f3.length : Int) = arityI x.f0) && decide (0 ≤ x.f1) && decide (x.f1 ≤ boundI x.f0)) = false by simp [h2]] at hE
          subst hE
          have g1 : ((x.f3.length : Int) == arityI x.f0) = true := by simpa using h1
          have g2 : decide (x.f1 ≥ 0) = false := by simpa using h2
          clear h1 h2
          refine Q.q_start (by kernel_rfl) (by kernel_rfl) ?_
          refine Q.q_value (N := some 13) (v := ?_) (a' := ?_) rfl (by rfl) ?_ ?_ ?_
          rotate_left
          · intro w' hb
            clear hb
            go_simp
            with_reducible rfl
          rotate_left
          · simp only [Act.put, List.setIfInBounds_toArray, List.set_cons_zero, List.set_cons_succ, i64_w, i32_w]
            rfl
          refine Q.q_value (N := some 14) (v := ?_) (a' := ?_) rfl (by rfl) ?_ ?_ ?_
          rotate_left
          · intro w' hb
            clear hb
            go_simp
            with_reducible rfl
          rotate_left
          · simp only [Act.put, List.setIfInBounds_toArray, List.set_cons_zero, List.set_cons_succ, i64_w, i32_w]
            rfl
          refine Q.q_value (N := some 15) (v := ?_) (a' := ?_) rfl (by rfl) ?_ ?_ ?_
          rotate_left
          · intro w' hb
            clear hb
            go_simp
            with_reducible rfl
          rotate_left
          · simp only [Act.put, List.setIfInBounds_toArray, List.set_cons_zero, List.set_cons_succ, i64_w, i32_w]
            rfl
          refine Q.q_value (N := some 16) (v := ?_) (a' := ?_) rfl (by rfl) ?_ ?_ ?_
          rotate_left
          · intro w' hb
            have s0 := pw_cell_below hb x3
            clear hb
            go_simp
            with_reducible rfl
          rotate_left
          · simp only [Act.put, List.setIfInBounds_toArray, List.set_cons_zero, List.set_cons_succ, i64_w, i32_w]
            rfl
          refine Q.q_value (N := some 17) (v := ?_) (a' := ?_) rfl (by rfl) ?_ ?_ ?_
          rotate_left
          · intro w' hb
            clear hb
            go_simp
            with_reducible rfl
          rotate_left
          · simp only [Act.put, List.setIfInBounds_toArray, List.set_cons_zero, List.set_cons_succ, i64_w, i32_w]
            rfl
          refine Q.q_value (N := some 18) (v := ?_) (a' := ?_) rfl (by rfl) ?_ ?_ ?_
          rotate_left
          · intro w' hb
            clear hb
            go_simp
            with_reducible rfl
          rotate_left
          · simp only [Act.put, List.setIfInBounds_toArray, List.set_cons_zero, List.set_cons_succ, i64_w, i32_w]
            rfl
          refine Q.q_value (N := some 19) (v := ?_) (a' := ?_) rfl (by rfl) ?_ ?_ ?_
          rotate_left
          · intro w' hb
            have s0 := pw_cell_below hb x0
            clear hb
            go_simp
            with_reducible rfl
          rotate_left
          · simp only [Act.put, List.setIfInBounds_toArray, List.set_cons_zero, List.set_cons_succ, i64_w, i32_w]
            rfl
          refine Q.q_call (N := some 20) (v := .int .i64 (arityI x.f0)) (a' := ?_) 49 #[.int .i64 x.f0] rfl (by rfl) Tryd.func49 (by kernel_rfl) rfl (by rfl) (by first | rfl | (simp only [List.map_toArray, List.map_cons, List.map_nil]; done) | (simp only [List.map_toArray, List.map_cons, List.map_nil]; rfl)) (fun w' hb => (equation_arity.calls 3 x.f0 _ w' (arity_all x.f0)).mono fun e w'' ⟨he, hb'⟩ => ⟨he, below_step hb hb'.below⟩) ?_ ?_
          rotate_left
          · simp only [Act.put, List.setIfInBounds_toArray, List.set_cons_zero, List.set_cons_succ, i64_w, i32_w]
            rfl
          refine Q.q_value (N := some 21) (v := ?_) (a' := ?_) rfl (by rfl) ?_ ?_ ?_
          rotate_left
          · intro w' hb
            clear hb
            go_simp
            with_reducible rfl
          rotate_left
          · simp only [Act.put, List.setIfInBounds_toArray, List.set_cons_zero, List.set_cons_succ, i64_w, i32_w]
            rfl
          refine Q.q_value (N := some 22) (v := ?_) (a' := ?_) rfl (by rfl) ?_ ?_ ?_
          rotate_left
          · intro w' hb
            clear hb
            go_simp
            with_reducible rfl
          rotate_left
          · simp only [Act.put, List.setIfInBounds_toArray, List.set_cons_zero, List.set_cons_succ, i64_w, i32_w]
            rfl
          refine Q.q_value (N := some 23) (v := ?_) (a' := ?_) rfl (by rfl) ?_ ?_ ?_
          rotate_left
          · intro w' hb
            clear hb
            go_simp
            with_reducible rfl
          rotate_left
          · simp only [Act.put, List.setIfInBounds_toArray, List.set_cons_zero, List.set_cons_succ, i64_w, i32_w]
            rfl
          refine Q.q_value (N := some 24) (v := ?_) (a' := ?_) rfl (by rfl) ?_ ?_ ?_
          rotate_left
          · intro w' hb
            clear hb
            go_simp
            with_reducible rfl
          rotate_left
          · simp only [Act.put, List.setIfInBounds_toArray, List.set_cons_zero, List.set_cons_succ, i64_w, i32_w]
            rfl
          refine Q.q_value (N := some 25) (v := ?_) (a' := ?_) rfl (by rfl) ?_ ?_ ?_
          rotate_left
          · intro w' hb
            have s0 := pw_cell_below hb x1
            clear hb
            go_simp
            with_reducible rfl
          rotate_left
          · simp only [Act.put, List.setIfInBounds_toArray, List.set_cons_zero, List.set_cons_succ, i64_w, i32_w]
            rfl
          refine Q.q_value (N := some 26) (v := ?_) (a' := ?_) rfl (by rfl) ?_ ?_ ?_
          rotate_left
          · intro w' hb
            clear hb
            go_simp
            with_reducible rfl
          rotate_left
          · simp only [Act.put, List.setIfInBounds_toArray, List.set_cons_zero, List.set_cons_succ, i64_w, i32_w]
            rfl
          refine Q.q_value (N := some 27) (v := ?_) (a' := ?_) rfl (by rfl) ?_ ?_ ?_
          rotate_left
          · intro w' hb
            clear hb
            go_simp
            with_reducible rfl
          rotate_left
          · simp only [Act.put, List.setIfInBounds_toArray, List.set_cons_zero, List.set_cons_succ, i64_w, i32_w]
            rfl
          refine Q.q_value (N := some 28) (v := ?_) (a' := ?_) rfl (by rfl) ?_ ?_ ?_
          rotate_left
          · intro w' hb
            clear hb
            go_simp
            with_reducible rfl
          rotate_left
          · simp only [Act.put, List.setIfInBounds_toArray, List.set_cons_zero, List.set_cons_succ, i64_w, i32_w]
            rfl
          refine Q.q_off (N := some 29) (a' := ?_) rfl (by rfl) ?_ ?_
          rotate_left
          · simp only [Act.put, List.setIfInBounds_toArray, List.set_cons_zero, List.set_cons_succ, i64_w, i32_w]
            rfl
          refine Q.q_off (N := some 30) (a' := ?_) rfl (by rfl) ?_ ?_
          rotate_left
          · simp only [Act.put, List.setIfInBounds_toArray, List.set_cons_zero, List.set_cons_succ, i64_w, i32_w]
            rfl
          refine Q.q_off (N := some 31) (a' := ?_) rfl (by rfl) ?_ ?_
          rotate_left
          · simp only [Act.put, List.setIfInBounds_toArray, List.set_cons_zero, List.set_cons_succ, i64_w, i32_w]
            rfl
          refine Q.q_off (N := some 32) (a' := ?_) rfl (by rfl) ?_ ?_
          rotate_left
          · simp only [Act.put, List.setIfInBounds_toArray, List.set_cons_zero, List.set_cons_succ, i64_w, i32_w]
            rfl
          refine Q.q_off (N := some 33) (a' := ?_) rfl (by rfl) ?_ ?_
          rotate_left
          · simp only [Act.put, List.setIfInBounds_toArray, List.set_cons_zero, List.set_cons_succ, i64_w, i32_w]
            rfl
          refine Q.q_off (N := some 34) (a' := ?_) rfl (by rfl) ?_ ?_
          rotate_left
          · simp only [Act.put, List.setIfInBounds_toArray, List.set_cons_zero, List.set_cons_succ, i64_w, i32_w]
            rfl
          refine Q.q_value (N := some 35) (v := ?_) (a' := ?_) rfl (by rfl) ?_ ?_ ?_
          rotate_left
          · intro w' hb
            clear hb
            go_simp
            with_reducible rfl
          rotate_left
          · simp only [Act.put, List.setIfInBounds_toArray, List.set_cons_zero, List.set_cons_succ, i64_w, i32_w]
            rfl
          refine Q.q_value (N := some 2) (v := ?_) (a' := ?_) rfl (by rfl) ?_ ?_ ?_
          rotate_left
          · intro w' hb
            clear hb
            go_simp
            with_reducible rfl
          rotate_left
          · simp only [Act.put, List.setIfInBounds_toArray, List.set_cons_zero, List.set_cons_succ, i64_w, i32_w]
            rfl
          refine wpQuiet_nil ?_
          intro w9 HB9
          replace HB := Aside0.mk (below_step HB.out HB9)
          clear HB9
          go_wp2_with fail
          go_ret
          exact ⟨rfl, HB.out⟩
      · rw [show (true && decide ((x.f3.length : Int) = arityI x.f0) && decide (0 ≤ x.f1) && decide (x.f1 ≤ boundI x.f0)) = false by simp [h1]] at hE
        subst hE
        have g1 : ((x.f3.length : Int) == arityI x.f0) = false := by simpa using h1
        clear h1
        refine Q.q_start (by kernel_rfl) (by kernel_rfl) ?_
        refine Q.q_value (N := some 13) (v := ?_) (a' := ?_) rfl (by rfl) ?_ ?_ ?_
        rotate_left
        · intro w' hb
          clear hb
          go_simp
          with_reducible rfl
        rotate_left
        · simp only [Act.put, List.setIfInBounds_toArray, List.set_cons_zero, List.set_cons_succ, i64_w, i32_w]
          rfl
        refine Q.q_value (N := some 14) (v := ?_) (a' := ?_) rfl (by rfl) ?_ ?_ ?_
        rotate_left
        · intro w' hb
          clear hb
          go_simp
          with_reducible rfl
        rotate_left
        · simp only [Act.put, List.setIfInBounds_toArray, List.set_cons_zero, List.set_cons_succ, i64_w, i32_w]
          rfl
        refine Q.q_value (N := some 15) (v := ?_) (a' := ?_) rfl (by rfl) ?_ ?_ ?_
        rotate_left
        · intro w' hb
          clear hb
          go_simp
          with_reducible rfl
        rotate_left
        · simp only [Act.put, List.setIfInBounds_toArray, List.set_cons_zero, List.set_cons_succ, i64_w, i32_w]
          rfl
        refine Q.q_value (N := some 16) (v := ?_) (a' := ?_) rfl (by rfl) ?_ ?_ ?_
        rotate_left
        · intro w' hb
          have s0 := pw_cell_below hb x3
          clear hb
          go_simp
          with_reducible rfl
        rotate_left
        · simp only [Act.put, List.setIfInBounds_toArray, List.set_cons_zero, List.set_cons_succ, i64_w, i32_w]
          rfl
        refine Q.q_value (N := some 17) (v := ?_) (a' := ?_) rfl (by rfl) ?_ ?_ ?_
        rotate_left
        · intro w' hb
          clear hb
          go_simp
          with_reducible rfl
        rotate_left
        · simp only [Act.put, List.setIfInBounds_toArray, List.set_cons_zero, List.set_cons_succ, i64_w, i32_w]
          rfl
        refine Q.q_value (N := some 18) (v := ?_) (a' := ?_) rfl (by rfl) ?_ ?_ ?_
        rotate_left
        · intro w' hb
          clear hb
          go_simp
          with_reducible rfl
        rotate_left
        · simp only [Act.put, List.setIfInBounds_toArray, List.set_cons_zero, List.set_cons_succ, i64_w, i32_w]
          rfl
        refine Q.q_value (N := some 19) (v := ?_) (a' := ?_) rfl (by rfl) ?_ ?_ ?_
        rotate_left
        · intro w' hb
          have s0 := pw_cell_below hb x0
          clear hb
          go_simp
          with_reducible rfl
        rotate_left
        · simp only [Act.put, List.setIfInBounds_toArray, List.set_cons_zero, List.set_cons_succ, i64_w, i32_w]
          rfl
        refine Q.q_call (N := some 20) (v := .int .i64 (arityI x.f0)) (a' := ?_) 49 #[.int .i64 x.f0] rfl (by rfl) Tryd.func49 (by kernel_rfl) rfl (by rfl) (by first | rfl | (simp only [List.map_toArray, List.map_cons, List.map_nil]; done) | (simp only [List.map_toArray, List.map_cons, List.map_nil]; rfl)) (fun w' hb => (equation_arity.calls 3 x.f0 _ w' (arity_all x.f0)).mono fun e w'' ⟨he, hb'⟩ => ⟨he, below_step hb hb'.below⟩) ?_ ?_
        rotate_left
        · simp only [Act.put, List.setIfInBounds_toArray, List.set_cons_zero, List.set_cons_succ, i64_w, i32_w]
          rfl
        refine Q.q_value (N := some 21) (v := ?_) (a' := ?_) rfl (by rfl) ?_ ?_ ?_
        rotate_left
        · intro w' hb
          clear hb
          go_simp
          with_reducible rfl
        rotate_left
        · simp only [Act.put, List.setIfInBounds_toArray, List.set_cons_zero, List.set_cons_succ, i64_w, i32_w]
          rfl
        refine Q.q_value (N := some 22) (v := ?_) (a' := ?_) rfl (by rfl) ?_ ?_ ?_
        rotate_left
        · intro w' hb
          clear hb
          go_simp
          with_reducible rfl
        rotate_left
        · simp only [Act.put, List.setIfInBounds_toArray, List.set_cons_zero, List.set_cons_succ, i64_w, i32_w]
          rfl
        refine Q.q_value (N := some 23) (v := ?_) (a' := ?_) rfl (by rfl) ?_ ?_ ?_
        rotate_left
        · intro w' hb
          clear hb
          go_simp
          with_reducible rfl
        rotate_left
        · simp only [Act.put, List.setIfInBounds_toArray, List.set_cons_zero, List.set_cons_succ, i64_w, i32_w]
          rfl
        refine Q.q_off (N := some 24) (a' := ?_) rfl (by rfl) ?_ ?_
        rotate_left
        · simp only [Act.put, List.setIfInBounds_toArray, List.set_cons_zero, List.set_cons_succ, i64_w, i32_w]
          rfl
        refine Q.q_off (N := some 25) (a' := ?_) rfl (by rfl) ?_ ?_
        rotate_left
        · simp only [Act.put, List.setIfInBounds_toArray, List.set_cons_zero, List.set_cons_succ, i64_w, i32_w]
          rfl
        refine Q.q_off (N := some 26) (a' := ?_) rfl (by rfl) ?_ ?_
        rotate_left
        · simp only [Act.put, List.setIfInBounds_toArray, List.set_cons_zero, List.set_cons_succ, i64_w, i32_w]
          rfl
        refine Q.q_value (N := some 27) (v := ?_) (a' := ?_) rfl (by rfl) ?_ ?_ ?_
        rotate_left
        · intro w' hb
          clear hb
          go_simp
          with_reducible rfl
        rotate_left
        · simp only [Act.put, List.setIfInBounds_toArray, List.set_cons_zero, List.set_cons_succ, i64_w, i32_w]
          rfl
        refine Q.q_value (N := some 28) (v := ?_) (a' := ?_) rfl (by rfl) ?_ ?_ ?_
        rotate_left
        · intro w' hb
          clear hb
          go_simp
          with_reducible rfl
        rotate_left
        · simp only [Act.put, List.setIfInBounds_toArray, List.set_cons_zero, List.set_cons_succ, i64_w, i32_w]
          rfl
        refine Q.q_off (N := some 29) (a' := ?_) rfl (by rfl) ?_ ?_
        rotate_left
        · simp only [Act.put, List.setIfInBounds_toArray, List.set_cons_zero, List.set_cons_succ, i64_w, i32_w]
          rfl
        refine Q.q_off (N := some 30) (a' := ?_) rfl (by rfl) ?_ ?_
        rotate_left
        · simp only [Act.put, List.setIfInBounds_toArray, List.set_cons_zero, List.set_cons_succ, i64_w, i32_w]
          rfl
        refine Q.q_off (N := some 31) (a' := ?_) rfl (by rfl) ?_ ?_
        rotate_left
        · simp only [Act.put, List.setIfInBounds_toArray, List.set_cons_zero, List.set_cons_succ, i64_w, i32_w]
          rfl
        refine Q.q_off (N := some 32) (a' := ?_) rfl (by rfl) ?_ ?_
        rotate_left
        · simp only [Act.put, List.setIfInBounds_toArray, List.set_cons_zero, List.set_cons_succ, i64_w, i32_w]
          rfl
        refine Q.q_off (N := some 33) (a' := ?_) rfl (by rfl) ?_ ?_
        rotate_left
        · simp only [Act.put, List.setIfInBounds_toArray, List.set_cons_zero, List.set_cons_succ, i64_w, i32_w]
          rfl
        refine Q.q_off (N := some 34) (a' := ?_) rfl (by rfl) ?_ ?_
        rotate_left
        · simp only [Act.put, List.setIfInBounds_toArray, List.set_cons_zero, List.set_cons_succ, i64_w, i32_w]
          rfl
        refine Q.q_value (N := some 35) (v := ?_) (a' := ?_) rfl (by rfl) ?_ ?_ ?_
        rotate_left
        · intro w' hb
          clear hb
          go_simp
          with_reducible rfl
        rotate_left
        · simp only [Act.put, List.setIfInBounds_toArray, List.set_cons_zero, List.set_cons_succ, i64_w, i32_w]
          rfl
        refine Q.q_value (N := some 2) (v := ?_) (a' := ?_) rfl (by rfl) ?_ ?_ ?_
        rotate_left
        · intro w' hb
          clear hb
          go_simp
          with_reducible rfl
        rotate_left
        · simp only [Act.put, List.setIfInBounds_toArray, List.set_cons_zero, List.set_cons_succ, i64_w, i32_w]
          rfl
        refine wpQuiet_nil ?_
        intro w9 HB9
        replace HB := Aside0.mk (below_step HB.out HB9)
        clear HB9
        go_wp2_with fail
        go_ret
        exact ⟨rfl, HB.out⟩
end Go.Proofs.YtbbopomecanaoaaDoor.A
namespace Go.Proofs.YtbbopomecanaoaaDoor.A
open Go.RowKit Go.Proofs.YtbbopomecanaoaaDoorW.PrintWords Go.Proofs.YtbbopomecanaoaaDoorW.PrintLast Go.Proofs.YtbbopomecanaoaaDoorW.PrintMore Go.Proofs.YtbbopomecanaoaaDoor.XK
open Go.Proofs.YtbbopomecanaoaaDoor
attribute [local go_sem] max2_int min2_int max_two min_two max_three min_three max_four min_four fld1 fld3
set_option linter.unusedVariables false
set_option linter.unusedSimpArgs false
def validL (f : E → Int → Bool × Int) : List E → Int → Bool × Int
  | [], n => (true, n)
  | y :: ys, n => if (f y n).1 = true then validL f ys (f y n).2 else (false, (f y n).2)
def validF : Nat → Int → E → Int → Bool × Int
  | 0, d, x, n => (false, n + 1)
  | k + 1, d, x, n => if 60 < n + 1 ∨ 16 < d ∨ nodeB x = false then (false, n + 1) else validL (validF k (d + 1)) x.f3 (n + 1)
def validB (x : E) : Bool := (validF 16 1 x 0).1
structure VS (w0 : World) (sb vb : Nat) (n : Int) (w : World) : Prop where
  sz : w.heap[sb]? = some (.cells #[.int .i64 n] 3 (0, 0))
  fn : w.heap[vb]? = some (.cells #[.func (.func 29) #[] #[.pointer (some ⟨sb, 0, none⟩), .pointer (some ⟨vb, 0, none⟩)]] 25 (0, 0))
  bl : Below w0.heap.size w0 w
  hs : w0.heap.size ≤ sb
  hv : w0.heap.size ≤ vb
  ne : vb ≠ sb
section
variable {w0 w w1 : World} {sb vb : Nat} {n : Int}
theorem VS.below (h : VS w0 sb vb n w) (hb : Below w.heap.size w w1) : VS w0 sb vb n w1 :=
  ⟨blk_below h.sz hb, blk_below h.fn hb, below_step h.bl hb, h.hs, h.hv, h.ne⟩
theorem VS.set (h : VS w0 sb vb n w) (m : Int) : VS w0 sb vb m (w.setCell ⟨sb, 0, none⟩ (.int .i64 m)) :=
  ⟨blk_put h.sz 0 _ rfl, blk_far (p := ⟨sb, 0, none⟩) h.fn h.ne _, below_set (j := 0) (v := .int .i64 m) h.bl h.hs, h.hs, h.hv, h.ne⟩
end
end Go.Proofs.YtbbopomecanaoaaDoor.A
namespace Go.Proofs.YtbbopomecanaoaaDoor.A
open Go.RowKit Go.Proofs.YtbbopomecanaoaaDoorW.PrintWords Go.Proofs.YtbbopomecanaoaaDoorW.PrintLast Go.Proofs.YtbbopomecanaoaaDoorW.PrintMore Go.Proofs.YtbbopomecanaoaaDoor.XK
open Go.Proofs.YtbbopomecanaoaaDoor
attribute [local go_sem] max2_int min2_int max_two min_two max_three min_three max_four min_four fld1 fld3
set_option linter.unusedVariables false
set_option linter.unusedSimpArgs false
theorem validL_range (f : E → Int → Bool × Int) (hf : ∀ y n, 0 ≤ n → n ≤ 60 → n ≤ (f y n).2 ∧ ((f y n).1 = true → (f y n).2 ≤ 60)) : ∀ (xs : List E) (n : Int), 0 ≤ n → n ≤ 60 → n ≤ (validL f xs n).2 ∧ ((validL f xs n).1 = true → (validL f xs n).2 ≤ 60)
  | [], n, h0, h1 => ⟨Int.le_refl _, fun _ => h1⟩
  | y :: ys, n, h0, h1 => by
    have h := hf y n h0 h1
    rw [validL]
    split
    · rename_i ht
      have h2 := validL_range f hf ys (f y n).2 (by omega) (h.2 ht)
      exact ⟨by omega, h2.2⟩
    · exact ⟨h.1, fun h => by cases h⟩
theorem validF_range : ∀ (k : Nat) (d : Int) (x : E) (n : Int), 0 ≤ n → n ≤ 60 → n ≤ (validF k d x n).2 ∧ ((validF k d x n).1 = true → (validF k d x n).2 ≤ 60)
  | 0, d, x, n, h0, h1 => ⟨by show n ≤ n + 1; omega, fun h => by cases h⟩
  | k + 1, d, x, n, h0, h1 => by
    rw [validF]
    split
    · exact ⟨by show n ≤ n + 1; omega, fun h => by cases h⟩
    · rename_i h
      have h3 : n + 1 ≤ 60 := by
        cases Int.lt_or_le 60 (n + 1) with
        | inl h2 => exact absurd (Or.inl h2) h
        | inr h2 => exact h2
      have := validL_range (validF k (d + 1)) (fun y m => validF_range k (d + 1) y m) x.f3 (n + 1) (by omega) h3
      exact ⟨by omega, this.2⟩
end Go.Proofs.YtbbopomecanaoaaDoor.A
namespace Go.Proofs.YtbbopomecanaoaaDoor.A
open Go.RowKit Go.Proofs.YtbbopomecanaoaaDoorW.PrintWords Go.Proofs.YtbbopomecanaoaaDoorW.PrintLast Go.Proofs.YtbbopomecanaoaaDoorW.PrintMore Go.Proofs.YtbbopomecanaoaaDoor.XK
open Go.Proofs.YtbbopomecanaoaaDoor
attribute [local go_sem] max2_int min2_int max_two min_two max_three min_three max_four min_four fld1 fld3
set_option linter.unusedVariables false
set_option linter.unusedSimpArgs false
set_option maxRecDepth 100000 in
set_option maxHeartbeats 4000000 in
theorem valid1_calls (w0 : World) (sb vb : Nat) : ∀ (k : Nat) (d : Int) (x : E) (A : Option Addr) (c : Nat) (n : Int) (w : World), d + k = 17 → 0 ≤ d → 0 ≤ n → n ≤ 60 → (k24).C w0 A x.f3.length x.f3 → VS w0 sb vb n w →
    Calls Tryd.prog 29 #[.agg (cE x (.slice A x.f3.length c)), .int .i64 d, .pointer (some ⟨sb, 0, none⟩), .pointer (some ⟨vb, 0, none⟩)] w fun e w' => e = .returned (.bool (validF k d x n).1) ∧ w.grownBy w' (some sb) ∧ VS w0 sb vb (validF k d x n).2 w' := by
  intro k
  induction k with
  | zero =>
    intro d x A c n w hd hd0 hn0 hn1 hC hv
    have HC := Aside0.mk hC
    have HV := Aside0.mk (hv.below (below_alloc (Below.refl _ w) (.cells (cE x (.slice A x.f3.length c)) 24)))
    have HB := Aside0.mk (grown_of_below (below_alloc (Below.refl w.heap.size w) (.cells (cE x (.slice A x.f3.length c)) 24)) (some sb))
    have BX := Aside0.mk (heap_alloc_new w (.cells (cE x (.slice A x.f3.length c)) 24))
    have hne : w.heap.size ≠ sb := by have := blk_lt hv.sz; omega
    have BX1 := Aside0.mk (blk_far (p := ⟨sb, 0, none⟩) BX.out hne (.int .i64 (n + 1)))
    clear hC hv hne
    have z0 : (w.alloc (.cells (cE x (.slice A x.f3.length c)) 24)).cell? ⟨sb, 0, none⟩ = some (.int .i64 n) := blk_cell HV.out.sz 0
    have z1 := blk_frozen HV.out.sz 0
    have HV1 := Aside0.mk (HV.out.set (n + 1))
    have HB1 := Aside0.mk (World.grownBy.trans HB.out (grown_set (w.alloc (.cells (cE x (.slice A x.f3.length c)) 24)) sb 0 (.int .i64 (n + 1))))
    have c2 : 16 < d := by omega
    have e : validF 0 d x n = (false, n + 1) := rfl
    have g2 : decide (16 < d) = true := by simpa using c2
    rw [e]
    clear e c2 HC BX
    by_cases c1 : 60 < n + 1
    · have g1 : decide (60 < n + 1) = true := by simpa using c1
      clear c1
      go_enter Tryd.func29, Tryd.ntmps29
      go_wp2_with fail
      go_ret
      exact ⟨rfl, HB1.out, HV1.out⟩
    · have g1 : decide (60 < n + 1) = false := by simpa using c1
      clear c1
      go_enter Tryd.func29, Tryd.ntmps29
      go_wp2_with fail
      go_ret
      exact ⟨rfl, HB1.out, HV1.out⟩
  | succ k ih =>
    intro d x A c n w hd hd0 hn0 hn1 hC hv
    have HC := Aside0.mk hC
    have HV := Aside0.mk (hv.below (below_alloc (Below.refl _ w) (.cells (cE x (.slice A x.f3.length c)) 24)))
    have HB := Aside0.mk (grown_of_below (below_alloc (Below.refl w.heap.size w) (.cells (cE x (.slice A x.f3.length c)) 24)) (some sb))
    have BX := Aside0.mk (heap_alloc_new w (.cells (cE x (.slice A x.f3.length c)) 24))
    have hne : w.heap.size ≠ sb := by have := blk_lt hv.sz; omega
    have HNE := Aside0.mk hne
    have BX1 := Aside0.mk (blk_far (p := ⟨sb, 0, none⟩) BX.out hne (.int .i64 (n + 1)))
    clear hC hv hne
    have z0 : (w.alloc (.cells (cE x (.slice A x.f3.length c)) 24)).cell? ⟨sb, 0, none⟩ = some (.int .i64 n) := blk_cell HV.out.sz 0
    have z1 := blk_frozen HV.out.sz 0
    have HV1 := Aside0.mk (HV.out.set (n + 1))
    have HB1 := Aside0.mk (World.grownBy.trans HB.out (grown_set (w.alloc (.cells (cE x (.slice A x.f3.length c)) 24)) sb 0 (.int .i64 (n + 1))))
    by_cases c1 : 60 < n + 1
    · have g1 : decide (60 < n + 1) = true := by simpa using c1
      rw [validF, if_pos (Or.inl c1)]
      clear c1 HC BX ih
      go_enter Tryd.func29, Tryd.ntmps29
      go_wp2_with fail
      go_ret
      exact ⟨rfl, HB1.out, HV1.out⟩
    have g1 : decide (60 < n + 1) = false := by simpa using c1
    by_cases c2 : 16 < d
    · have g2 : decide (16 < d) = true := by simpa using c2
      rw [validF, if_pos (Or.inr (Or.inl c2))]
      clear c1 c2 HC BX ih
      go_enter Tryd.func29, Tryd.ntmps29
      go_wp2_with fail
      go_ret
      exact ⟨rfl, HB1.out, HV1.out⟩
    have g2 : decide (16 < d) = false := by simpa using c2
    have y0 := blk_cell BX1.out 0
    have y1 := blk_cell BX1.out 1
    have y2 := blk_cell BX1.out 2
    have y3 := blk_cell BX1.out 3
    simp at y0 y1 y2 y3
    have HNd := Aside0.mk (node_calls x A c)
    cases hnb : nodeB x with
    | false =>
      rw [validF, if_pos (Or.inr (Or.inr hnb))]
      rw [hnb] at HNd
      clear hnb HC ih c1 c2
      go_enter Tryd.func29, Tryd.ntmps29
      go_wp2_with fail
      with_reducible refine (HNd.out _).mono ?_
      rintro e w2 ⟨rfl, HB2⟩
      go_wp2_with fail
      go_ret
      exact ⟨rfl, World.grownBy.trans HB1.out (grown_of_below HB2 _), HV1.out.below HB2⟩
    | true =>
      rw [validF, if_neg (by rw [hnb]; intro h; rcases h with h | h | h <;> first | omega | cases h)]
      rw [hnb] at HNd
      clear hnb
      obtain ⟨r, hr⟩ : ∃ r, validL (validF k (d + 1)) x.f3 (n + 1) = r := ⟨_, rfl⟩
      rw [hr]
      have HR := Aside0.mk hr
      have HIH := Aside0.mk ih
      clear hr ih
      go_enter Tryd.func29, Tryd.ntmps29
      go_wp2_with fail
      with_reducible refine (HNd.out _).mono ?_
      rintro e w2 ⟨rfl, HB2⟩
      replace HV1 := Aside0.mk (HV1.out.below HB2)
      replace HB1 := Aside0.mk (World.grownBy.trans HB1.out (grown_of_below HB2 _))
      replace BX1 := Aside0.mk (blk_below BX1.out HB2)
      clear HB2 HNd y0 y1 y2 y3 z0 z1 HV HB BX
      have y3 : w2.cell? ⟨w.heap.size, 3, none⟩ = some (.slice A x.f3.length c) := blk_cell BX1.out 3
      go_wp2_with fail
      clear y3
      go_loopg [25] x.f3.length (fun gk v25 wr => ∃ (j : Nat) (m : Int), v25 = .int .i64 (j : Int) ∧ Aside0 (j + gk = x.f3.length ∧ 0 ≤ m ∧ m ≤ 60) ∧ Aside0 (validL (validF k (d + 1)) (x.f3.drop j) m = r) ∧ Aside0 (w.grownBy wr (some sb)) ∧ Aside0 (VS w0 sb vb m wr))
      case atStart => exact ⟨0, n + 1, rfl, ⟨by omega, by omega, by omega⟩, HR, HB1, HV1⟩
      case round =>
        clear HR HB1 HV1 BX1
        obtain ⟨j, m, rfl, HJ, HL, HG, HV⟩ := hrel
        have hl := HL.out
        cases gk with
        | zero =>
          have hj : j = x.f3.length := by have := HJ.out.1; omega
          rw [hj, List.drop_length, validL] at hl
          clear HL
          subst hj
          subst hl
          go_wp2_with fail
          go_ret
          exact ⟨rfl, HG.out, HV.out⟩
        | succ n =>
          have hj : j < x.f3.length := by have := HJ.out.1; omega
          have hC := HC.out
          obtain ⟨ad, A3, c3, eA, x0, x1, x2, x3, hl3, hC3⟩ := at_T24 hC (j : Int) (by omega) (by omega)
          have hd : x.f3.drop j = rd_T24 x.f3 (j : Int) :: x.f3.drop (j + 1) := by
            rw [List.drop_eq_getElem_cons hj]
            congr 1
            unfold rd_T24
            simp [hj]
          rw [hd, validL] at hl
          generalize rd_T24 x.f3 (j : Int) = y at *
          clear hd hC
          subst eA
          rw [Int.toNat_natCast] at x0 x1 x2 x3
          have hx0 := (HV.out.bl.cell (World.block_lt_of_cell? w0 _ x0)).trans x0
          have hx1 := (HV.out.bl.cell (World.block_lt_of_cell? w0 _ x1)).trans x1
          have hx2 := (HV.out.bl.cell (World.block_lt_of_cell? w0 _ x2)).trans x2
          have hx3 := (HV.out.bl.cell (World.block_lt_of_cell? w0 _ x3)).trans x3
          have HC3 := Aside0.mk hC3
          clear x0 x1 x2 x3 hC3 hl3
          have HAB := Aside0.mk (below_alloc (Below.refl wr.heap.size wr) (.cells (cE y (.slice A3 y.f3.length c3)) 24))
          have t0 : decide ((j : Int) < (x.f3.length : Int)) = true := by simpa using hj
          have p0 : (0 ≤ (j : Int)) = True := eq_true (by omega)
          have q0 : ((j : Int) < (x.f3.length : Int)) = True := eq_true (by omega)
          have v0 : (wr.alloc (.cells (cE y (.slice A3 y.f3.length c3)) 24)).cell? ⟨vb, 0, none⟩ = some (.func (.func 29) #[] #[.pointer (some ⟨sb, 0, none⟩), .pointer (some ⟨vb, 0, none⟩)]) := blk_cell (HV.out.below HAB.out).fn 0
          have BY := Aside0.mk (heap_alloc_new wr (.cells (cE y (.slice A3 y.f3.length c3)) 24))
          have y0 : (wr.alloc (.cells (cE y (.slice A3 y.f3.length c3)) 24)).cell? ⟨wr.heap.size, 0, none⟩ = some (.int .i64 y.f0) := blk_cell BY.out 0
          have y1 : (wr.alloc (.cells (cE y (.slice A3 y.f3.length c3)) 24)).cell? ⟨wr.heap.size, 1, none⟩ = some (.int .i64 y.f1) := blk_cell BY.out 1
          have y2 : (wr.alloc (.cells (cE y (.slice A3 y.f3.length c3)) 24)).cell? ⟨wr.heap.size, 2, none⟩ = some (.string y.f2) := blk_cell BY.out 2
          have y3 : (wr.alloc (.cells (cE y (.slice A3 y.f3.length c3)) 24)).cell? ⟨wr.heap.size, 3, none⟩ = some (.slice A3 y.f3.length c3) := blk_cell BY.out 3
          have eg := eOf 29 Tryd.func29 (by kernel_rfl) rfl
          have hw : wrap64 (d + 1) = d + 1 := by unfold wrap64; omega
          go_wp2_with fail
          with_reducible refine (HIH.out (d + 1) y A3 c3 m (wr.alloc (.cells (cE y (.slice A3 y.f3.length c3)) 24)) (by omega) (by omega) HJ.out.2.1 HJ.out.2.2 HC3.out (HV.out.below HAB.out)).mono ?_
          have hrg := validF_range k (d + 1) y m HJ.out.2.1 HJ.out.2.2
          clear v0 BY y0 y1 y2 y3 hx0 hx1 hx2 hx3 p0 q0 t0 hw eg HV
          obtain ⟨q1, q2⟩ : ∃ q : Bool × Int, validF k (d + 1) y m = q := ⟨_, rfl⟩
          rw [q2] at hl hrg ⊢
          clear q2
          obtain ⟨qb, qn⟩ := q1
          rintro e w4 ⟨rfl, HG4, HV4⟩
          replace HG := Aside0.mk (World.grownBy.trans (World.grownBy.trans HG.out (grown_of_below HAB.out (some sb))) HG4)
          have HV := Aside0.mk HV4
          clear HG4 HV4 HAB
          dsimp only at hl hrg HV ⊢
          cases qb with
          | false =>
            rw [if_neg (by decide)] at hl
            clear HL
            subst hl
            go_wp2_with fail
            go_ret
            exact ⟨rfl, HG.out, HV.out⟩
          | true =>
            rw [if_pos rfl] at hl
            have hj2 : wrap64 ((j : Int) + 1) = (j : Int) + 1 := by have := Kd.C_max HC.out; unfold wrap64; omega
            replace HL := Aside0.mk hl
            have HQ := Aside0.mk (And.intro hrg.1 (hrg.2 rfl))
            have HM := Aside0.mk HJ.out.2
            clear hl hrg
            go_wp2_with fail
            go_roundg n
            case measure => omega
            case rel => exact ⟨j + 1, qn, by first | rfl | (simp; done) | (simp [hj2]; done), ⟨by have := HJ.out.1; omega, by have := HM.out.1; have := HQ.out.1; omega, HQ.out.2⟩, HL, HG, HV⟩
end Go.Proofs.YtbbopomecanaoaaDoor.A
