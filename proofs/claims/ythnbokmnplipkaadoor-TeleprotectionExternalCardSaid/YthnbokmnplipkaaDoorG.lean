import Derived.Orders
import Derived.Below
import Derived.Test.YthnbokmnplipkaaDoorWWords
/- A region that draws its order: one obligation for each operation, whatever the order. The operations below m ("core") read, reckon, call and make memory; the operations from m on ("tail": stores, assignments) run in the order of the text, behind all of the core but the floaters (values that reckon alone). No condition. -/
namespace Go.Proofs.YthnbokmnplipkaaDoor.G
open Go.RowKit Go.Proofs.YthnbokmnplipkaaDoorW.PrintWords
set_option linter.unusedVariables false
set_option linter.unusedSectionVars false

/-- A hypothesis that no walk sees. -/
structure Sh (p : Prop) : Prop where
  out : p
def upd (x : Nat → Value) (i : Nat) (v : Value) : Nat → Value := fun j => if j = i then v else x j
def dst (ops : Array Oper) (i : Nat) : Option Tmp := (ops[i]?).bind (·.dst)
def deps (ops : Array Oper) (i : Nat) : List Nat := match ops[i]? with | none => [] | some o => (o.after.toList.filter (Region.binds .any)).map (·.on)
def blk : Value → Nat
  | .pointer (some a) => a.block
  | .slice (some a) _ _ => a.block
  | _ => 0
def Lt (L : Array Bool) (i : Nat) : Prop := L.getD i false = true
/-- What must have run ahead of i. -/
def closGo (ops : Array Oper) : Nat → List Nat → List Nat
  | 0, S => S
  | k + 1, S => closGo ops k (if S.contains k then deps ops k ++ S else S)
def clos (ops : Array Oper) (i : Nat) : List Nat := closGo ops i (deps ops i)
/-- What is asked of the region's shape. -/
def shape (ops : Array Oper) (m : Nat) (fl : Nat → Bool) : Bool :=
  (List.range ops.size).all (fun i => (deps ops i).all (fun d => decide (d < i))) &&
  (List.range ops.size).all (fun i => decide (i < m) || ((List.range m).all (fun j => fl j || (clos ops i).contains j) && (decide (i = m) || (clos ops i).contains (i - 1)))) && decide (m ≤ ops.size)

section
variable {P : Program} {ops : Array Oper} {Q : Exit → Act → World → Prop}

theorem mem_ready {L : Array Bool} {i : Nat} (h : i ∈ Region.ready .any ops L) : i < ops.size ∧ L.getD i true = false ∧ ∀ d ∈ deps ops i, Lt L d := by
  unfold Region.ready at h
  rw [List.mem_filter, List.mem_range] at h
  obtain ⟨h1, h2⟩ := h
  simp only [Bool.and_eq_true, Bool.not_eq_true'] at h2
  refine ⟨h1, h2.1, fun d hd => ?_⟩
  have h3 := h2.2
  rw [Array.getElem?_eq_getElem h1] at h3
  simp only [Option.map_some, Option.getD_some, Array.all_eq_true_iff_forall_mem] at h3
  unfold deps at hd
  rw [Array.getElem?_eq_getElem h1] at hd
  simp only [List.mem_map, List.mem_filter] at hd
  obtain ⟨e, ⟨he, hb⟩, rfl⟩ := hd
  have := h3 e (by simpa using he)
  rw [hb] at this
  simpa [Lt] using this
theorem ready_of {L : Array Bool} {i : Nat} (h1 : i < ops.size) (h2 : L.getD i true = false) (h3 : ∀ d ∈ deps ops i, Lt L d) : i ∈ Region.ready .any ops L := by
  unfold Region.ready
  rw [List.mem_filter, List.mem_range]
  refine ⟨h1, ?_⟩
  simp only [Bool.and_eq_true, Bool.not_eq_true']
  refine ⟨h2, ?_⟩
  rw [Array.getElem?_eq_getElem h1]
  simp only [Option.map_some, Option.getD_some, Array.all_eq_true_iff_forall_mem]
  intro e he
  by_cases hb : Region.binds .any e = true
  · rw [hb]
    have := h3 e.on (by unfold deps; rw [Array.getElem?_eq_getElem h1]; simp only [List.mem_map, List.mem_filter]; exact ⟨e, ⟨by simpa using he, hb⟩, rfl⟩)
    simpa [Lt] using this
  · simp [hb]

theorem clos_go {L : Array Bool} (hc : ∀ j, Lt L j → ∀ d ∈ deps ops j, Lt L d) : ∀ (k : Nat) (S : List Nat), (∀ j ∈ S, Lt L j) → ∀ j ∈ closGo ops k S, Lt L j
  | 0, S, h => h
  | k + 1, S, h => by
    unfold closGo
    refine clos_go hc k _ ?_
    split
    · rename_i hk
      intro j hj
      rcases List.mem_append.1 hj with hj | hj
      · exact hc k (h k (by simpa using hk)) j hj
      · exact h j hj
    · exact h
theorem lt_set {L : Array Bool} {i j : Nat} (hi : i < L.size) : Lt (L.setIfInBounds i true) j ↔ j = i ∨ Lt L j := by
  unfold Lt
  simp only [Array.getD_eq_getD_getElem?, Array.getElem?_setIfInBounds]
  by_cases h : i = j
  · subst h
    simp [hi]
  · rw [if_neg h]
    simp [Ne.symm h]

variable (ops) in
/-- The operations from n - k on, once all else but floaters has run. -/
def Tail (P : Program) (Q : Exit → Act → World → Prop) (m : Nat) (fl : Nat → Bool) (φ : Nat → Value → Prop) (fr : (Nat → Value) → Act) : Nat → (Nat → Value) → World → Prop
  | 0, x, w => ∀ y : Nat → Value, (∀ j, (j < m ∧ fl j = true) ∨ y j = x j) → (∀ j, j < m → φ j (y j)) → Q .normal (fr y) w
  | k + 1, x, w => ∀ y : Nat → Value, (∀ j, (j < m ∧ fl j = true) ∨ y j = x j) → (∀ j ∈ deps ops (ops.size - (k + 1)), j < m → φ j (y j)) → ∀ o, ops[ops.size - (k + 1)]? = some o →
      ∀ K : Act → World → Prop, Sh (∀ v w', Tail P Q m fl φ fr k (upd y (ops.size - (k + 1)) v) w' → K ((fr y).put o.dst v) w') →
        if Region.wanted o (yielded ops (fr y).tmps) = true then Oper.wp P o (fr y) w K Q else K ((fr y).put o.dst undef) w

variable {m : Nat} {fl nw : Nat → Bool} {φ : Nat → Value → Prop} {Φ : Nat → Value → World → Prop} {fr : (Nat → Value) → Act} {w0 : World}

theorem tail_agree : ∀ {k : Nat} {x y : Nat → Value} {w : World}, (∀ j, (j < m ∧ fl j = true) ∨ y j = x j) → Tail ops P Q m fl φ fr k x w → Tail ops P Q m fl φ fr k y w
  | 0, x, y, w, ha, h => by
    unfold Tail at h ⊢
    intro z hz
    exact h z fun j => (hz j).elim .inl fun h1 => (ha j).elim .inl fun h2 => .inr (h1.trans h2)
  | k + 1, x, y, w, ha, h => by
    unfold Tail at h ⊢
    intro z hz
    exact h z fun j => (hz j).elim .inl fun h1 => (ha j).elim .inl fun h2 => .inr (h1.trans h2)

/-- What is known of the core while none of the tail has run. -/
def Core (ops : Array Oper) (m : Nat) (fl nw : Nat → Bool) (Φ : Nat → Value → World → Prop) (w0 : World) (L : Array Bool) (x : Nat → Value) (w : World) : Prop :=
  Below w0.heap.size w0 w ∧ (∀ j, m ≤ j → j < ops.size → ¬ Lt L j) ∧ (∀ j, j < m → fl j = false → Lt L j → Φ j (x j) w) ∧
  (∀ j k, j < m → k < m → j ≠ k → fl j = false → fl k = false → nw j = true → nw k = true → Lt L j → Lt L k → blk (x j) ≠ blk (x k))

structure Side (P : Program) (ops : Array Oper) (Q : Exit → Act → World → Prop) (m : Nat) (fl nw : Nat → Bool) (φ : Nat → Value → Prop) (Φ : Nat → Value → World → Prop) (fr : (Nat → Value) → Act) (w0 : World) : Prop where
  shape : shape ops m fl = true
  put : ∀ x i v, i < ops.size → (fr x).put (dst ops i) v = fr (upd x i v)
  pureOf : ∀ j v w, j < m → fl j = false → Φ j v w → φ j v
  keep : ∀ j v w w', j < m → fl j = false → Φ j v w → Below w.heap.size w w' → Φ j v w'
  low : ∀ j v w, j < m → fl j = false → nw j = true → Φ j v w → blk v < w.heap.size
  core : ∀ i o, i < m → fl i = false → ops[i]? = some o → ∀ x w, Below w0.heap.size w0 w → (∀ j ∈ deps ops i, fl j = false → Φ j (x j) w) → (∀ j ∈ deps ops i, φ j (x j)) →
    ∀ K : Act → World → Prop, Sh (∀ v w', Below w.heap.size w w' → Φ i v w' → (nw i = true → w.heap.size ≤ blk v) → K ((fr x).put o.dst v) w') →
      if Region.wanted o (yielded ops (fr x).tmps) = true then Oper.wp P o (fr x) w K Q else K ((fr x).put o.dst undef) w
  float : ∀ i o, i < m → fl i = true → ops[i]? = some o → ∀ x w, (∀ j ∈ deps ops i, φ j (x j)) →
    ∀ K : Act → World → Prop, Sh (∀ v, φ i v → K ((fr x).put o.dst v) w) →
      if Region.wanted o (yielded ops (fr x).tmps) = true then Oper.wp P o (fr x) w K Q else K ((fr x).put o.dst undef) w
  tail : ∀ x w, Below w0.heap.size w0 w → (∀ j, j < m → fl j = false → Φ j (x j) w) →
    (∀ j k, j < m → k < m → j ≠ k → fl j = false → fl k = false → nw j = true → nw k = true → blk (x j) ≠ blk (x k)) → Tail ops P Q m fl φ fr (ops.size - m) x w

theorem wpOp_of {i : Nat} {o : Oper} {K : Act → World → Prop} {a : Act} {w : World} (hi : ops[i]? = some o)
    (h : if Region.wanted o (yielded ops a.tmps) = true then Oper.wp P o a w K Q else K (a.put o.dst undef) w) : wpOp P ops Q i K a w := by
  unfold wpOp
  simp only [hi]
  split
  · rename_i hw
    rw [if_pos hw] at h
    exact .inl h
  · rename_i hw
    rw [if_neg hw] at h
    exact h

theorem main (S : Side P ops Q m fl nw φ Φ fr w0) : ∀ (fuel : Nat) (L : Array Bool) (x : Nat → Value) (w : World), L.size = ops.size → L.toList.count false ≤ fuel →
    (∀ j, Lt L j → ∀ d ∈ deps ops j, Lt L d) → (∀ j, j < m → Lt L j → φ j (x j)) →
    (Core ops m fl nw Φ w0 L x w ∨ ∃ k, k ≤ ops.size - m ∧ (∀ j, j < m → fl j = false → Lt L j) ∧ (∀ j, m ≤ j → j < ops.size → (Lt L j ↔ j < ops.size - k)) ∧ Tail ops P Q m fl φ fr k x w) →
    wpAny P .any ops Q fuel L (fr x) w := by
  have hsh := S.shape
  unfold G.shape at hsh
  simp only [Bool.and_eq_true, List.all_eq_true, List.mem_range, decide_eq_true_eq, Bool.or_eq_true] at hsh
  obtain ⟨⟨hback, htail⟩, hm⟩ := hsh
  -- all listed: the end
  have hend : ∀ (L : Array Bool) (x : Nat → Value) (w : World), (∀ j, j < ops.size → Lt L j) → (∀ j, j < m → Lt L j → φ j (x j)) →
      (Core ops m fl nw Φ w0 L x w ∨ ∃ k, k ≤ ops.size - m ∧ (∀ j, j < m → fl j = false → Lt L j) ∧ (∀ j, m ≤ j → j < ops.size → (Lt L j ↔ j < ops.size - k)) ∧ Tail ops P Q m fl φ fr k x w) → Q .normal (fr x) w := by
    intro L x w hall hφ hst
    have h0 : ∀ k, k = 0 → Tail ops P Q m fl φ fr k x w → Q .normal (fr x) w := by
      rintro k rfl h
      unfold Tail at h
      exact h x (fun j => .inr rfl) (fun j hj => hφ j hj (hall j (by omega)))
    rcases hst with ⟨hB, hT, hΦ, hN⟩ | ⟨k, hk, h1, h2, h3⟩
    · by_cases hmn : m = ops.size
      · refine h0 (ops.size - m) (by omega) (S.tail x w hB (fun j hj hf => hΦ j hj hf (hall j (by omega))) fun j k hj hk hjk hfj hfk hnj hnk => hN j k hj hk hjk hfj hfk hnj hnk (hall j (by omega)) (hall k (by omega)))
      · exact absurd (hall m (by omega)) (hT m (by omega) (by omega))
    · refine h0 k ?_ h3
      by_cases hk0 : k = 0
      · exact hk0
      · have := (h2 (ops.size - k) (by omega) (by omega)).1 (hall _ (by omega))
        omega
  -- some unlisted: some ready
  have hsome : ∀ (L : Array Bool), L.size = ops.size → Region.ready .any ops L = [] → ∀ j, j < ops.size → Lt L j := by
    intro L hL hr j
    induction j using Nat.strongRecOn with
    | _ j ih =>
      intro hj
      by_cases hl : Lt L j
      · exact hl
      · exfalso
        have : j ∈ Region.ready .any ops L := ready_of hj (by
          unfold Lt at hl
          simp only [Array.getD_eq_getD_getElem?] at hl ⊢
          rw [Array.getElem?_eq_getElem (by omega)] at hl ⊢
          simpa using hl) fun d hd => ih d (hback j hj d hd) (by have := hback j hj d hd; omega)
        rw [hr] at this
        simp at this
  intro fuel
  induction fuel with
  | zero =>
    intro L x w hL hc hcl hφ hst
    have hall : ∀ j, j < ops.size → Lt L j := by
      intro j hj
      unfold Lt
      have h1 : L.toList.count false = 0 := by omega
      rw [List.count_eq_zero] at h1
      simp only [Array.getD_eq_getD_getElem?]
      rw [Array.getElem?_eq_getElem (by omega)]
      simp only [Option.getD_some]
      have h2 : L[j]'(by omega) ∈ L.toList := by simp
      cases h3 : L[j]'(by omega) with
      | true => rfl
      | false => rw [h3] at h2; exact absurd h2 h1
    unfold wpAny
    refine ⟨?_, hend L x w hall hφ hst⟩
    refine List.eq_nil_iff_forall_not_mem.2 fun i hi => ?_
    obtain ⟨h1, h2, _⟩ := mem_ready hi
    have := hall i h1
    unfold Lt at this
    simp only [Array.getD_eq_getD_getElem?] at this h2
    rw [Array.getElem?_eq_getElem (by omega)] at this h2
    simp at this h2
    rw [this] at h2
    cases h2
  | succ fuel ih =>
    intro L x w hL hc hcl hφ hst
    unfold wpAny
    refine ⟨fun hr => hend L x w (hsome L hL hr) hφ hst, fun i hi => ?_⟩
    obtain ⟨hin, hun, hdp⟩ := mem_ready hi
    have hun' : ¬ Lt L i := by
      unfold Lt
      simp only [Array.getD_eq_getD_getElem?] at hun ⊢
      rw [Array.getElem?_eq_getElem (by omega)] at hun ⊢
      simp at hun ⊢
      exact hun
    have hsz : (L.setIfInBounds i true).size = ops.size := by simpa using hL
    have hcnt : (L.setIfInBounds i true).toList.count false ≤ fuel := by
      have h1 : L[i]'(by omega) = false := by
        simp only [Array.getD_eq_getD_getElem?] at hun
        rw [Array.getElem?_eq_getElem (by omega)] at hun
        simpa using hun
      rw [Array.toList_setIfInBounds, List.count_set (by simpa using (by omega : i < L.size))]
      have h2 : L.toList[i]'(by simpa using (by omega : i < L.size)) = false := by simpa using h1
      rw [h2, if_pos (by decide), if_neg (by decide)]
      omega
    have hcl' : ∀ j, Lt (L.setIfInBounds i true) j → ∀ d ∈ deps ops j, Lt (L.setIfInBounds i true) d := by
      intro j hj d hd
      rw [lt_set (by omega)] at hj ⊢
      rcases hj with rfl | hj
      · exact .inr (hdp d hd)
      · exact .inr (hcl j hj d hd)
    obtain ⟨o, ho⟩ : ∃ o, ops[i]? = some o := ⟨_, Array.getElem?_eq_getElem hin⟩
    have hdst : o.dst = dst ops i := by unfold dst; rw [ho]; rfl
    have hdep : ∀ j ∈ deps ops i, j < i := fun j hj => hback i hin j hj
    refine wpOp_of ho ?_
    have hup : ∀ (v : Value) (j : Nat), j ≠ i → upd x i v j = x j := fun v j hj => by unfold upd; rw [if_neg hj]
    have hui : ∀ v, upd x i v i = v := fun v => by unfold upd; rw [if_pos rfl]
    by_cases him : i < m
    · have hφ' : ∀ v, φ i v → ∀ j, j < m → Lt (L.setIfInBounds i true) j → φ j (upd x i v j) := by
        intro v hv j hj hl
        rw [lt_set (by omega)] at hl
        by_cases hji : j = i
        · subst hji; rw [hui]; exact hv
        · rw [hup v j hji]; exact hφ j hj (hl.resolve_left hji)
      cases hfl : fl i with
      | true =>
        refine S.float i o him hfl ho x w (fun j hj => hφ j (by have := hdep j hj; omega) (hdp j hj)) _ ⟨fun v hv => ?_⟩
        rw [hdst, S.put x i v hin]
        refine ih _ _ _ hsz hcnt hcl' (hφ' v hv) ?_
        rcases hst with ⟨hB, hT, hΦ, hN⟩ | ⟨k, hk, h1, h2, h3⟩
        · refine .inl ⟨hB, fun j hj hjn hl => ?_, fun j hj hf hl => ?_, fun j k hj hk hjk hfj hfk hnj hnk hlj hlk => ?_⟩
          · rw [lt_set (by omega)] at hl
            rcases hl with rfl | hl
            · omega
            · exact hT j hj hjn hl
          · have hji : j ≠ i := by rintro rfl; rw [hfl] at hf; cases hf
            rw [lt_set (by omega)] at hl
            rw [hup v j hji]
            exact hΦ j hj hf (hl.resolve_left hji)
          · have hji : j ≠ i := by rintro rfl; rw [hfl] at hfj; cases hfj
            have hki : k ≠ i := by rintro rfl; rw [hfl] at hfk; cases hfk
            rw [lt_set (by omega)] at hlj hlk
            rw [hup v j hji, hup v k hki]
            exact hN j k hj hk hjk hfj hfk hnj hnk (hlj.resolve_left hji) (hlk.resolve_left hki)
        · refine .inr ⟨k, hk, fun j hj hf => ?_, fun j hj hjn => ?_, tail_agree (fun j => ?_) h3⟩
          · rw [lt_set (by omega)]; exact .inr (h1 j hj hf)
          · rw [lt_set (by omega)]
            have hji : j ≠ i := by omega
            exact ⟨fun h => (h2 j hj hjn).1 (h.resolve_left hji), fun h => .inr ((h2 j hj hjn).2 h)⟩
          · by_cases hji : j = i
            · subst hji; exact .inl ⟨him, hfl⟩
            · exact .inr (hup v j hji)
      | false =>
        rcases hst with ⟨hB, hT, hΦ, hN⟩ | ⟨k, hk, h1, h2, h3⟩
        · refine S.core i o him hfl ho x w hB (fun j hj hf => hΦ j (by have := hdep j hj; omega) hf (hdp j hj)) (fun j hj => hφ j (by have := hdep j hj; omega) (hdp j hj)) _ ⟨fun v w' hb hv hn => ?_⟩
          rw [hdst, S.put x i v hin]
          refine ih _ _ _ hsz hcnt hcl' (hφ' v (S.pureOf i v w' him hfl hv)) (.inl ⟨below_step hB hb, fun j hj hjn hl => ?_, fun j hj hf hl => ?_, fun j k hj hk hjk hfj hfk hnj hnk hlj hlk => ?_⟩)
          · rw [lt_set (by omega)] at hl
            rcases hl with rfl | hl
            · omega
            · exact hT j hj hjn hl
          · rw [lt_set (by omega)] at hl
            by_cases hji : j = i
            · subst hji; rw [hui]; exact hv
            · rw [hup v j hji]; exact S.keep j _ w w' hj hf (hΦ j hj hf (hl.resolve_left hji)) hb
          · rw [lt_set (by omega)] at hlj hlk
            by_cases hji : j = i
            · subst hji
              have hkj : k ≠ j := fun h => hjk h.symm
              rw [hui, hup v k hkj]
              have h1 := S.low k _ w hk hfk hnk (hΦ k hk hfk (hlk.resolve_left hkj))
              have h2 := hn hnj
              omega
            · by_cases hki : k = i
              · subst hki
                rw [hui, hup v j hji]
                have h1 := S.low j _ w hj hfj hnj (hΦ j hj hfj (hlj.resolve_left hji))
                have h2 := hn hnk
                omega
              · rw [hup v j hji, hup v k hki]
                exact hN j k hj hk hjk hfj hfk hnj hnk (hlj.resolve_left hji) (hlk.resolve_left hki)
        · exact absurd (h1 i him hfl) hun'
    · -- the tail
      have hclo : ∀ j ∈ clos ops i, Lt L j := clos_go hcl i _ hdp
      have ht := (htail i hin).resolve_left him
      have hcore : ∀ j, j < m → fl j = false → Lt L j := fun j hj hf => by
        rcases ht.1 j hj with h | h
        · rw [hf] at h; cases h
        · exact hclo j (by simpa using h)
      have hprev : i ≠ m → Lt L (i - 1) := fun h => by
        rcases ht.2 with h' | h'
        · exact absurd h' h
        · exact hclo _ (by simpa using h')
      obtain ⟨k, hk, hk2, hkT, h3⟩ : ∃ k, k ≤ ops.size - m ∧ i = ops.size - k ∧ (∀ j, m ≤ j → j < ops.size → (Lt L j ↔ j < ops.size - k)) ∧ Tail ops P Q m fl φ fr k x w := by
        rcases hst with ⟨hB, hT, hΦ, hN⟩ | ⟨k, hk, h1, h2, h3⟩
        · have himm : i = m := by
            by_cases h : i = m
            · exact h
            · exact absurd (hprev h) (hT (i - 1) (by omega) (by omega))
          refine ⟨ops.size - m, Nat.le_refl _, by omega, fun j hj hjn => ⟨fun h => absurd h (hT j hj hjn), fun h => by omega⟩, S.tail x w hB (fun j hj hf => hΦ j hj hf (hcore j hj hf)) fun j k hj hk hjk hfj hfk hnj hnk => hN j k hj hk hjk hfj hfk hnj hnk (hcore j hj hfj) (hcore k hk hfk)⟩
        · refine ⟨k, hk, ?_, h2, h3⟩
          have hnl : ¬ i < ops.size - k := fun h => hun' ((h2 i (by omega) hin).2 h)
          by_cases h : i = m
          · omega
          · have := (h2 (i - 1) (by omega) (by omega)).1 (hprev h)
            omega
      obtain ⟨k, rfl⟩ : ∃ k', k = k' + 1 := ⟨k - 1, by omega⟩
      unfold Tail at h3
      rw [← hk2] at h3
      refine h3 x (fun j => .inr rfl) (fun j hj hjm => hφ j hjm (hdp j hj)) o ho _ ⟨fun v w' hT => ?_⟩
      rw [hdst, S.put x i v hin]
      refine ih _ _ _ hsz hcnt hcl' ?_ (.inr ⟨k, by omega, fun j hj hf => ?_, fun j hj hjn => ?_, hT⟩)
      · intro j hj hl
        have hji : j ≠ i := by omega
        rw [lt_set (by omega)] at hl
        rw [hup v j hji]
        exact hφ j hj (hl.resolve_left hji)
      · rw [lt_set (by omega)]; exact .inr (hcore j hj hf)
      · rw [lt_set (by omega)]
        constructor
        · rintro (rfl | h)
          · omega
          · have := (hkT j hj hjn).1 h
            omega
        · intro h
          by_cases hji : j = i
          · exact .inl hji
          · exact .inr ((hkT j hj hjn).2 (by omega))

/-- The region. -/
theorem region {id : Nat} {a : Act} {w : World} (hm : P.follows .mixedOrders = true) (x : Nat → Value) (hx : fr x = a) (S : Side P ops Q m fl nw φ Φ fr w) : (Code.region id ops true).wp P Q a w := by
  subst hx
  refine wp_region_any hm ?_
  have hno : ∀ j, ¬ Lt (Array.replicate ops.size false) j := by
    intro j h
    unfold Lt at h
    simp only [Array.getD_eq_getD_getElem?, Array.getElem?_replicate] at h
    split at h <;> simp at h
  refine main S ops.size _ x _ (by simp) ?_ (fun j h => absurd h (hno j)) (fun j _ h => absurd h (hno j)) (.inl ⟨below_drew (Below.refl _ w), fun j _ _ => hno j, fun j _ _ h => absurd h (hno j), fun j k _ _ _ _ _ _ _ h => absurd h (hno j)⟩)
  simp

/-! ### The same, as a program prints it -/
def putAll : List (Option Tmp) → Nat → (Nat → Value) → Act → Act
  | [], _, _, a => a
  | N :: r, k, x, a => putAll r (k + 1) x (a.put N (x k))
def apartB : List (Option Tmp) → Bool
  | [] => true
  | none :: r => apartB r
  | some d :: r => !r.contains (some d) && apartB r
theorem put_comm' {a : Act} {N : Option Tmp} {d : Tmp} {u v : Value} (h : N ≠ some d) : (a.put (some d) u).put N v = (a.put N v).put (some d) u := by
  cases N with
  | none => rfl
  | some e =>
    have he : d ≠ e := fun h' => h (by rw [h'])
    unfold Act.put
    simp only [Act.mk.injEq, and_true]
    exact Array.setIfInBounds_comm _ _ he
theorem putAll_put {d : Tmp} {v : Value} : ∀ (Ns : List (Option Tmp)) (k : Nat) (x : Nat → Value) (a : Act), Ns.contains (some d) = false → putAll Ns k x (a.put (some d) v) = (putAll Ns k x a).put (some d) v
  | [], _, _, _, _ => rfl
  | N :: r, k, x, a, h => by
    simp only [List.contains_cons, Bool.or_eq_false_iff] at h
    unfold putAll
    rw [put_comm' (by intro h'; rw [h'] at h; simp at h)]
    exact putAll_put r (k + 1) x _ h.2
theorem putAll_low : ∀ (Ns : List (Option Tmp)) (k : Nat) (x : Nat → Value) (a : Act) (i : Nat) (v : Value), i < k → putAll Ns k (upd x i v) a = putAll Ns k x a
  | [], _, _, _, _, _, _ => rfl
  | N :: r, k, x, a, i, v, h => by
    unfold putAll
    rw [show upd x i v k = x k by unfold upd; rw [if_neg (by omega)]]
    exact putAll_low r (k + 1) x _ i v (by omega)
theorem put_twice (a : Act) (N : Option Tmp) (u v : Value) : (a.put N u).put N v = a.put N v := by
  cases N with
  | none => rfl
  | some d => unfold Act.put; simp
theorem putAll_upd : ∀ (Ns : List (Option Tmp)) (k : Nat) (x : Nat → Value) (a : Act) (i : Nat) (v : Value), apartB Ns = true → (Ns[i]?).isSome = true →
    (putAll Ns k x a).put ((Ns[i]?).bind id) v = putAll Ns k (upd x (k + i) v) a
  | [], _, _, _, i, _, _, h => by simp at h
  | N :: r, k, x, a, 0, v, hA, _ => by
    simp only [List.getElem?_cons_zero, Option.bind_some, id]
    unfold putAll
    rw [putAll_low r (k + 1) x _ (k + 0) v (by omega), show upd x (k + 0) v k = v by unfold upd; rw [if_pos (by omega)]]
    cases N with
    | none =>
      rfl
    | some d =>
      unfold apartB at hA
      simp only [Bool.and_eq_true, Bool.not_eq_true'] at hA
      rw [← putAll_put r (k + 1) x _ hA.1, put_twice]
  | N :: r, k, x, a, i + 1, v, hA, hi => by
    simp only [List.getElem?_cons_succ] at hi ⊢
    unfold putAll
    rw [show upd x (k + (i + 1)) v k = x k by unfold upd; rw [if_neg (by omega)], show k + (i + 1) = k + 1 + i by omega]
    refine putAll_upd r (k + 1) x _ i v ?_ hi
    cases N with
    | none => exact hA
    | some d => unfold apartB at hA; simp only [Bool.and_eq_true] at hA; exact hA.2
def old (a : Act) (Ns : List (Option Tmp)) (i : Nat) : Value := match (Ns[i]?).bind id with | some d => a.tmps.getD d undef | none => undef
theorem put_same (a : Act) (d : Tmp) : a.put (some d) (a.tmps.getD d undef) = a := by
  unfold Act.put
  cases a with
  | mk t ds =>
    simp only [Act.mk.injEq, and_true]
    refine Array.ext_getElem? fun j => ?_
    simp only [Array.getElem?_setIfInBounds, Array.getD_eq_getD_getElem?]
    split
    · rename_i h
      subst h
      split
      · rename_i h2
        rw [Array.getElem?_eq_getElem h2]
        rfl
      · rename_i h2
        rw [Array.getElem?_eq_none (by omega)]
    · rfl
theorem putAll_old : ∀ (Ns : List (Option Tmp)) (k : Nat) (x : Nat → Value) (a : Act), (∀ i, i < Ns.length → x (k + i) = old a Ns i) → putAll Ns k x a = a
  | [], _, _, _, _ => rfl
  | N :: r, k, x, a, h => by
    unfold putAll
    have h0 := h 0 (by simp)
    have hp : a.put N (x k) = a := by
      rw [show x k = old a (N :: r) 0 from h0]
      cases N with
      | none => rfl
      | some d => exact put_same a d
    rw [hp]
    refine putAll_old r (k + 1) x a fun i hi => ?_
    have := h (i + 1) (by simpa using hi)
    rw [show k + 1 + i = k + (i + 1) by omega, this]
    unfold old
    rw [List.getElem?_cons_succ]

/-- The facts of the operations, in the region's order. -/
abbrev Facts := List (Value → World → Prop)
@[reducible] def fact (F : Facts) (i : Nat) : Value → World → Prop := F.getD i fun _ _ => True
/-- Below k, each. -/
def AllB (p : Nat → Prop) (k : Nat) : Prop := ∀ i, i < k → p i
theorem allB_zero {p : Nat → Prop} : AllB p 0 := fun i hi => absurd hi (Nat.not_lt_zero i)
theorem allB_succ {p : Nat → Prop} {k : Nat} (h : AllB p k) (hk : p k) : AllB p (k + 1) := fun i hi => by
  by_cases h' : i = k
  · exact h' ▸ hk
  · exact h i (by omega)
/-- A fact that stays true when memory is made. -/
def Stays (f : Value → World → Prop) : Prop := ∀ v w w', f v w → Below w.heap.size w w' → f v w'
@[reducible] def Is (u v : Value) (_ : World) : Prop := v = u
theorem stays_eq (u : Value) : Stays (Is u) := fun v w w' h _ => h
/-- A block that the operation has made. -/
def New (w0 : World) (cs : Array Value) (t : TypeId) (v : Value) (w : World) : Prop := ∃ b, v = .pointer (some ⟨b, 0, none⟩) ∧ w.heap[b]? = some (.cells cs t (0, 0)) ∧ w0.heap.size ≤ b
theorem stays_new (w0 : World) (cs : Array Value) (t : TypeId) : Stays (New w0 cs t) := fun v w w' ⟨b, h1, h2, h3⟩ hb =>
  ⟨b, h1, (hb.block b (Array.getElem?_eq_some_iff.1 h2).1).trans h2, h3⟩
theorem new_low {w0 : World} {cs : Array Value} {t : TypeId} {v : Value} {w : World} (h : New w0 cs t v w) : blk v < w.heap.size := by
  obtain ⟨b, rfl, h2, _⟩ := h
  exact (Array.getElem?_eq_some_iff.1 h2).1

def CoreObl (P : Program) (ops : Array Oper) (Q : Exit → Act → World → Prop) (nw : Nat → Bool) (F : Facts) (fr : (Nat → Value) → Act) (w0 : World) (i : Nat) : Prop :=
  ∀ o, ops[i]? = some o → ∀ x w, Below w0.heap.size w0 w → (∀ j ∈ deps ops i, fact F j (x j) w) →
    ∀ K : Act → World → Prop, Sh (∀ v w', Below w.heap.size w w' → fact F i v w' → (nw i = true → w.heap.size ≤ blk v) → K ((fr x).put o.dst v) w') →
      if Region.wanted o (yielded ops (fr x).tmps) = true then Oper.wp P o (fr x) w K Q else K ((fr x).put o.dst undef) w
theorem core_obl {nw : Nat → Bool} {F : Facts} {fr : (Nat → Value) → Act} {w0 : World} {i : Nat} {o : Oper} {N : Option Tmp} (hi : ops[i]? = some o) (hN : o.dst = N)
    (h : ∀ x a, fr x = a → ∀ w, Below w0.heap.size w0 w → (∀ j, (deps ops i).contains j = true → fact F j (x j) w) →
      ∀ K : Act → World → Prop, Sh (∀ v w', Below w.heap.size w w' → fact F i v w' → (nw i = true → w.heap.size ≤ blk v) → K (a.put N v) w') →
        if Region.wanted o (yielded ops a.tmps) = true then Oper.wp P o a w K Q else K (a.put N undef) w) : CoreObl P ops Q nw F fr w0 i := by
  intro o' ho' x w hB hf K hK
  obtain rfl : o = o' := Option.some.inj (hi.symm.trans ho')
  subst hN
  exact h x _ rfl w hB (fun j hj => hf j (by simpa using hj)) K hK

theorem tail_zero {fr : (Nat → Value) → Act} {x : Nat → Value} {w : World} (h : ∀ a, fr x = a → Q .normal a w) : Tail ops P Q m (fun _ => false) (fun _ _ => True) fr 0 x w := by
  unfold Tail
  intro y hy _
  obtain rfl : y = x := funext fun j => (hy j).resolve_left fun h => by cases h.2
  exact h _ rfl
theorem tail_succ {fr : (Nat → Value) → Act} {x : Nat → Value} {w : World} {k i : Nat} {o : Oper} {N : Option Tmp} (hn : ops.size - (k + 1) = i) (hi : ops[i]? = some o) (hN : o.dst = N)
    (h : ∀ a, fr x = a → ∀ K : Act → World → Prop, Sh (∀ v w', Tail ops P Q m (fun _ => false) (fun _ _ => True) fr k (upd x i v) w' → K (a.put N v) w') →
      if Region.wanted o (yielded ops a.tmps) = true then Oper.wp P o a w K Q else K (a.put N undef) w) : Tail ops P Q m (fun _ => false) (fun _ _ => True) fr (k + 1) x w := by
  subst hn
  subst hN
  unfold Tail
  intro y hy _ o' ho' K hK
  obtain rfl : o = o' := Option.some.inj (hi.symm.trans ho')
  obtain rfl : y = x := funext fun j => (hy j).resolve_left fun h => by cases h.2
  exact h _ rfl K hK

def AllF : Facts → Prop
  | [] => True
  | f :: r => Stays f ∧ AllF r
theorem allF_mem : ∀ {F : Facts}, AllF F → ∀ f ∈ F, Stays f
  | f :: r, h, g, hg => by
    rcases List.mem_cons.1 hg with rfl | hg
    · exact h.1
    · exact allF_mem h.2 g hg
def AllN (F : Facts) : List Nat → Prop
  | [] => True
  | j :: r => (∀ v w', fact F j v w' → blk v < w'.heap.size) ∧ AllN F r
theorem allN_mem {F : Facts} : ∀ {ns : List Nat}, AllN F ns → ∀ j ∈ ns, ∀ v w', fact F j v w' → blk v < w'.heap.size
  | i :: r, h, j, hj => by
    rcases List.mem_cons.1 hj with rfl | hj
    · exact h.1
    · exact allN_mem h.2 j hj
/-- A region without floaters, as it is printed. -/
theorem plain {id n t : Nat} {a : Act} {w : World} (Ns : List (Option Tmp)) (F : Facts) (ns : List Nat) (hm : P.follows .mixedOrders = true) (hn : ops.size = n) (hNs : (List.range n).map (dst ops) = Ns)
    (hA : (apartB Ns && G.shape ops m (fun _ => false)) = true) (ht : n - m = t) (hc : AllB (CoreObl P ops Q (fun j => ns.contains j) F (fun x => putAll Ns 0 x a) w) m)
    (hs : AllF F) (hl : AllN F ns)
    (hT : ∀ x w', Below w.heap.size w w' → (∀ j, j < m → fact F j (x j) w') → (∀ j k, j < m → k < m → j ≠ k → ns.contains j = true → ns.contains k = true → blk (x j) ≠ blk (x k)) →
      Tail ops P Q m (fun _ => false) (fun _ _ => True) (fun x => putAll Ns 0 x a) t x w') : (Code.region id ops true).wp P Q a w := by
  simp only [Bool.and_eq_true] at hA
  subst hn
  subst ht
  have hlen : Ns.length = ops.size := by rw [← hNs]; simp
  have hNi : ∀ i, i < ops.size → Ns[i]? = some (dst ops i) := fun i hi => by rw [← hNs]; simp [hi]
  refine region (m := m) (fl := fun _ => false) (nw := fun j => ns.contains j) (φ := fun _ _ => True) (Φ := fact F) (fr := fun x => putAll Ns 0 x a) hm (old a Ns) (putAll_old Ns 0 _ a fun i _ => by rw [Nat.zero_add]) ⟨hA.2, ?_, fun _ _ _ _ _ _ => trivial, ?_, fun j v w' _ _ hn hf => allN_mem hl j (by simpa using hn) v w' hf, ?_, fun i o _ h => (by cases h), ?_⟩
  · intro x i v hi
    have := putAll_upd Ns 0 x a i v hA.1 (by rw [hNi i hi]; rfl)
    rw [hNi i hi, Nat.zero_add] at this
    exact this
  · intro j v w1 w2 _ _ hf hb
    unfold fact at hf ⊢
    rw [List.getD_eq_getElem?_getD] at hf ⊢
    cases hj : F[j]? with
    | none => trivial
    | some f =>
      rw [hj] at hf
      exact allF_mem hs f (List.mem_of_getElem? hj) v w1 w2 hf hb
  · intro i o hi _ ho x w' hB hf _ K hK
    exact hc i hi o ho x w' hB (fun j hj => hf j hj rfl) K hK
  · intro x w' hB hf hd
    exact hT x w' hB (fun j hj => hf j hj rfl) (fun j k hj hk hjk h1 h2 => hd j k hj hk hjk rfl rfl h1 h2)

end
end Go.Proofs.YthnbokmnplipkaaDoor.G
