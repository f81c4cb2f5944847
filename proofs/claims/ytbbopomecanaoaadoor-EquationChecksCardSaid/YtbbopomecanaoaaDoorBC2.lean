import Derived.Test.YtbbopomecanaoaaDoorBC1
import Derived.WalkSpells
import Derived.Deep.Quiet
import Derived.Orders
import Derived.Below
import Derived.WalkSmall
import Derived.Deep.LoopGhost
/- The texts that the law's proof stands on, merged and pruned by program. No condition. -/
namespace Go.Proofs.YtbbopomecanaoaaDoor.A
open Go.RowKit Go.Proofs.YtbbopomecanaoaaDoorW.PrintWords Go.Proofs.YtbbopomecanaoaaDoor.XK
set_option linter.unusedVariables false
abbrev E := S24
abbrev Tk := S88
abbrev bs (l : List UInt8) : ByteArray := ⟨l.toArray⟩
def pk (ts : List Tk) (en : Int) (i : Nat) : Tk := if i < ts.length then ts.getD i z88 else ⟨0, en, 0, ⟨#[]⟩⟩
inductive Res where
  | ok (x : E) (i : Nat) (l : Int)
  | fail (at_ : Int)
inductive Lv where
  | or | xor | and | not | rel | sum | prim
def fnOp (s : ByteArray) : Int :=
  if s.toList = [109, 105, 110] then 13 else if s.toList = [109, 97, 120] then 14 else if s.toList = [97, 98, 115] then 15 else if s.toList = [105, 102] then 16
  else if s.toList = [114, 105, 115, 101] then 17 else if s.toList = [102, 97, 108, 108] then 18 else if s.toList = [100, 101, 108, 97, 121] then 19 else if s.toList = [104, 111, 108, 100] then 20
  else if s.toList = [108, 97, 116, 99, 104] then 21 else if s.toList = [99, 111, 117, 110, 116] then 22 else 0
def arityN (op : Int) : Nat := if op = 13 ∨ op = 14 ∨ op = 21 ∨ op = 22 then 2 else if op = 16 then 3 else 1
def resB (s : ByteArray) : Bool := (equation_reserved.f s).getD false
def onlyOp (t : List UInt8) (op : Int) (s : ByteArray) : Int := if s.toList = t then op else 0
def sumOp (s : ByteArray) : Int := onlyOp [43] 11 s + onlyOp [45] 12 s
def cmpOp (s : ByteArray) : Int := if s.toList = [60] then 8 else if s.toList = [62] then 9 else if s.toList = [61] then 10 else 0
section
variable (ts : List Tk) (en : Int)
def chainL (opd : Nat → Int → Option Res) (op : ByteArray → Int) : Nat → E → Nat → Int → Option Res
  | 0, _, _, _ => none
  | k + 1, x, i, l =>
    if op (pk ts en i).f3 = 0 then some (.ok x i l) else
    match opd (i + 1) l with
    | none => none
    | some (.fail a) => some (.fail a)
    | some (.ok y i' l') => chainL opd op k ⟨op (pk ts en i).f3, 0, ⟨#[]⟩, [x, y]⟩ i' l'
def chainP (opd : Nat → Int → Option Res) (op : ByteArray → Int) (k : Nat) (i : Nat) (l : Int) : Option Res :=
  match opd i l with
  | none => none
  | some (.fail a) => some (.fail a)
  | some (.ok x i' l') => chainL ts en opd op k x i' l'
inductive ResL where
  | ok (xs : List E) (i : Nat) (l : Int)
  | fail (at_ : Int)
def argsP (ex : Nat → Int → Option Res) : Nat → Nat → List E → Nat → Int → Option ResL
  | 0, _, xs, i, l => some (.ok xs i l)
  | n + 1, j, xs, i, l =>
    if 0 < j ∧ (pk ts en i).f3.toList ≠ [44] then some (.fail (pk ts en i).f1) else
    match ex (if 0 < j then i + 1 else i) l with
    | none => none
    | some (.fail a) => some (.fail a)
    | some (.ok x i' l') => argsP ex n (j + 1) (xs ++ [x]) i' l'
def longN (i : Nat) (l : Int) : Int := if (pk ts en i).f2 > 500 ∧ l < 0 then (pk ts en i).f1 else l
def stepsP (op : Int) (xs : List E) (i : Nat) (l : Int) : Res :=
  if op = 19 ∨ op = 20 then
    if (pk ts en i).f3.toList ≠ [44] then .fail (pk ts en i).f1
    else if (pk ts en (i + 1)).f0 ≠ 2 then .fail (pk ts en (i + 1)).f1
    else if (pk ts en (i + 2)).f3.toList ≠ [41] then .fail (pk ts en (i + 2)).f1
    else .ok ⟨op, (pk ts en (i + 1)).f2, ⟨#[]⟩, xs⟩ (i + 3) (longN ts en (i + 1) l)
  else if (pk ts en i).f3.toList ≠ [41] then .fail (pk ts en i).f1
  else .ok ⟨op, 0, ⟨#[]⟩, xs⟩ (i + 1) l
def callP (ex : Nat → Int → Option Res) (op : Int) (i : Nat) (l : Int) : Option Res :=
  if (pk ts en i).f3.toList ≠ [40] then some (.fail (pk ts en i).f1) else
  match argsP ts en ex (arityN op) 0 [] (i + 1) l with
  | none => none
  | some (.fail a) => some (.fail a)
  | some (.ok xs i' l') => some (stepsP ts en op xs i' l')
def primP (ex : Nat → Int → Option Res) (i : Nat) (l : Int) : Option Res :=
  if (pk ts en i).f0 = 2 then some (.ok ⟨2, (pk ts en i).f2, ⟨#[]⟩, []⟩ (i + 1) l)
  else if (pk ts en i).f3.toList = [116, 114, 117, 101] then some (.ok ⟨1, 1, ⟨#[]⟩, []⟩ (i + 1) l)
  else if (pk ts en i).f3.toList = [102, 97, 108, 115, 101] then some (.ok ⟨1, 0, ⟨#[]⟩, []⟩ (i + 1) l)
  else if (pk ts en i).f3.toList = [40] then
    match ex (i + 1) l with
    | none => none
    | some (.fail a) => some (.fail a)
    | some (.ok x i' l') => if (pk ts en i').f3.toList = [41] then some (.ok x (i' + 1) l') else some (.fail (pk ts en i').f1)
  else if fnOp (pk ts en i).f3 ≠ 0 then callP ts en ex (fnOp (pk ts en i).f3) (i + 1) l
  else if (pk ts en i).f0 ≠ 1 ∨ resB (pk ts en i).f3 = true then some (.fail (pk ts en i).f1)
  else some (.ok ⟨3, 0, (pk ts en i).f3, []⟩ (i + 1) l)
def relP (opd : Nat → Int → Option Res) (i : Nat) (l : Int) : Option Res :=
  match opd i l with
  | none => none
  | some (.fail a) => some (.fail a)
  | some (.ok x i' l') =>
    if cmpOp (pk ts en i').f3 = 0 then some (.ok x i' l') else
    match opd (i' + 1) l' with
    | none => none
    | some (.fail a) => some (.fail a)
    | some (.ok y i2 l2) => some (.ok ⟨cmpOp (pk ts en i').f3, 0, ⟨#[]⟩, [x, y]⟩ i2 l2)
def notP (self rel : Nat → Int → Option Res) (i : Nat) (l : Int) : Option Res :=
  if (pk ts en i).f3.toList = [110, 111, 116] then
    match self (i + 1) l with
    | none => none
    | some (.fail a) => some (.fail a)
    | some (.ok x i' l') => some (.ok ⟨4, 0, ⟨#[]⟩, [x]⟩ i' l')
  else rel i l
def P : Nat → Lv → Nat → Int → Option Res
  | 0, _, _, _ => none
  | k + 1, .or, i, l => chainP ts en (P k .xor) (onlyOp [111, 114] 6) k i l
  | k + 1, .xor, i, l => chainP ts en (P k .and) (onlyOp [120, 111, 114] 7) k i l
  | k + 1, .and, i, l => chainP ts en (P k .not) (onlyOp [97, 110, 100] 5) k i l
  | k + 1, .not, i, l => notP ts en (P k .not) (P k .rel) i l
  | k + 1, .rel, i, l => relP ts en (P k .sum) i l
  | k + 1, .sum, i, l => chainP ts en (P k .prim) sumOp k i l
  | k + 1, .prim, i, l => primP ts en (P k .or) i l
end
end Go.Proofs.YtbbopomecanaoaaDoor.A
namespace Go.Proofs.YtbbopomecanaoaaDoor.Q
open Go.RowKit Go.Proofs.YtbbopomecanaoaaDoorW.PrintWords Go.Proofs.YtbbopomecanaoaaDoorW.PrintLast
section
variable {P : Program} {ops : Array Oper} {C : World → Prop} {Q : Act → Prop}
theorem q_value {o : Oper} {rest : List Oper} {a : Act} {v : Value} {N : Option Tmp} (hN : o.dst = N) (hw : Region.wanted o (yielded ops a.tmps) = true)
    (hy : ∀ w', C w' → (execOp a.eval o).run P w' = .ok (.value v) w') {a' : Act} (ha : a.put N v = a') (h : wpQuiet P ops C Q rest a') : wpQuiet P ops C Q (o :: rest) a := by
  subst hN
  subst ha
  refine wpQuiet_step fun K hK => ?_
  rw [if_pos hw]
  exact ⟨v, fun w' hC => by unfold Oper.quietAt; rw [hy w' hC]; exact ⟨rfl, rfl⟩, hK _ h⟩
theorem q_off {o : Oper} {rest : List Oper} {a : Act} {N : Option Tmp} (hN : o.dst = N) (hw : Region.wanted o (yielded ops a.tmps) = false)
    {a' : Act} (ha : a.put N undef = a') (h : wpQuiet P ops C Q rest a') : wpQuiet P ops C Q (o :: rest) a := by
  subst hN
  subst ha
  refine wpQuiet_step fun K hK => ?_
  rw [if_neg (by rw [hw]; simp)]
  exact hK _ h
theorem q_call {o : Oper} {rest : List Oper} {a : Act} {v : Value} {N : Option Tmp} (f : FuncId) (args : Array Value) (hN : o.dst = N) (hw : Region.wanted o (yielded ops a.tmps) = true)
    {fn : Func} {as0 : Array Operand} {ts : Array TypeId} (hf : P.funcs[f]? = some fn) (hname : (fn.name == "runtime.NumGoroutine") = false) (hb : fn.body.isSome = true)
    (hop : o.op = .call { callee := .value (.func f), args := as0, argTypes := ts }) (hargs : as0.map a.eval = args)
    (hy : ∀ w', C w' → Calls P f args w' fun e w'' => e = .returned v ∧ C w'') {a' : Act} (ha : a.put N v = a') (h : wpQuiet P ops C Q rest a') : wpQuiet P ops C Q (o :: rest) a := by
  subst hN
  subst ha
  refine wpQuiet_step fun K hK => ?_
  rw [if_pos hw]
  refine ⟨v, fun w' hC => ?_, hK _ h⟩
  unfold Oper.quietAt
  have he := enters_ hf hname hb args w'
  have hrun : (execOp a.eval o).run P w' = .ok (.enter f args) w' := by
    unfold execOp
    simp [hop, resolve, Deferred.ofValue, invoke, Act.eval, hargs, he]
  rw [hrun]
  exact ⟨rfl, hy w' hC⟩
theorem q_start {id : Nat} {Q' : Exit → Act → World → Prop} {a : Act} {w : World} {l : List Oper} (hm : P.follows .mixedOrders = true) (hB : Region.lexB .any l.toArray = true)
    (h : wpQuiet P l.toArray (fun w' => Below w.heap.size w w') (fun a' => ∀ w', Below w.heap.size w w' → Q' .normal a' w') l a) : (Code.region id l.toArray true).wp P Q' a w :=
  wp_region_quiet (C := fun w' => Below w.heap.size w w') hm hB (below_drew (Below.refl w.heap.size w)) (by simpa using h)
end
end Go.Proofs.YtbbopomecanaoaaDoor.Q
namespace Go.Proofs.YtbbopomecanaoaaDoor.G
open Go.RowKit Go.Proofs.YtbbopomecanaoaaDoorW.PrintWords
set_option linter.unusedVariables false
set_option linter.unusedSectionVars false
structure Sh (p : Prop) : Prop where
  out : p
def upd (x : Nat → Value) (i : Nat) (v : Value) : Nat → Value := fun j => if j = i then v else x j
def dst (ops : Array Oper) (i : Nat) : Option Tmp := (ops[i]?).bind (·.dst)
def deps (ops : Array Oper) (i : Nat) : List Nat := match ops[i]? with | none => [] | some o => (o.after.toList.filter (Region.binds .any)).map (·.on)
def blk : Value → Nat
  | .pointer (some a) => a.block
  | .slice (some a) _ _ => a.block
  | _ => 0
def Lt (L : Array Bool) (i : Nat) : Prop := L.getD i false = true
def closGo (ops : Array Oper) : Nat → List Nat → List Nat
  | 0, S => S
  | k + 1, S => closGo ops k (if S.contains k then deps ops k ++ S else S)
def clos (ops : Array Oper) (i : Nat) : List Nat := closGo ops i (deps ops i)
def shape (ops : Array Oper) (m : Nat) (fl : Nat → Bool) : Bool :=
  (List.range ops.size).all (fun i => (deps ops i).all (fun d => decide (d < i))) &&
  (List.range ops.size).all (fun i => decide (i < m) || ((List.range m).all (fun j => fl j || (clos ops i).contains j) && (decide (i = m) || (clos ops i).contains (i - 1)))) && decide (m ≤ ops.size)
section
variable {P : Program} {ops : Array Oper} {Q : Exit → Act → World → Prop}
theorem mem_ready {L : Array Bool} {i : Nat} (h : i ∈ Region.ready .any ops L) : i < ops.size ∧ L.getD i true = false ∧ ∀ d ∈ deps ops i, Lt L d := by
  unfold Region.ready at h
  rw [List.mem_filter, List.mem_range] at h
  obtain ⟨h1, h2⟩ := h
  simp only [Bool.and_eq_true, Bool.not_eq_true'] at h2
  refine ⟨h1, h2.1, fun d hd => ?_⟩
  have h3 := h2.2
  rw [Array.getElem?_eq_getElem h1] at h3
  simp only [Option.map_some, Option.getD_some, Array.all_eq_true_iff_forall_mem] at h3
  unfold deps at hd
  rw [Array.getElem?_eq_getElem h1] at hd
  simp only [List.mem_map, List.mem_filter] at hd
  obtain ⟨e, ⟨he, hb⟩, rfl⟩ := hd
  have := h3 e (by simpa using he)
  rw [hb] at this
  simpa [Lt] using this
theorem ready_of {L : Array Bool} {i : Nat} (h1 : i < ops.size) (h2 : L.getD i true = false) (h3 : ∀ d ∈ deps ops i, Lt L d) : i ∈ Region.ready .any ops L := by
  unfold Region.ready
  rw [List.mem_filter, List.mem_range]
  refine ⟨h1, ?_⟩
  simp only [Bool.and_eq_true, Bool.not_eq_true']
  refine ⟨h2, ?_⟩
  rw [Array.getElem?_eq_getElem h1]
  simp only [Option.map_some, Option.getD_some, Array.all_eq_true_iff_forall_mem]
  intro e he
  by_cases hb : Region.binds .any e = true
  · rw [hb]
    have := h3 e.on (by unfold deps; rw [Array.getElem?_eq_getElem h1]; simp only [List.mem_map, List.mem_filter]; exact ⟨e, ⟨by simpa using he, hb⟩, rfl⟩)
    simpa [Lt] using this
  · simp [hb]
theorem clos_go {L : Array Bool} (hc : ∀ j, Lt L j → ∀ d ∈ deps ops j, Lt L d) : ∀ (k : Nat) (S : List Nat), (∀ j ∈ S, Lt L j) → ∀ j ∈ closGo ops k S, Lt L j
  | 0, S, h => h
  | k + 1, S, h => by
    unfold closGo
    refine clos_go hc k _ ?_
    split
    · rename_i hk
      intro j hj
      rcases List.mem_append.1 hj with hj | hj
      · exact hc k (h k (by simpa using hk)) j hj
      · exact h j hj
    · exact h
theorem lt_set {L : Array Bool} {i j : Nat} (hi : i < L.size) : Lt (L.setIfInBounds i true) j ↔ j = i ∨ Lt L j := by
  unfold Lt
  simp only [Array.getD_eq_getD_getElem?, Array.getElem?_setIfInBounds]
  by_cases h : i = j
  · subst h
    simp [hi]
  · rw [if_neg h]
    simp [Ne.symm h]
variable (ops) in
def Tail (P : Program) (Q : Exit → Act → World → Prop) (m : Nat) (fl : Nat → Bool) (φ : Nat → Value → Prop) (fr : (Nat → Value) → Act) : Nat → (Nat → Value) → World → Prop
  | 0, x, w => ∀ y : Nat → Value, (∀ j, (j < m ∧ fl j = true) ∨ y j = x j) → (∀ j, j < m → φ j (y j)) → Q .normal (fr y) w
  | k + 1, x, w => ∀ y : Nat → Value, (∀ j, (j < m ∧ fl j = true) ∨ y j = x j) → (∀ j ∈ deps ops (ops.size - (k + 1)), j < m → φ j (y j)) → ∀ o, ops[ops.size - (k + 1)]? = some o →
      ∀ K : Act → World → Prop, Sh (∀ v w', Tail P Q m fl φ fr k (upd y (ops.size - (k + 1)) v) w' → K ((fr y).put o.dst v) w') →
        if Region.wanted o (yielded ops (fr y).tmps) = true then Oper.wp P o (fr y) w K Q else K ((fr y).put o.dst undef) w
variable {m : Nat} {fl nw : Nat → Bool} {φ : Nat → Value → Prop} {Φ : Nat → Value → World → Prop} {fr : (Nat → Value) → Act} {w0 : World}
theorem tail_agree : ∀ {k : Nat} {x y : Nat → Value} {w : World}, (∀ j, (j < m ∧ fl j = true) ∨ y j = x j) → Tail ops P Q m fl φ fr k x w → Tail ops P Q m fl φ fr k y w
  | 0, x, y, w, ha, h => by
    unfold Tail at h ⊢
    intro z hz
    exact h z fun j => (hz j).elim .inl fun h1 => (ha j).elim .inl fun h2 => .inr (h1.trans h2)
  | k + 1, x, y, w, ha, h => by
    unfold Tail at h ⊢
    intro z hz
    exact h z fun j => (hz j).elim .inl fun h1 => (ha j).elim .inl fun h2 => .inr (h1.trans h2)
def Core (ops : Array Oper) (m : Nat) (fl nw : Nat → Bool) (Φ : Nat → Value → World → Prop) (w0 : World) (L : Array Bool) (x : Nat → Value) (w : World) : Prop :=
  Below w0.heap.size w0 w ∧ (∀ j, m ≤ j → j < ops.size → ¬ Lt L j) ∧ (∀ j, j < m → fl j = false → Lt L j → Φ j (x j) w) ∧
  (∀ j k, j < m → k < m → j ≠ k → fl j = false → fl k = false → nw j = true → nw k = true → Lt L j → Lt L k → blk (x j) ≠ blk (x k))
structure Side (P : Program) (ops : Array Oper) (Q : Exit → Act → World → Prop) (m : Nat) (fl nw : Nat → Bool) (φ : Nat → Value → Prop) (Φ : Nat → Value → World → Prop) (fr : (Nat → Value) → Act) (w0 : World) : Prop where
  shape : shape ops m fl = true
  put : ∀ x i v, i < ops.size → (fr x).put (dst ops i) v = fr (upd x i v)
  pureOf : ∀ j v w, j < m → fl j = false → Φ j v w → φ j v
  keep : ∀ j v w w', j < m → fl j = false → Φ j v w → Below w.heap.size w w' → Φ j v w'
  low : ∀ j v w, j < m → fl j = false → nw j = true → Φ j v w → blk v < w.heap.size
  core : ∀ i o, i < m → fl i = false → ops[i]? = some o → ∀ x w, Below w0.heap.size w0 w → (∀ j ∈ deps ops i, fl j = false → Φ j (x j) w) → (∀ j ∈ deps ops i, φ j (x j)) →
    ∀ K : Act → World → Prop, Sh (∀ v w', Below w.heap.size w w' → Φ i v w' → (nw i = true → w.heap.size ≤ blk v) → K ((fr x).put o.dst v) w') →
      if Region.wanted o (yielded ops (fr x).tmps) = true then Oper.wp P o (fr x) w K Q else K ((fr x).put o.dst undef) w
  float : ∀ i o, i < m → fl i = true → ops[i]? = some o → ∀ x w, (∀ j ∈ deps ops i, φ j (x j)) →
    ∀ K : Act → World → Prop, Sh (∀ v, φ i v → K ((fr x).put o.dst v) w) →
      if Region.wanted o (yielded ops (fr x).tmps) = true then Oper.wp P o (fr x) w K Q else K ((fr x).put o.dst undef) w
  tail : ∀ x w, Below w0.heap.size w0 w → (∀ j, j < m → fl j = false → Φ j (x j) w) →
    (∀ j k, j < m → k < m → j ≠ k → fl j = false → fl k = false → nw j = true → nw k = true → blk (x j) ≠ blk (x k)) → Tail ops P Q m fl φ fr (ops.size - m) x w
theorem wpOp_of {i : Nat} {o : Oper} {K : Act → World → Prop} {a : Act} {w : World} (hi : ops[i]? = some o)
    (h : if Region.wanted o (yielded ops a.tmps) = true then Oper.wp P o a w K Q else K (a.put o.dst undef) w) : wpOp P ops Q i K a w := by
  unfold wpOp
  simp only [hi]
  split
  · rename_i hw
    rw [if_pos hw] at h
    exact .inl h
  · rename_i hw
    rw [if_neg hw] at h
    exact h
theorem main (S : Side P ops Q m fl nw φ Φ fr w0) : ∀ (fuel : Nat) (L : Array Bool) (x : Nat → Value) (w : World), L.size = ops.size → L.toList.count false ≤ fuel →
    (∀ j, Lt L j → ∀ d ∈ deps ops j, Lt L d) → (∀ j, j < m → Lt L j → φ j (x j)) →
    (Core ops m fl nw Φ w0 L x w ∨ ∃ k, k ≤ ops.size - m ∧ (∀ j, j < m → fl j = false → Lt L j) ∧ (∀ j, m ≤ j → j < ops.size → (Lt L j ↔ j < ops.size - k)) ∧ Tail ops P Q m fl φ fr k x w) →
    wpAny P .any ops Q fuel L (fr x) w := by
  have hsh := S.shape
  unfold G.shape at hsh
  simp only [Bool.and_eq_true, List.all_eq_true, List.mem_range, decide_eq_true_eq, Bool.or_eq_true] at hsh
  obtain ⟨⟨hback, htail⟩, hm⟩ := hsh
  -- all listed: the end
  have hend : ∀ (L : Array Bool) (x : Nat → Value) (w : World), (∀ j, j < ops.size → Lt L j) → (∀ j, j < m → Lt L j → φ j (x j)) →
      (Core ops m fl nw Φ w0 L x w ∨ ∃ k, k ≤ ops.size - m ∧ (∀ j, j < m → fl j = false → Lt L j) ∧ (∀ j, m ≤ j → j < ops.size → (Lt L j ↔ j < ops.size - k)) ∧ Tail ops P Q m fl φ fr k x w) → Q .normal (fr x) w := by
    intro L x w hall hφ hst
    have h0 : ∀ k, k = 0 → Tail ops P Q m fl φ fr k x w → Q .normal (fr x) w := by
      rintro k rfl h
      unfold Tail at h
      exact h x (fun j => .inr rfl) (fun j hj => hφ j hj (hall j (by omega)))
    rcases hst with ⟨hB, hT, hΦ, hN⟩ | ⟨k, hk, h1, h2, h3⟩
    · by_cases hmn : m = ops.size
      · refine h0 (ops.size - m) (by omega) (S.tail x w hB (fun j hj hf => hΦ j hj hf (hall j (by omega))) fun j k hj hk hjk hfj hfk hnj hnk => hN j k hj hk hjk hfj hfk hnj hnk (hall j (by omega)) (hall k (by omega)))
      · exact absurd (hall m (by omega)) (hT m (by omega) (by omega))
    · refine h0 k ?_ h3
      by_cases hk0 : k = 0
      · exact hk0
      · have := (h2 (ops.size - k) (by omega) (by omega)).1 (hall _ (by omega))
        omega
  -- some unlisted: some ready
  have hsome : ∀ (L : Array Bool), L.size = ops.size → Region.ready .any ops L = [] → ∀ j, j < ops.size → Lt L j := by
    intro L hL hr j
    induction j using Nat.strongRecOn with
    | _ j ih =>
      intro hj
      by_cases hl : Lt L j
      · exact hl
      · exfalso
        have : j ∈ Region.ready .any ops L := ready_of hj (by
          unfold Lt at hl
          simp only [Array.getD_eq_getD_getElem?] at hl ⊢
          rw [Array.getElem?_eq_getElem (by omega)] at hl ⊢
          simpa using hl) fun d hd => ih d (hback j hj d hd) (by have := hback j hj d hd; omega)
        rw [hr] at this
        simp at this
  intro fuel
  induction fuel with
  | zero =>
    intro L x w hL hc hcl hφ hst
    have hall : ∀ j, j < ops.size → Lt L j := by
      intro j hj
      unfold Lt
      have h1 : L.toList.count false = 0 := by omega
      rw [List.count_eq_zero] at h1
      simp only [Array.getD_eq_getD_getElem?]
      rw [Array.getElem?_eq_getElem (by omega)]
      simp only [Option.getD_some]
      have h2 : L[j]'(by omega) ∈ L.toList := by simp
      cases h3 : L[j]'(by omega) with
      | true => rfl
      | false => rw [h3] at h2; exact absurd h2 h1
    unfold wpAny
    refine ⟨?_, hend L x w hall hφ hst⟩
    refine List.eq_nil_iff_forall_not_mem.2 fun i hi => ?_
    obtain ⟨h1, h2, _⟩ := mem_ready hi
    have := hall i h1
    unfold Lt at this
    simp only [Array.getD_eq_getD_getElem?] at this h2
    rw [Array.getElem?_eq_getElem (by omega)] at this h2
    simp at this h2
    rw [this] at h2
    cases h2
  | succ fuel ih =>
    intro L x w hL hc hcl hφ hst
    unfold wpAny
    refine ⟨fun hr => hend L x w (hsome L hL hr) hφ hst, fun i hi => ?_⟩
    obtain ⟨hin, hun, hdp⟩ := mem_ready hi
    have hun' : ¬ Lt L i := by
      unfold Lt
      simp only [Array.getD_eq_getD_getElem?] at hun ⊢
      rw [Array.getElem?_eq_getElem (by omega)] at hun ⊢
      simp at hun ⊢
      exact hun
    have hsz : (L.setIfInBounds i true).size = ops.size := by simpa using hL
    have hcnt : (L.setIfInBounds i true).toList.count false ≤ fuel := by
      have h1 : L[i]'(by omega) = false := by
        simp only [Array.getD_eq_getD_getElem?] at hun
        rw [Array.getElem?_eq_getElem (by omega)] at hun
        simpa using hun
      rw [Array.toList_setIfInBounds, List.count_set (by simpa using (by omega : i < L.size))]
      have h2 : L.toList[i]'(by simpa using (by omega : i < L.size)) = false := by simpa using h1
      rw [h2, if_pos (by decide), if_neg (by decide)]
      omega
    have hcl' : ∀ j, Lt (L.setIfInBounds i true) j → ∀ d ∈ deps ops j, Lt (L.setIfInBounds i true) d := by
      intro j hj d hd
      rw [lt_set (by omega)] at hj ⊢
      rcases hj with rfl | hj
      · exact .inr (hdp d hd)
      · exact .inr (hcl j hj d hd)
    obtain ⟨o, ho⟩ : ∃ o, ops[i]? = some o := ⟨_, Array.getElem?_eq_getElem hin⟩
    have hdst : o.dst = dst ops i := by unfold dst; rw [ho]; rfl
    have hdep : ∀ j ∈ deps ops i, j < i := fun j hj => hback i hin j hj
    refine wpOp_of ho ?_
    have hup : ∀ (v : Value) (j : Nat), j ≠ i → upd x i v j = x j := fun v j hj => by unfold upd; rw [if_neg hj]
    have hui : ∀ v, upd x i v i = v := fun v => by unfold upd; rw [if_pos rfl]
    by_cases him : i < m
    · have hφ' : ∀ v, φ i v → ∀ j, j < m → Lt (L.setIfInBounds i true) j → φ j (upd x i v j) := by
        intro v hv j hj hl
        rw [lt_set (by omega)] at hl
        by_cases hji : j = i
        · subst hji; rw [hui]; exact hv
        · rw [hup v j hji]; exact hφ j hj (hl.resolve_left hji)
      cases hfl : fl i with
      | true =>
        refine S.float i o him hfl ho x w (fun j hj => hφ j (by have := hdep j hj; omega) (hdp j hj)) _ ⟨fun v hv => ?_⟩
        rw [hdst, S.put x i v hin]
        refine ih _ _ _ hsz hcnt hcl' (hφ' v hv) ?_
        rcases hst with ⟨hB, hT, hΦ, hN⟩ | ⟨k, hk, h1, h2, h3⟩
        · refine .inl ⟨hB, fun j hj hjn hl => ?_, fun j hj hf hl => ?_, fun j k hj hk hjk hfj hfk hnj hnk hlj hlk => ?_⟩
          · rw [lt_set (by omega)] at hl
            rcases hl with rfl | hl
            · omega
            · exact hT j hj hjn hl
          · have hji : j ≠ i := by rintro rfl; rw [hfl] at hf; cases hf
            rw [lt_set (by omega)] at hl
            rw [hup v j hji]
            exact hΦ j hj hf (hl.resolve_left hji)
          · have hji : j ≠ i := by rintro rfl; rw [hfl] at hfj; cases hfj
            have hki : k ≠ i := by rintro rfl; rw [hfl] at hfk; cases hfk
            rw [lt_set (by omega)] at hlj hlk
            rw [hup v j hji, hup v k hki]
            exact hN j k hj hk hjk hfj hfk hnj hnk (hlj.resolve_left hji) (hlk.resolve_left hki)
        · refine .inr ⟨k, hk, fun j hj hf => ?_, fun j hj hjn => ?_, tail_agree (fun j => ?_) h3⟩
          · rw [lt_set (by omega)]; exact .inr (h1 j hj hf)
          · rw [lt_set (by omega)]
            have hji : j ≠ i := by omega
            exact ⟨fun h => (h2 j hj hjn).1 (h.resolve_left hji), fun h => .inr ((h2 j hj hjn).2 h)⟩
          · by_cases hji : j = i
            · subst hji; exact .inl ⟨him, hfl⟩
            · exact .inr (hup v j hji)
      | false =>
        rcases hst with ⟨hB, hT, hΦ, hN⟩ | ⟨k, hk, h1, h2, h3⟩
        · refine S.core i o him hfl ho x w hB (fun j hj hf => hΦ j (by have := hdep j hj; omega) hf (hdp j hj)) (fun j hj => hφ j (by have := hdep j hj; omega) (hdp j hj)) _ ⟨fun v w' hb hv hn => ?_⟩
          rw [hdst, S.put x i v hin]
          refine ih _ _ _ hsz hcnt hcl' (hφ' v (S.pureOf i v w' him hfl hv)) (.inl ⟨below_step hB hb, fun j hj hjn hl => ?_, fun j hj hf hl => ?_, fun j k hj hk hjk hfj hfk hnj hnk hlj hlk => ?_⟩)
          · rw [lt_set (by omega)] at hl
            rcases hl with rfl | hl
            · omega
            · exact hT j hj hjn hl
          · rw [lt_set (by omega)] at hl
            by_cases hji : j = i
            · subst hji; rw [hui]; exact hv
            · rw [hup v j hji]; exact S.keep j _ w w' hj hf (hΦ j hj hf (hl.resolve_left hji)) hb
          · rw [lt_set (by omega)] at hlj hlk
            by_cases hji : j = i
            · subst hji
              have hkj : k ≠ j := fun h => hjk h.symm
              rw [hui, hup v k hkj]
              have h1 := S.low k _ w hk hfk hnk (hΦ k hk hfk (hlk.resolve_left hkj))
              have h2 := hn hnj
              omega
            · by_cases hki : k = i
              · subst hki
                rw [hui, hup v j hji]
                have h1 := S.low j _ w hj hfj hnj (hΦ j hj hfj (hlj.resolve_left hji))
                have h2 := hn hnk
                omega
              · rw [hup v j hji, hup v k hki]
                exact hN j k hj hk hjk hfj hfk hnj hnk (hlj.resolve_left hji) (hlk.resolve_left hki)
        · exact absurd (h1 i him hfl) hun'
    · -- the tail
      have hclo : ∀ j ∈ clos ops i, Lt L j := clos_go hcl i _ hdp
      have ht := (htail i hin).resolve_left him
      have hcore : ∀ j, j < m → fl j = false → Lt L j := fun j hj hf => by
        rcases ht.1 j hj with h | h
        · rw [hf] at h; cases h
        · exact hclo j (by simpa using h)
      have hprev : i ≠ m → Lt L (i - 1) := fun h => by
        rcases ht.2 with h' | h'
        · exact absurd h' h
        · exact hclo _ (by simpa using h')
      obtain ⟨k, hk, hk2, hkT, h3⟩ : ∃ k, k ≤ ops.size - m ∧ i = ops.size - k ∧ (∀ j, m ≤ j → j < ops.size → (Lt L j ↔ j < ops.size - k)) ∧ Tail ops P Q m fl φ fr k x w := by
        rcases hst with ⟨hB, hT, hΦ, hN⟩ | ⟨k, hk, h1, h2, h3⟩
        · have himm : i = m := by
            by_cases h : i = m
            · exact h
            · exact absurd (hprev h) (hT (i - 1) (by omega) (by omega))
          refine ⟨ops.size - m, Nat.le_refl _, by omega, fun j hj hjn => ⟨fun h => absurd h (hT j hj hjn), fun h => by omega⟩, S.tail x w hB (fun j hj hf => hΦ j hj hf (hcore j hj hf)) fun j k hj hk hjk hfj hfk hnj hnk => hN j k hj hk hjk hfj hfk hnj hnk (hcore j hj hfj) (hcore k hk hfk)⟩
        · refine ⟨k, hk, ?_, h2, h3⟩
          have hnl : ¬ i < ops.size - k := fun h => hun' ((h2 i (by omega) hin).2 h)
          by_cases h : i = m
          · omega
          · have := (h2 (i - 1) (by omega) (by omega)).1 (hprev h)
            omega
      obtain ⟨k, rfl⟩ : ∃ k', k = k' + 1 := ⟨k - 1, by omega⟩
      unfold Tail at h3
      rw [← hk2] at h3
      refine h3 x (fun j => .inr rfl) (fun j hj hjm => hφ j hjm (hdp j hj)) o ho _ ⟨fun v w' hT => ?_⟩
      rw [hdst, S.put x i v hin]
      refine ih _ _ _ hsz hcnt hcl' ?_ (.inr ⟨k, by omega, fun j hj hf => ?_, fun j hj hjn => ?_, hT⟩)
      · intro j hj hl
        have hji : j ≠ i := by omega
        rw [lt_set (by omega)] at hl
        rw [hup v j hji]
        exact hφ j hj (hl.resolve_left hji)
      · rw [lt_set (by omega)]; exact .inr (hcore j hj hf)
      · rw [lt_set (by omega)]
        constructor
        · rintro (rfl | h)
          · omega
          · have := (hkT j hj hjn).1 h
            omega
        · intro h
          by_cases hji : j = i
          · exact .inl hji
          · exact .inr ((hkT j hj hjn).2 (by omega))
theorem region {id : Nat} {a : Act} {w : World} (hm : P.follows .mixedOrders = true) (x : Nat → Value) (hx : fr x = a) (S : Side P ops Q m fl nw φ Φ fr w) : (Code.region id ops true).wp P Q a w := by
  subst hx
  refine wp_region_any hm ?_
  have hno : ∀ j, ¬ Lt (Array.replicate ops.size false) j := by
    intro j h
    unfold Lt at h
    simp only [Array.getD_eq_getD_getElem?, Array.getElem?_replicate] at h
    split at h <;> simp at h
  refine main S ops.size _ x _ (by simp) ?_ (fun j h => absurd h (hno j)) (fun j _ h => absurd h (hno j)) (.inl ⟨below_drew (Below.refl _ w), fun j _ _ => hno j, fun j _ _ h => absurd h (hno j), fun j k _ _ _ _ _ _ _ h => absurd h (hno j)⟩)
  simp
def putAll : List (Option Tmp) → Nat → (Nat → Value) → Act → Act
  | [], _, _, a => a
  | N :: r, k, x, a => putAll r (k + 1) x (a.put N (x k))
def apartB : List (Option Tmp) → Bool
  | [] => true
  | none :: r => apartB r
  | some d :: r => !r.contains (some d) && apartB r
theorem put_comm' {a : Act} {N : Option Tmp} {d : Tmp} {u v : Value} (h : N ≠ some d) : (a.put (some d) u).put N v = (a.put N v).put (some d) u := by
  cases N with
  | none => rfl
  | some e =>
    have he : d ≠ e := fun h' => h (by rw [h'])
    unfold Act.put
    simp only [Act.mk.injEq, and_true]
    exact Array.setIfInBounds_comm _ _ he
theorem putAll_put {d : Tmp} {v : Value} : ∀ (Ns : List (Option Tmp)) (k : Nat) (x : Nat → Value) (a : Act), Ns.contains (some d) = false → putAll Ns k x (a.put (some d) v) = (putAll Ns k x a).put (some d) v
  | [], _, _, _, _ => rfl
  | N :: r, k, x, a, h => by
    simp only [List.contains_cons, Bool.or_eq_false_iff] at h
    unfold putAll
    rw [put_comm' (by intro h'; rw [h'] at h; simp at h)]
    exact putAll_put r (k + 1) x _ h.2
theorem putAll_low : ∀ (Ns : List (Option Tmp)) (k : Nat) (x : Nat → Value) (a : Act) (i : Nat) (v : Value), i < k → putAll Ns k (upd x i v) a = putAll Ns k x a
  | [], _, _, _, _, _, _ => rfl
  | N :: r, k, x, a, i, v, h => by
    unfold putAll
    rw [show upd x i v k = x k by unfold upd; rw [if_neg (by omega)]]
    exact putAll_low r (k + 1) x _ i v (by omega)
theorem put_twice (a : Act) (N : Option Tmp) (u v : Value) : (a.put N u).put N v = a.put N v := by
  cases N with
  | none => rfl
  | some d => unfold Act.put; simp
theorem putAll_upd : ∀ (Ns : List (Option Tmp)) (k : Nat) (x : Nat → Value) (a : Act) (i : Nat) (v : Value), apartB Ns = true → (Ns[i]?).isSome = true →
    (putAll Ns k x a).put ((Ns[i]?).bind id) v = putAll Ns k (upd x (k + i) v) a
  | [], _, _, _, i, _, _, h => by simp at h
  | N :: r, k, x, a, 0, v, hA, _ => by
    simp only [List.getElem?_cons_zero, Option.bind_some, id]
    unfold putAll
    rw [putAll_low r (k + 1) x _ (k + 0) v (by omega), show upd x (k + 0) v k = v by unfold upd; rw [if_pos (by omega)]]
    cases N with
    | none =>
      rfl
    | some d =>
      unfold apartB at hA
      simp only [Bool.and_eq_true, Bool.not_eq_true'] at hA
      rw [← putAll_put r (k + 1) x _ hA.1, put_twice]
  | N :: r, k, x, a, i + 1, v, hA, hi => by
    simp only [List.getElem?_cons_succ] at hi ⊢
    unfold putAll
    rw [show upd x (k + (i + 1)) v k = x k by unfold upd; rw [if_neg (by omega)], show k + (i + 1) = k + 1 + i by omega]
    refine putAll_upd r (k + 1) x _ i v ?_ hi
    cases N with
    | none => exact hA
    | some d => unfold apartB at hA; simp only [Bool.and_eq_true] at hA; exact hA.2
def old (a : Act) (Ns : List (Option Tmp)) (i : Nat) : Value := match (Ns[i]?).bind id with | some d => a.tmps.getD d undef | none => undef
theorem put_same (a : Act) (d : Tmp) : a.put (some d) (a.tmps.getD d undef) = a := by
  unfold Act.put
  cases a with
  | mk t ds =>
    simp only [Act.mk.injEq, and_true]
    refine Array.ext_getElem? fun j => ?_
    simp only [Array.getElem?_setIfInBounds, Array.getD_eq_getD_getElem?]
    split
    · rename_i h
      subst h
      split
      · rename_i h2
        rw [Array.getElem?_eq_getElem h2]
        rfl
      · rename_i h2
        rw [Array.getElem?_eq_none (by omega)]
    · rfl
theorem putAll_old : ∀ (Ns : List (Option Tmp)) (k : Nat) (x : Nat → Value) (a : Act), (∀ i, i < Ns.length → x (k + i) = old a Ns i) → putAll Ns k x a = a
  | [], _, _, _, _ => rfl
  | N :: r, k, x, a, h => by
    unfold putAll
    have h0 := h 0 (by simp)
    have hp : a.put N (x k) = a := by
      rw [show x k = old a (N :: r) 0 from h0]
      cases N with
      | none => rfl
      | some d => exact put_same a d
    rw [hp]
    refine putAll_old r (k + 1) x a fun i hi => ?_
    have := h (i + 1) (by simpa using hi)
    rw [show k + 1 + i = k + (i + 1) by omega, this]
    unfold old
    rw [List.getElem?_cons_succ]
abbrev Facts := List (Value → World → Prop)
@[reducible] def fact (F : Facts) (i : Nat) : Value → World → Prop := F.getD i fun _ _ => True
def AllB (p : Nat → Prop) (k : Nat) : Prop := ∀ i, i < k → p i
theorem allB_zero {p : Nat → Prop} : AllB p 0 := fun i hi => absurd hi (Nat.not_lt_zero i)
theorem allB_succ {p : Nat → Prop} {k : Nat} (h : AllB p k) (hk : p k) : AllB p (k + 1) := fun i hi => by
  by_cases h' : i = k
  · exact h' ▸ hk
  · exact h i (by omega)
def Stays (f : Value → World → Prop) : Prop := ∀ v w w', f v w → Below w.heap.size w w' → f v w'
@[reducible] def Is (u v : Value) (_ : World) : Prop := v = u
theorem stays_eq (u : Value) : Stays (Is u) := fun v w w' h _ => h
def CoreObl (P : Program) (ops : Array Oper) (Q : Exit → Act → World → Prop) (nw : Nat → Bool) (F : Facts) (fr : (Nat → Value) → Act) (w0 : World) (i : Nat) : Prop :=
  ∀ o, ops[i]? = some o → ∀ x w, Below w0.heap.size w0 w → (∀ j ∈ deps ops i, fact F j (x j) w) →
    ∀ K : Act → World → Prop, Sh (∀ v w', Below w.heap.size w w' → fact F i v w' → (nw i = true → w.heap.size ≤ blk v) → K ((fr x).put o.dst v) w') →
      if Region.wanted o (yielded ops (fr x).tmps) = true then Oper.wp P o (fr x) w K Q else K ((fr x).put o.dst undef) w
theorem core_obl {nw : Nat → Bool} {F : Facts} {fr : (Nat → Value) → Act} {w0 : World} {i : Nat} {o : Oper} {N : Option Tmp} (hi : ops[i]? = some o) (hN : o.dst = N)
    (h : ∀ x a, fr x = a → ∀ w, Below w0.heap.size w0 w → (∀ j, (deps ops i).contains j = true → fact F j (x j) w) →
      ∀ K : Act → World → Prop, Sh (∀ v w', Below w.heap.size w w' → fact F i v w' → (nw i = true → w.heap.size ≤ blk v) → K (a.put N v) w') →
        if Region.wanted o (yielded ops a.tmps) = true then Oper.wp P o a w K Q else K (a.put N undef) w) : CoreObl P ops Q nw F fr w0 i := by
  intro o' ho' x w hB hf K hK
  obtain rfl : o = o' := Option.some.inj (hi.symm.trans ho')
  subst hN
  exact h x _ rfl w hB (fun j hj => hf j (by simpa using hj)) K hK
theorem tail_zero {fr : (Nat → Value) → Act} {x : Nat → Value} {w : World} (h : ∀ a, fr x = a → Q .normal a w) : Tail ops P Q m (fun _ => false) (fun _ _ => True) fr 0 x w := by
  unfold Tail
  intro y hy _
  obtain rfl : y = x := funext fun j => (hy j).resolve_left fun h => by cases h.2
  exact h _ rfl
theorem tail_succ {fr : (Nat → Value) → Act} {x : Nat → Value} {w : World} {k i : Nat} {o : Oper} {N : Option Tmp} (hn : ops.size - (k + 1) = i) (hi : ops[i]? = some o) (hN : o.dst = N)
    (h : ∀ a, fr x = a → ∀ K : Act → World → Prop, Sh (∀ v w', Tail ops P Q m (fun _ => false) (fun _ _ => True) fr k (upd x i v) w' → K (a.put N v) w') →
      if Region.wanted o (yielded ops a.tmps) = true then Oper.wp P o a w K Q else K (a.put N undef) w) : Tail ops P Q m (fun _ => false) (fun _ _ => True) fr (k + 1) x w := by
  subst hn
  subst hN
  unfold Tail
  intro y hy _ o' ho' K hK
  obtain rfl : o = o' := Option.some.inj (hi.symm.trans ho')
  obtain rfl : y = x := funext fun j => (hy j).resolve_left fun h => by cases h.2
  exact h _ rfl K hK
def AllF : Facts → Prop
  | [] => True
  | f :: r => Stays f ∧ AllF r
theorem allF_mem : ∀ {F : Facts}, AllF F → ∀ f ∈ F, Stays f
  | f :: r, h, g, hg => by
    rcases List.mem_cons.1 hg with rfl | hg
    · exact h.1
    · exact allF_mem h.2 g hg
def AllN (F : Facts) : List Nat → Prop
  | [] => True
  | j :: r => (∀ v w', fact F j v w' → blk v < w'.heap.size) ∧ AllN F r
theorem allN_mem {F : Facts} : ∀ {ns : List Nat}, AllN F ns → ∀ j ∈ ns, ∀ v w', fact F j v w' → blk v < w'.heap.size
  | i :: r, h, j, hj => by
    rcases List.mem_cons.1 hj with rfl | hj
    · exact h.1
    · exact allN_mem h.2 j hj
theorem plain {id n t : Nat} {a : Act} {w : World} (Ns : List (Option Tmp)) (F : Facts) (ns : List Nat) (hm : P.follows .mixedOrders = true) (hn : ops.size = n) (hNs : (List.range n).map (dst ops) = Ns)
    (hA : (apartB Ns && G.shape ops m (fun _ => false)) = true) (ht : n - m = t) (hc : AllB (CoreObl P ops Q (fun j => ns.contains j) F (fun x => putAll Ns 0 x a) w) m)
    (hs : AllF F) (hl : AllN F ns)
    (hT : ∀ x w', Below w.heap.size w w' → (∀ j, j < m → fact F j (x j) w') → (∀ j k, j < m → k < m → j ≠ k → ns.contains j = true → ns.contains k = true → blk (x j) ≠ blk (x k)) →
      Tail ops P Q m (fun _ => false) (fun _ _ => True) (fun x => putAll Ns 0 x a) t x w') : (Code.region id ops true).wp P Q a w := by
  simp only [Bool.and_eq_true] at hA
  subst hn
  subst ht
  have hlen : Ns.length = ops.size := by rw [← hNs]; simp
  have hNi : ∀ i, i < ops.size → Ns[i]? = some (dst ops i) := fun i hi => by rw [← hNs]; simp [hi]
  refine region (m := m) (fl := fun _ => false) (nw := fun j => ns.contains j) (φ := fun _ _ => True) (Φ := fact F) (fr := fun x => putAll Ns 0 x a) hm (old a Ns) (putAll_old Ns 0 _ a fun i _ => by rw [Nat.zero_add]) ⟨hA.2, ?_, fun _ _ _ _ _ _ => trivial, ?_, fun j v w' _ _ hn hf => allN_mem hl j (by simpa using hn) v w' hf, ?_, fun i o _ h => (by cases h), ?_⟩
  · intro x i v hi
    have := putAll_upd Ns 0 x a i v hA.1 (by rw [hNi i hi]; rfl)
    rw [hNi i hi, Nat.zero_add] at this
    exact this
  · intro j v w1 w2 _ _ hf hb
    unfold fact at hf ⊢
    rw [List.getD_eq_getElem?_getD] at hf ⊢
    cases hj : F[j]? with
    | none => trivial
    | some f =>
      rw [hj] at hf
      exact allF_mem hs f (List.mem_of_getElem? hj) v w1 w2 hf hb
  · intro i o hi _ ho x w' hB hf _ K hK
    exact hc i hi o ho x w' hB (fun j hj => hf j hj rfl) K hK
  · intro x w' hB hf hd
    exact hT x w' hB (fun j hj => hf j hj rfl) (fun j k hj hk hjk h1 h2 => hd j k hj hk hjk rfl rfl h1 h2)
end
end Go.Proofs.YtbbopomecanaoaaDoor.G
namespace Go.Proofs.YtbbopomecanaoaaDoor.G
open Go.RowKit Go.Proofs.YtbbopomecanaoaaDoorW.PrintWords
set_option linter.unusedVariables false
set_option linter.unusedSectionVars false
section
variable {P : Program} {ops : Array Oper} {Q : Exit → Act → World → Prop}
variable {m : Nat} {fl nw : Nat → Bool} {φ : Nat → Value → Prop} {Φ : Nat → Value → World → Prop} {fr : (Nat → Value) → Act} {w0 : World}
abbrev Pures := List (Value → Prop)
@[reducible] def pfact (U : Pures) (i : Nat) : Value → Prop := U.getD i fun _ => True
def AllP : Facts → Pures → Prop
  | [], _ => True
  | _, [] => True
  | f :: r, g :: s => (∀ v w, f v w → g v) ∧ AllP r s
theorem allP_at : ∀ {F : Facts} {U : Pures}, AllP F U → F.length = U.length → ∀ j v w, fact F j v w → pfact U j v
  | [], [], _, _, j, v, w, _ => by unfold pfact; simp
  | f :: r, g :: s, h, hl, 0, v, w, hf => by
    simp only [fact, pfact, List.getD_cons_zero] at hf ⊢
    exact h.1 v w hf
  | f :: r, g :: s, h, hl, j + 1, v, w, hf => by
    have := allP_at h.2 (by simpa using hl) j v w (by simpa [fact] using hf)
    simpa [pfact] using this
def FloatObl (P : Program) (ops : Array Oper) (Q : Exit → Act → World → Prop) (U : Pures) (fr : (Nat → Value) → Act) (i : Nat) : Prop :=
  ∀ o, ops[i]? = some o → ∀ x w, (∀ j ∈ deps ops i, pfact U j (x j)) →
    ∀ K : Act → World → Prop, Sh (∀ v, pfact U i v → K ((fr x).put o.dst v) w) →
      if Region.wanted o (yielded ops (fr x).tmps) = true then Oper.wp P o (fr x) w K Q else K ((fr x).put o.dst undef) w
def AllFl (p : Nat → Prop) : List Nat → Prop
  | [] => True
  | j :: r => p j ∧ AllFl p r
theorem allFl_mem {p : Nat → Prop} : ∀ {l : List Nat}, AllFl p l → ∀ j ∈ l, p j
  | i :: r, h, j, hj => by
    rcases List.mem_cons.1 hj with rfl | hj
    · exact h.1
    · exact allFl_mem h.2 j hj
theorem float {id n t : Nat} {a : Act} {w : World} (Ns : List (Option Tmp)) (F : Facts) (U : Pures) (ns fs : List Nat) (hm : P.follows .mixedOrders = true) (hn : ops.size = n) (hNs : (List.range n).map (dst ops) = Ns)
    (hA : (apartB Ns && G.shape ops m (fun j => fs.contains j) && F.length == U.length) = true) (ht : n - m = t) (hc : AllB (fun i => fs.contains i = false → CoreObl P ops Q (fun j => ns.contains j) F (fun x => putAll Ns 0 x a) w i) m)
    (hfl : AllFl (FloatObl P ops Q U (fun x => putAll Ns 0 x a)) fs) (hs : AllF F) (hl : AllN F ns) (hp : AllP F U)
    (hT : ∀ x w', Below w.heap.size w w' → (∀ j, j < m → fs.contains j = false → fact F j (x j) w') → (∀ j k, j < m → k < m → j ≠ k → fs.contains j = false → fs.contains k = false → ns.contains j = true → ns.contains k = true → blk (x j) ≠ blk (x k)) →
      Tail ops P Q m (fun j => fs.contains j) (pfact U) (fun x => putAll Ns 0 x a) t x w')
    (hdep : ((List.range m).all fun i => fs.contains i || (deps ops i).all fun j => !fs.contains j) = true) : (Code.region id ops true).wp P Q a w := by
  simp only [Bool.and_eq_true, beq_iff_eq] at hA
  subst hn
  subst ht
  have hNi : ∀ i, i < ops.size → Ns[i]? = some (dst ops i) := fun i hi => by rw [← hNs]; simp [hi]
  refine region (m := m) (fl := fun j => fs.contains j) (nw := fun j => ns.contains j) (φ := pfact U) (Φ := fact F) (fr := fun x => putAll Ns 0 x a) hm (old a Ns) (putAll_old Ns 0 _ a fun i _ => by rw [Nat.zero_add]) ⟨hA.1.2, ?_, fun j v w' _ _ h => allP_at hp hA.2 j v w' h, ?_, fun j v w' _ _ hn hf => allN_mem hl j (by simpa using hn) v w' hf, ?_, ?_, ?_⟩
  · intro x i v hi
    have := putAll_upd Ns 0 x a i v hA.1.1 (by rw [hNi i hi]; rfl)
    rw [hNi i hi, Nat.zero_add] at this
    exact this
  · intro j v w1 w2 _ _ hf hb
    unfold fact at hf ⊢
    rw [List.getD_eq_getElem?_getD] at hf ⊢
    cases hj : F[j]? with
    | none => trivial
    | some f =>
      rw [hj] at hf
      exact allF_mem hs f (List.mem_of_getElem? hj) v w1 w2 hf hb
  · intro i o hi hfi ho x w' hB hf _ K hK
    refine hc i hi hfi o ho x w' hB (fun j hj => hf j hj ?_) K hK
    have := List.all_eq_true.1 hdep i (by simpa using hi)
    rw [hfi, Bool.false_or] at this
    simpa using List.all_eq_true.1 this j hj
  · intro i o hi hfi ho x w' hf K hK
    exact allFl_mem hfl i (by simpa using hfi) o ho x w' hf K hK
  · intro x w' hB hf hd
    exact hT x w' hB hf hd
end
end Go.Proofs.YtbbopomecanaoaaDoor.G
namespace Go.Proofs.YtbbopomecanaoaaDoor.GK
open Go.RowKit Go.Proofs.YtbbopomecanaoaaDoorW.PrintWords Go.Proofs.YtbbopomecanaoaaDoor.G
set_option linter.unusedVariables false
set_option linter.unusedSectionVars false
section
variable {P : Program} {ops : Array Oper} {Q : Exit → Act → World → Prop}
variable {m s : Nat} {row : Option Nat} {R : World → Prop} {nw : Nat → Bool} {Φ : Nat → Value → World → Prop} {fr : (Nat → Value) → Act} {w0 : World}
def Inv (row : Option Nat) (R : World → Prop) (w0 : World) : Bool → World → Prop
  | false, w => Below w0.heap.size w0 w
  | true, w => w0.grownBy w row ∧ R w
theorem Inv.grown {b : Bool} {w : World} (h : Inv row R w0 b w) : w0.grownBy w row := by
  cases b with
  | false => exact grown_of_below h row
  | true => exact h.1
theorem Inv.step {b : Bool} {w w' : World} (hR : ∀ w w', R w → Below w.heap.size w w' → R w') (h : Inv row R w0 b w) (hb : Below w.heap.size w w') : Inv row R w0 b w' := by
  cases b with
  | false => exact below_step h hb
  | true => exact ⟨World.grownBy.trans h.1 (grown_of_below hb row), hR _ _ h.2 hb⟩
def CoreK (ops : Array Oper) (m s : Nat) (row : Option Nat) (R : World → Prop) (Φ : Nat → Value → World → Prop) (w0 : World) (L : Array Bool) (x : Nat → Value) (w : World) : Prop :=
  Inv row R w0 (L.getD s false) w ∧ (∀ j, m ≤ j → j < ops.size → ¬ Lt L j) ∧ (∀ j, j < m → Lt L j → Φ j (x j) w)
structure SideK (P : Program) (ops : Array Oper) (Q : Exit → Act → World → Prop) (m s : Nat) (row : Option Nat) (R : World → Prop) (Φ : Nat → Value → World → Prop) (fr : (Nat → Value) → Act) (w0 : World) : Prop where
  shape : G.shape ops m (fun _ => false) = true
  sm : s < m
  put : ∀ x i v, i < ops.size → (fr x).put (dst ops i) v = fr (upd x i v)
  stays : ∀ w w', R w → Below w.heap.size w w' → R w'
  keep : ∀ j v w w', j < m → Φ j v w → Below w.heap.size w w' → Φ j v w'
  keepS : ∀ j v w w', j < m → j ≠ s → (clos ops j).contains s = false → Φ j v w → w.grownBy w' row → Φ j v w'
  core : ∀ i o, i < m → i ≠ s → ops[i]? = some o → ∀ x w, w0.grownBy w row → (∀ j ∈ deps ops i, Φ j (x j) w) →
    ∀ K : Act → World → Prop, Sh (∀ v w', Below w.heap.size w w' → Φ i v w' → K ((fr x).put o.dst v) w') →
      if Region.wanted o (yielded ops (fr x).tmps) = true then Oper.wp P o (fr x) w K Q else K ((fr x).put o.dst undef) w
  special : ∀ o, ops[s]? = some o → ∀ x w, Below w0.heap.size w0 w → (∀ j ∈ deps ops s, Φ j (x j) w) →
    ∀ K : Act → World → Prop, Sh (∀ v w', w.grownBy w' row → R w' → Φ s v w' → K ((fr x).put o.dst v) w') →
      if Region.wanted o (yielded ops (fr x).tmps) = true then Oper.wp P o (fr x) w K Q else K ((fr x).put o.dst undef) w
  tail : ∀ x w, w0.grownBy w row → R w → (∀ j, j < m → Φ j (x j) w) → Tail ops P Q m (fun _ => false) (fun _ _ => True) fr (ops.size - m) x w
theorem mainK (S : SideK P ops Q m s row R Φ fr w0) : ∀ (fuel : Nat) (L : Array Bool) (x : Nat → Value) (w : World), L.size = ops.size → L.toList.count false ≤ fuel →
    (∀ j, Lt L j → ∀ d ∈ deps ops j, Lt L d) →     (CoreK ops m s row R Φ w0 L x w ∨ ∃ k, k ≤ ops.size - m ∧ (∀ j, j < m → Lt L j) ∧ (∀ j, m ≤ j → j < ops.size → (Lt L j ↔ j < ops.size - k)) ∧ Tail ops P Q m (fun _ => false) (fun _ _ => True) fr k x w) →
    wpAny P .any ops Q fuel L (fr x) w := by
  have hsh := S.shape
  unfold G.shape at hsh
  simp only [Bool.and_eq_true, List.all_eq_true, List.mem_range, decide_eq_true_eq, Bool.or_eq_true] at hsh
  obtain ⟨⟨hback, htail⟩, hm⟩ := hsh
  -- all listed: the end
  have hend : ∀ (L : Array Bool) (x : Nat → Value) (w : World), (∀ j, j < ops.size → Lt L j) →       (CoreK ops m s row R Φ w0 L x w ∨ ∃ k, k ≤ ops.size - m ∧ (∀ j, j < m → Lt L j) ∧ (∀ j, m ≤ j → j < ops.size → (Lt L j ↔ j < ops.size - k)) ∧ Tail ops P Q m (fun _ => false) (fun _ _ => True) fr k x w) → Q .normal (fr x) w := by
    intro L x w hall hst
    have h0 : ∀ k, k = 0 → Tail ops P Q m (fun _ => false) (fun _ _ => True) fr k x w → Q .normal (fr x) w := by
      rintro k rfl h
      unfold Tail at h
      exact h x (fun j => .inr rfl) (fun j hj => trivial)
    rcases hst with ⟨hB, hT, hΦ⟩ | ⟨k, hk, h1, h2, h3⟩
    · by_cases hmn : m = ops.size
      · have hs : L.getD s false = true := hall s (by have := S.sm; omega)
        rw [hs] at hB
        exact h0 (ops.size - m) (by omega) (S.tail x w hB.1 hB.2 (fun j hj => hΦ j hj (hall j (by omega))))
      · exact absurd (hall m (by omega)) (hT m (by omega) (by omega))
    · refine h0 k ?_ h3
      by_cases hk0 : k = 0
      · exact hk0
      · have := (h2 (ops.size - k) (by omega) (by omega)).1 (hall _ (by omega))
        omega
  -- some unlisted: some ready
  have hsome : ∀ (L : Array Bool), L.size = ops.size → Region.ready .any ops L = [] → ∀ j, j < ops.size → Lt L j := by
    intro L hL hr j
    induction j using Nat.strongRecOn with
    | _ j ih =>
      intro hj
      by_cases hl : Lt L j
      · exact hl
      · exfalso
        have : j ∈ Region.ready .any ops L := ready_of hj (by
          unfold Lt at hl
          simp only [Array.getD_eq_getD_getElem?] at hl ⊢
          rw [Array.getElem?_eq_getElem (by omega)] at hl ⊢
          simpa using hl) fun d hd => ih d (hback j hj d hd) (by have := hback j hj d hd; omega)
        rw [hr] at this
        simp at this
  intro fuel
  induction fuel with
  | zero =>
    intro L x w hL hc hcl hst
    have hall : ∀ j, j < ops.size → Lt L j := by
      intro j hj
      unfold Lt
      have h1 : L.toList.count false = 0 := by omega
      rw [List.count_eq_zero] at h1
      simp only [Array.getD_eq_getD_getElem?]
      rw [Array.getElem?_eq_getElem (by omega)]
      simp only [Option.getD_some]
      have h2 : L[j]'(by omega) ∈ L.toList := by simp
      cases h3 : L[j]'(by omega) with
      | true => rfl
      | false => rw [h3] at h2; exact absurd h2 h1
    unfold wpAny
    refine ⟨?_, hend L x w hall hst⟩
    refine List.eq_nil_iff_forall_not_mem.2 fun i hi => ?_
    obtain ⟨h1, h2, _⟩ := G.mem_ready hi
    have := hall i h1
    unfold Lt at this
    simp only [Array.getD_eq_getD_getElem?] at this h2
    rw [Array.getElem?_eq_getElem (by omega)] at this h2
    simp at this h2
    rw [this] at h2
    cases h2
  | succ fuel ih =>
    intro L x w hL hc hcl hst
    unfold wpAny
    refine ⟨fun hr => hend L x w (hsome L hL hr) hst, fun i hi => ?_⟩
    obtain ⟨hin, hun, hdp⟩ := G.mem_ready hi
    have hun' : ¬ Lt L i := by
      unfold Lt
      simp only [Array.getD_eq_getD_getElem?] at hun ⊢
      rw [Array.getElem?_eq_getElem (by omega)] at hun ⊢
      simp at hun ⊢
      exact hun
    have hsz : (L.setIfInBounds i true).size = ops.size := by simpa using hL
    have hcnt : (L.setIfInBounds i true).toList.count false ≤ fuel := by
      have h1 : L[i]'(by omega) = false := by
        simp only [Array.getD_eq_getD_getElem?] at hun
        rw [Array.getElem?_eq_getElem (by omega)] at hun
        simpa using hun
      rw [Array.toList_setIfInBounds, List.count_set (by simpa using (by omega : i < L.size))]
      have h2 : L.toList[i]'(by simpa using (by omega : i < L.size)) = false := by simpa using h1
      rw [h2, if_pos (by decide), if_neg (by decide)]
      omega
    have hcl' : ∀ j, Lt (L.setIfInBounds i true) j → ∀ d ∈ deps ops j, Lt (L.setIfInBounds i true) d := by
      intro j hj d hd
      rw [lt_set (by omega)] at hj ⊢
      rcases hj with rfl | hj
      · exact .inr (hdp d hd)
      · exact .inr (hcl j hj d hd)
    obtain ⟨o, ho⟩ : ∃ o, ops[i]? = some o := ⟨_, Array.getElem?_eq_getElem hin⟩
    have hdst : o.dst = dst ops i := by unfold dst; rw [ho]; rfl
    have hdep : ∀ j ∈ deps ops i, j < i := fun j hj => hback i hin j hj
    refine wpOp_of ho ?_
    have hup : ∀ (v : Value) (j : Nat), j ≠ i → upd x i v j = x j := fun v j hj => by unfold upd; rw [if_neg hj]
    have hui : ∀ v, upd x i v i = v := fun v => by unfold upd; rw [if_pos rfl]
    by_cases him : i < m
    · rcases hst with ⟨hB, hT, hΦ⟩ | ⟨k, hk, h1, h2, h3⟩
      · have hTl : ∀ j, m ≤ j → j < ops.size → ¬ Lt (L.setIfInBounds i true) j := fun j hj hjn hl => by
          rw [lt_set (by omega)] at hl
          rcases hl with rfl | hl
          · omega
          · exact hT j hj hjn hl
        by_cases his : i = s
        · subst his
          have hs : L.getD i false = false := by
            cases h : L.getD i false
            · rfl
            · exact absurd h hun'
          rw [hs] at hB
          refine S.special o ho x w hB (fun j hj => hΦ j (by have := hdep j hj; omega) (hdp j hj)) _ ⟨fun v w' hb hR hv => ?_⟩
          rw [hdst, S.put x i v hin]
          refine ih _ _ _ hsz hcnt hcl' (.inl ⟨?_, hTl, fun j hj hl => ?_⟩)
          · rw [show (L.setIfInBounds i true).getD i false = true from (lt_set (by omega)).2 (.inl rfl)]
            exact ⟨World.grownBy.trans (grown_of_below hB row) hb, hR⟩
          · rw [lt_set (by omega)] at hl
            by_cases hji : j = i
            · subst hji; rw [hui]; exact hv
            · rw [hup v j hji]
              refine S.keepS j _ w w' hj hji ?_ (hΦ j hj (hl.resolve_left hji)) hb
              cases hc : (clos ops j).contains i with
              | false => rfl
              | true => exact absurd (clos_go hcl j _ (hcl j (hl.resolve_left hji)) i (by simpa [clos] using hc)) hun'
        · refine S.core i o him his ho x w hB.grown (fun j hj => hΦ j (by have := hdep j hj; omega) (hdp j hj)) _ ⟨fun v w' hb hv => ?_⟩
          rw [hdst, S.put x i v hin]
          refine ih _ _ _ hsz hcnt hcl' (.inl ⟨?_, hTl, fun j hj hl => ?_⟩)
          · have e : (L.setIfInBounds i true).getD s false = L.getD s false := by
              simp only [Array.getD_eq_getD_getElem?, Array.getElem?_setIfInBounds, if_neg his]
            rw [e]
            exact hB.step S.stays hb
          · rw [lt_set (by omega)] at hl
            by_cases hji : j = i
            · subst hji; rw [hui]; exact hv
            · rw [hup v j hji]; exact S.keep j _ w w' hj (hΦ j hj (hl.resolve_left hji)) hb
      · exact absurd (h1 i him) hun'
    · -- the tail
      have hclo : ∀ j ∈ clos ops i, Lt L j := clos_go hcl i _ hdp
      have ht := (htail i hin).resolve_left him
      have hcore : ∀ j, j < m → Lt L j := fun j hj => by
        rcases ht.1 j hj with h | h
        · cases h
        · exact hclo j (by simpa using h)
      have hprev : i ≠ m → Lt L (i - 1) := fun h => by
        rcases ht.2 with h' | h'
        · exact absurd h' h
        · exact hclo _ (by simpa using h')
      obtain ⟨k, hk, hk2, hkT, h3⟩ : ∃ k, k ≤ ops.size - m ∧ i = ops.size - k ∧ (∀ j, m ≤ j → j < ops.size → (Lt L j ↔ j < ops.size - k)) ∧ Tail ops P Q m (fun _ => false) (fun _ _ => True) fr k x w := by
        rcases hst with ⟨hB, hT, hΦ⟩ | ⟨k, hk, h1, h2, h3⟩
        · have himm : i = m := by
            by_cases h : i = m
            · exact h
            · exact absurd (hprev h) (hT (i - 1) (by omega) (by omega))
          refine ⟨ops.size - m, Nat.le_refl _, by omega, fun j hj hjn => ⟨fun h => absurd h (hT j hj hjn), fun h => by omega⟩, S.tail x w (by have hs : L.getD s false = true := hcore s S.sm; rw [hs] at hB; exact hB.1) (by have hs : L.getD s false = true := hcore s S.sm; rw [hs] at hB; exact hB.2) (fun j hj => hΦ j hj (hcore j hj))⟩
        · refine ⟨k, hk, ?_, h2, h3⟩
          have hnl : ¬ i < ops.size - k := fun h => hun' ((h2 i (by omega) hin).2 h)
          by_cases h : i = m
          · omega
          · have := (h2 (i - 1) (by omega) (by omega)).1 (hprev h)
            omega
      obtain ⟨k, rfl⟩ : ∃ k', k = k' + 1 := ⟨k - 1, by omega⟩
      unfold Tail at h3
      rw [← hk2] at h3
      refine h3 x (fun j => .inr rfl) (fun j hj hjm => trivial) o ho _ ⟨fun v w' hT => ?_⟩
      rw [hdst, S.put x i v hin]
      refine ih _ _ _ hsz hcnt hcl' (.inr ⟨k, by omega, fun j hj => ?_, fun j hj hjn => ?_, hT⟩)
      · rw [lt_set (by omega)]; exact .inr (hcore j hj)
      · rw [lt_set (by omega)]
        constructor
        · rintro (rfl | h)
          · omega
          · have := (hkT j hj hjn).1 h
            omega
        · intro h
          by_cases hji : j = i
          · exact .inl hji
          · exact .inr ((hkT j hj hjn).2 (by omega))
theorem regionK {id : Nat} {a : Act} {w : World} (hm : P.follows .mixedOrders = true) (x : Nat → Value) (hx : fr x = a) (S : SideK P ops Q m s row R Φ fr w) : (Code.region id ops true).wp P Q a w := by
  subst hx
  refine wp_region_any hm ?_
  have hno : ∀ j, ¬ Lt (Array.replicate ops.size false) j := by
    intro j h
    unfold Lt at h
    simp only [Array.getD_eq_getD_getElem?, Array.getElem?_replicate] at h
    split at h <;> simp at h
  have hs : (Array.replicate ops.size false).getD s false = false := by
    cases h : (Array.replicate ops.size false).getD s false
    · rfl
    · exact absurd h (hno s)
  refine mainK S ops.size _ x _ (by simp) ?_ (fun j h => absurd h (hno j)) (.inl ⟨by rw [hs]; exact below_drew (Below.refl _ w), fun j _ _ => hno j, fun j _ h => absurd h (hno j)⟩)
  simp
def CoreOblK (P : Program) (ops : Array Oper) (Q : Exit → Act → World → Prop) (row : Option Nat) (F : Facts) (fr : (Nat → Value) → Act) (w0 : World) (i : Nat) : Prop :=
  ∀ o, ops[i]? = some o → ∀ x w, w0.grownBy w row → (∀ j ∈ deps ops i, fact F j (x j) w) →
    ∀ K : Act → World → Prop, Sh (∀ v w', Below w.heap.size w w' → fact F i v w' → K ((fr x).put o.dst v) w') →
      if Region.wanted o (yielded ops (fr x).tmps) = true then Oper.wp P o (fr x) w K Q else K ((fr x).put o.dst undef) w
def SpecOblK (P : Program) (ops : Array Oper) (Q : Exit → Act → World → Prop) (row : Option Nat) (R : World → Prop) (F : Facts) (fr : (Nat → Value) → Act) (w0 : World) (i : Nat) : Prop :=
  ∀ o, ops[i]? = some o → ∀ x w, Below w0.heap.size w0 w → (∀ j ∈ deps ops i, fact F j (x j) w) →
    ∀ K : Act → World → Prop, Sh (∀ v w', w.grownBy w' row → R w' → fact F i v w' → K ((fr x).put o.dst v) w') →
      if Region.wanted o (yielded ops (fr x).tmps) = true then Oper.wp P o (fr x) w K Q else K ((fr x).put o.dst undef) w
theorem core_oblK {row : Option Nat} {F : Facts} {fr : (Nat → Value) → Act} {w0 : World} {i : Nat} {o : Oper} {N : Option Tmp} (hi : ops[i]? = some o) (hN : o.dst = N)
    (h : ∀ x a, fr x = a → ∀ w, w0.grownBy w row → (∀ j, (deps ops i).contains j = true → fact F j (x j) w) →
      ∀ K : Act → World → Prop, Sh (∀ v w', Below w.heap.size w w' → fact F i v w' → K (a.put N v) w') →
        if Region.wanted o (yielded ops a.tmps) = true then Oper.wp P o a w K Q else K (a.put N undef) w) : CoreOblK P ops Q row F fr w0 i := by
  intro o' ho' x w hB hf K hK
  obtain rfl : o = o' := Option.some.inj (hi.symm.trans ho')
  subst hN
  exact h x _ rfl w hB (fun j hj => hf j (by simpa using hj)) K hK
theorem spec_oblK {row : Option Nat} {R : World → Prop} {F : Facts} {fr : (Nat → Value) → Act} {w0 : World} {i : Nat} {o : Oper} {N : Option Tmp} (hi : ops[i]? = some o) (hN : o.dst = N)
    (h : ∀ x a, fr x = a → ∀ w, Below w0.heap.size w0 w → (∀ j, (deps ops i).contains j = true → fact F j (x j) w) →
      ∀ K : Act → World → Prop, Sh (∀ v w', w.grownBy w' row → R w' → fact F i v w' → K (a.put N v) w') →
        if Region.wanted o (yielded ops a.tmps) = true then Oper.wp P o a w K Q else K (a.put N undef) w) : SpecOblK P ops Q row R F fr w0 i := by
  intro o' ho' x w hB hf K hK
  obtain rfl : o = o' := Option.some.inj (hi.symm.trans ho')
  subst hN
  exact h x _ rfl w hB (fun j hj => hf j (by simpa using hj)) K hK
theorem plainK {id n t s : Nat} {row : Option Nat} {R : World → Prop} {a : Act} {w : World} (Ns : List (Option Tmp)) (F : Facts) (hm : P.follows .mixedOrders = true) (hn : ops.size = n) (hNs : (List.range n).map (dst ops) = Ns)
    (hA : (apartB Ns && G.shape ops m (fun _ => false)) = true) (ht : n - m = t) (hsm : s < m)
    (hc : AllB (fun i => (i ≠ s → CoreOblK P ops Q row F (fun x => putAll Ns 0 x a) w i)) m)
    (hsp : SpecOblK P ops Q row R F (fun x => putAll Ns 0 x a) w s)
    (hR : ∀ w w', R w → Below w.heap.size w w' → R w') (hs : AllF F) (hp : AllB (fun j => ((j == s) || (clos ops j).contains s) = true ∨ ∀ v w w', fact F j v w → fact F j v w') m)
    (hT : ∀ x w', w.grownBy w' row → R w' → (∀ j, j < m → fact F j (x j) w') → Tail ops P Q m (fun _ => false) (fun _ _ => True) (fun x => putAll Ns 0 x a) t x w') : (Code.region id ops true).wp P Q a w := by
  simp only [Bool.and_eq_true] at hA
  subst hn
  subst ht
  have hlen : Ns.length = ops.size := by rw [← hNs]; simp
  have hNi : ∀ i, i < ops.size → Ns[i]? = some (dst ops i) := fun i hi => by rw [← hNs]; simp [hi]
  refine regionK (m := m) (s := s) (row := row) (R := R) (Φ := fact F) (fr := fun x => putAll Ns 0 x a) hm (old a Ns) (putAll_old Ns 0 _ a fun i _ => by rw [Nat.zero_add]) ⟨hA.2, hsm, ?_, hR, ?_, fun j v w w' hj hjs hc h _ => ?_, ?_, ?_, ?_⟩
  · intro x i v hi
    have := putAll_upd Ns 0 x a i v hA.1 (by rw [hNi i hi]; rfl)
    rw [hNi i hi, Nat.zero_add] at this
    exact this
  · intro j v w1 w2 hj hf hb
    unfold fact at hf ⊢
    rw [List.getD_eq_getElem?_getD] at hf ⊢
    cases hj : F[j]? with
    | none => trivial
    | some f =>
      rw [hj] at hf
      exact allF_mem hs f (List.mem_of_getElem? hj) v w1 w2 hf hb
  · rcases hp j hj with h' | h'
    · rw [hc, Bool.or_false] at h'
      exact absurd (by simpa using h') hjs
    · exact h' v w w' h
  · intro i o him his ho x w' hB hf K hK
    exact hc i him his o ho x w' hB hf K hK
  · intro o ho x w' hB hf K hK
    exact hsp o ho x w' hB hf K hK
  · intro x w' hB hR' hf
    exact hT x w' hB hR' hf
theorem enterK {oi : Oper} {N : Option Tmp} {a : Act} {w : World} {K : Act → World → Prop} (f : FuncId) (args : Array Value)
    (hw : Region.wanted oi (yielded ops a.tmps) = true) (hN : oi.dst = N) (hrun : (execOp a.eval oi).run P w = .ok (.enter f args) w)
    (h : Calls P f args w fun e w' => match e with | .returned v => K (a.put N v) w' | .panicked c => Q (.panic c) a w' | .outgrown => False) : if Region.wanted oi (yielded ops a.tmps) = true then Oper.wp P oi a w K Q else K (a.put N undef) w := by
  rw [if_pos hw]
  subst hN
  unfold Oper.wp
  rw [hrun]
  show Calls P f args w _
  refine h.mono ?_
  intro e w' he
  cases e with
  | returned v => exact he
  | panicked c => exact he
  | outgrown => exact he.elim
theorem stays_false : Stays (fun _ _ => False) := fun _ _ _ h _ => h
end
end Go.Proofs.YtbbopomecanaoaaDoor.GK
namespace Go.Proofs.YtbbopomecanaoaaDoor.A
open Go.RowKit Go.Proofs.YtbbopomecanaoaaDoorW.PrintWords Go.Proofs.YtbbopomecanaoaaDoorW.PrintLast Go.Proofs.YtbbopomecanaoaaDoorW.PrintMore Go.Proofs.YtbbopomecanaoaaDoor.XK
open Go.Proofs.YtbbopomecanaoaaDoor
attribute [local go_sem] max2_int min2_int max_two min_two max_three min_three max_four min_four
set_option linter.unusedVariables false
set_option linter.unusedSimpArgs false
structure Cx where
  pb : Nat
  la : Option Addr
  c : Nat
  ts : List Tk
  en : Int
  base : Nat
structure Toks (X : Cx) (w : World) : Prop where
  at_ : ∀ j, j < X.ts.length → ∃ ad, X.la = some ad ∧ ad.block ≠ X.pb ∧ w.cell? (ad.add (j * 4)) = some (.int .i64 (X.ts.getD j z88).f0) ∧
    w.cell? ⟨(ad.add (j * 4)).block, (ad.add (j * 4)).off + 1, none⟩ = some (.int .i64 (X.ts.getD j z88).f1) ∧
    w.cell? ⟨(ad.add (j * 4)).block, (ad.add (j * 4)).off + 2, none⟩ = some (.int .i64 (X.ts.getD j z88).f2) ∧
    w.cell? ⟨(ad.add (j * 4)).block, (ad.add (j * 4)).off + 3, none⟩ = some (.string (X.ts.getD j z88).f3)
structure PS (X : Cx) (w : World) (i : Nat) (l : Int) : Prop where
  blk : w.heap[X.pb]? = some (.cells #[.slice X.la X.ts.length X.c, .int .i64 i, .int .i64 X.en, .int .i64 l] 63 (0, 0))
  toks : Toks X w
  le : i ≤ X.ts.length
  few : X.ts.length ≤ 1000
  low : X.base ≤ X.pb
  words : ∀ j, j < X.ts.length → (X.ts.getD j z88).f3.toList ≠ []
abbrev ptr (X : Cx) : Value := .pointer (some ⟨X.pb, 0, none⟩)
section
variable {X : Cx} {w w1 : World} {i : Nat} {l : Int}
theorem cell_grown {a : Addr} {v : Value} {g : Nat} (hc : w.cell? a = some v) (hk : w.grownBy w1 (some g)) (hne : a.block ≠ g) : w1.cell? a = some v := by
  have := hk.block a.block (World.block_lt_of_cell? w a hc) (by intro e; cases e; exact hne rfl)
  simpa [World.cell?, this] using hc
theorem Toks.grown (h : Toks X w) (hk : w.grownBy w1 (some X.pb)) : Toks X w1 := ⟨fun j hj => by
  obtain ⟨ad, e, hne, c0, c1, c2, c3⟩ := h.at_ j hj
  refine ⟨ad, e, hne, cell_grown c0 hk (by rw [add_block]; exact hne), cell_grown c1 hk (by show (ad.add _).block ≠ _; rw [add_block]; exact hne), cell_grown c2 hk (by show (ad.add _).block ≠ _; rw [add_block]; exact hne), cell_grown c3 hk (by show (ad.add _).block ≠ _; rw [add_block]; exact hne)⟩⟩
theorem PS.below (h : PS X w i l) (hb : Below w.heap.size w w1) : PS X w1 i l :=
  ⟨(hb.block _ (blk_lt h.blk)).trans h.blk, h.toks.grown (grown_of_below hb _), h.le, h.few, h.low, h.words⟩
theorem PS.c0 (h : PS X w i l) : w.cell? ⟨X.pb, 0, none⟩ = some (.slice X.la X.ts.length X.c) := blk_cell h.blk 0
theorem PS.c1 (h : PS X w i l) : w.cell? ⟨X.pb, 1, none⟩ = some (.int .i64 i) := blk_cell h.blk 1
theorem PS.c2 (h : PS X w i l) : w.cell? ⟨X.pb, 2, none⟩ = some (.int .i64 X.en) := blk_cell h.blk 2
theorem PS.c3 (h : PS X w i l) : w.cell? ⟨X.pb, 3, none⟩ = some (.int .i64 l) := blk_cell h.blk 3
theorem PS.fr (h : PS X w i l) (j : Nat) : w.frozen? ⟨X.pb, j, none⟩ = false := blk_frozen h.blk j
theorem PS.lt (h : PS X w i l) : X.pb < w.heap.size := blk_lt h.blk
theorem grown_set (w : World) (g j : Nat) (u : Value) : w.grownBy (w.setCell ⟨g, j, none⟩ u) (some g) :=
  ⟨rfl, rfl, rfl, by simp [World.setCell], fun k hk hne => Below.heap_setCell w ⟨g, j, none⟩ u k (by intro e; exact hne (by rw [e]))⟩
theorem PS.move (h : PS X w i l) (i' : Nat) (hi : i' ≤ X.ts.length) : PS X (w.setCell ⟨X.pb, 1, none⟩ (.int .i64 i')) i' l :=
  ⟨blk_put h.blk 1 _ rfl, h.toks.grown (grown_set _ _ _ _), hi, h.few, h.low, h.words⟩
theorem PS.long (h : PS X w i l) (l' : Int) : PS X (w.setCell ⟨X.pb, 3, none⟩ (.int .i64 l')) i l' :=
  ⟨blk_put h.blk 3 _ rfl, h.toks.grown (grown_set _ _ _ _), h.le, h.few, h.low, h.words⟩
theorem PS.word (h : PS X w i l) (hne : (pk X.ts X.en i).f3.toList ≠ []) : i + 1 ≤ X.ts.length := by
  unfold pk at hne
  split at hne
  · omega
  · exact (hne (by first | rfl | simp | decide)).elim
end
abbrev tokV (t : Tk) : Value := .agg #[.int .i64 t.f0, .int .i64 t.f1, .int .i64 t.f2, .string t.f3]
set_option maxRecDepth 100000 in
set_option maxHeartbeats 1000000 in
theorem peek_calls (X : Cx) (i : Nat) (l : Int) (w : World) (hs : PS X w i l) : Calls Tryd.prog 85 #[ptr X] w fun e w' => e = .returned (tokV (pk X.ts X.en i)) ∧ Below w.heap.size w w' := by
  have HS := Aside0.mk hs
  have hfew := hs.few
  clear hs
  have HB := Aside0.mk (below_alloc (Below.refl w.heap.size w) (.cells #[.int .i64 0, .int .i64 0, .int .i64 0, .string (⟨#[]⟩ : ByteArray)] 88))
  have BO := Aside0.mk (heap_alloc_new w (.cells #[.int .i64 0, .int .i64 0, .int .i64 0, .string (⟨#[]⟩ : ByteArray)] 88))
  replace HS := Aside0.mk (HS.out.below HB.out)
  go_enter Tryd.func85, Tryd.ntmps85
  go_wp2_with fail
  generalize w.alloc (.cells #[.int .i64 0, .int .i64 0, .int .i64 0, .string (⟨#[]⟩ : ByteArray)] 88) = W0 at *
  obtain ⟨ob, hob⟩ : ∃ ob, w.heap.size = ob := ⟨_, rfl⟩
  rw [hob] at BO ⊢
  have hle : w.heap.size ≤ ob := by omega
  clear hob
  have q0 := HS.out.c0
  have q1 := HS.out.c1
  by_cases hlt : i < X.ts.length
  · have t0 : decide ((i : Int) < (X.ts.length : Int)) = true := by simp; omega
    refine Q.q_start (by kernel_rfl) (by kernel_rfl) ?_
    refine Q.q_value (N := some 3) (v := ?_) (a' := ?_) rfl (by rfl) ?_ ?_ ?_
    rotate_left
    · intro w' hb
      clear hb
      go_simp
      with_reducible rfl
    rotate_left
    · simp only [Act.put, List.setIfInBounds_toArray, List.set_cons_zero, List.set_cons_succ, i64_w, i32_w]
      rfl
    refine Q.q_value (N := some 4) (v := ?_) (a' := ?_) rfl (by rfl) ?_ ?_ ?_
    rotate_left
    · intro w' hb
      clear hb
      go_simp
      with_reducible rfl
    rotate_left
    · simp only [Act.put, List.setIfInBounds_toArray, List.set_cons_zero, List.set_cons_succ, i64_w, i32_w]
      rfl
    refine Q.q_value (N := some 5) (v := ?_) (a' := ?_) rfl (by rfl) ?_ ?_ ?_
    rotate_left
    · intro w' hb
      clear hb
      go_simp
      with_reducible rfl
    rotate_left
    · simp only [Act.put, List.setIfInBounds_toArray, List.set_cons_zero, List.set_cons_succ, i64_w, i32_w]
      rfl
    refine Q.q_value (N := some 6) (v := ?_) (a' := ?_) rfl (by rfl) ?_ ?_ ?_
    rotate_left
    · intro w' hb
      have s0 := pw_cell_below hb q1
      clear hb
      go_simp
      with_reducible rfl
    rotate_left
    · simp only [Act.put, List.setIfInBounds_toArray, List.set_cons_zero, List.set_cons_succ, i64_w, i32_w]
      rfl
    refine Q.q_value (N := some 7) (v := ?_) (a' := ?_) rfl (by rfl) ?_ ?_ ?_
    rotate_left
    · intro w' hb
      clear hb
      go_simp
      with_reducible rfl
    rotate_left
    · simp only [Act.put, List.setIfInBounds_toArray, List.set_cons_zero, List.set_cons_succ, i64_w, i32_w]
      rfl
    refine Q.q_value (N := some 8) (v := ?_) (a' := ?_) rfl (by rfl) ?_ ?_ ?_
    rotate_left
    · intro w' hb
      clear hb
      go_simp
      with_reducible rfl
    rotate_left
    · simp only [Act.put, List.setIfInBounds_toArray, List.set_cons_zero, List.set_cons_succ, i64_w, i32_w]
      rfl
    refine Q.q_value (N := some 9) (v := ?_) (a' := ?_) rfl (by rfl) ?_ ?_ ?_
    rotate_left
    · intro w' hb
      clear hb
      go_simp
      with_reducible rfl
    rotate_left
    · simp only [Act.put, List.setIfInBounds_toArray, List.set_cons_zero, List.set_cons_succ, i64_w, i32_w]
      rfl
    refine Q.q_value (N := some 10) (v := ?_) (a' := ?_) rfl (by rfl) ?_ ?_ ?_
    rotate_left
    · intro w' hb
      have s0 := pw_cell_below hb q0
      clear hb
      go_simp
      with_reducible rfl
    rotate_left
    · simp only [Act.put, List.setIfInBounds_toArray, List.set_cons_zero, List.set_cons_succ, i64_w, i32_w]
      rfl
    refine Q.q_value (N := some 11) (v := ?_) (a' := ?_) rfl (by rfl) ?_ ?_ ?_
    rotate_left
    · intro w' hb
      clear hb
      go_simp
      with_reducible rfl
    rotate_left
    · simp only [Act.put, List.setIfInBounds_toArray, List.set_cons_zero, List.set_cons_succ, i64_w, i32_w]
      rfl
    refine Q.q_value (N := some 12) (v := ?_) (a' := ?_) rfl (by rfl) ?_ ?_ ?_
    rotate_left
    · intro w' hb
      clear hb
      go_simp
      with_reducible rfl
    rotate_left
    · simp only [Act.put, List.setIfInBounds_toArray, List.set_cons_zero, List.set_cons_succ, i64_w, i32_w]
      rfl
    refine wpQuiet_nil ?_
    intro w1 HB1
    replace HS := Aside0.mk (HS.out.below HB1)
    replace BO := Aside0.mk (blk_below BO.out HB1)
    replace HB := Aside0.mk (below_step HB.out HB1)
    clear HB1 q0 q1
    go_wp2_with fail
    obtain ⟨ad, had, hne, c0, c1, c2, c3⟩ := HS.out.toks.at_ i hlt
    have q0 := HS.out.c0
    have q1 := HS.out.c1
    rw [had] at q0
    have hpk : pk X.ts X.en i = X.ts.getD i z88 := by unfold pk; rw [if_pos hlt]
    generalize X.ts.getD i z88 = t at *
    have HPK := Aside0.mk hpk
    clear hpk had
    refine G.plain (m := 10) (n := 11) (t := 1) [some 13, some 14, some 15, some 16, some 17, some 18, some 19, some 20, some 21, some 22, none] [G.Is ?fg100_0, G.Is ?fg100_1, G.Is ?fg100_2, G.Is ?fg100_3, G.Is ?fg100_4, G.Is ?fg100_5, G.Is ?fg100_6, G.Is ?fg100_7, G.Is ?fg100_8, G.Is ?fg100_9] [] (by kernel_rfl) (by kernel_rfl) (by kernel_rfl) (by kernel_rfl) (by rfl) (G.allB_succ (G.allB_succ (G.allB_succ (G.allB_succ (G.allB_succ (G.allB_succ (G.allB_succ (G.allB_succ (G.allB_succ (G.allB_succ G.allB_zero ?cg100_0) ?cg100_1) ?cg100_2) ?cg100_3) ?cg100_4) ?cg100_5) ?cg100_6) ?cg100_7) ?cg100_8) ?cg100_9) ?hsg100_ ?hlg100_ ?hTg100_
    case cg100_0 =>
      refine G.core_obl (o := _) (N := some 13) rfl rfl ?_
      intro x a' ha w' hB hF K hK
      simp only [G.putAll, Act.put, List.setIfInBounds_toArray, List.set_cons_zero, List.set_cons_succ, Nat.reduceAdd] at ha
      subst ha
      refine value_ (w1 := ?_) (v := ?_) (by rfl) rfl ?_ ?_
      rotate_left 2
      · go_simp
        constructor
        · rfl
        · rfl
      refine hK.out _ _ (Below.refl _ _) ?_ (fun h => absurd h (by decide))
      change _ = _
      with_reducible rfl
    case cg100_1 =>
      refine G.core_obl (o := _) (N := some 14) rfl rfl ?_
      intro x a' ha w' hB hF K hK
      have s0 : x 0 = _ := hF 0 (by kernel_rfl)
      simp only [G.putAll, Act.put, List.setIfInBounds_toArray, List.set_cons_zero, List.set_cons_succ, Nat.reduceAdd, s0] at ha
      subst ha
      refine value_ (w1 := ?_) (v := ?_) (by rfl) rfl ?_ ?_
      rotate_left 2
      · go_simp
        constructor
        · rfl
        · rfl
      refine hK.out _ _ (Below.refl _ _) ?_ (fun h => absurd h (by decide))
      change _ = _
      with_reducible rfl
    case cg100_2 =>
      refine G.core_obl (o := _) (N := some 15) rfl rfl ?_
      intro x a' ha w' hB hF K hK
      have s1 : x 1 = _ := hF 1 (by kernel_rfl)
      simp only [G.putAll, Act.put, List.setIfInBounds_toArray, List.set_cons_zero, List.set_cons_succ, Nat.reduceAdd, s1] at ha
      subst ha
      refine value_ (w1 := ?_) (v := ?_) (by rfl) rfl ?_ ?_
      rotate_left 2
      · go_simp
        constructor
        · rfl
        · rfl
      refine hK.out _ _ (Below.refl _ _) ?_ (fun h => absurd h (by decide))
      change _ = _
      with_reducible rfl
    case cg100_3 =>
      refine G.core_obl (o := _) (N := some 16) rfl rfl ?_
      intro x a' ha w' hB hF K hK
      have s2 : x 2 = _ := hF 2 (by kernel_rfl)
      simp only [G.putAll, Act.put, List.setIfInBounds_toArray, List.set_cons_zero, List.set_cons_succ, Nat.reduceAdd, s2] at ha
      subst ha
      have t0 := pw_cell_below hB q0
      refine value_ (w1 := ?_) (v := ?_) (by rfl) rfl ?_ ?_
      rotate_left 2
      · go_simp
        constructor
        · rfl
        · rfl
      refine hK.out _ _ (Below.refl _ _) ?_ (fun h => absurd h (by decide))
      change _ = _
      with_reducible rfl
    case cg100_4 =>
      refine G.core_obl (o := _) (N := some 17) rfl rfl ?_
      intro x a' ha w' hB hF K hK
      simp only [G.putAll, Act.put, List.setIfInBounds_toArray, List.set_cons_zero, List.set_cons_succ, Nat.reduceAdd] at ha
      subst ha
      refine value_ (w1 := ?_) (v := ?_) (by rfl) rfl ?_ ?_
      rotate_left 2
      · go_simp
        constructor
        · rfl
        · rfl
      refine hK.out _ _ (Below.refl _ _) ?_ (fun h => absurd h (by decide))
      change _ = _
      with_reducible rfl
    case cg100_5 =>
      refine G.core_obl (o := _) (N := some 18) rfl rfl ?_
      intro x a' ha w' hB hF K hK
      have s4 : x 4 = _ := hF 4 (by kernel_rfl)
      simp only [G.putAll, Act.put, List.setIfInBounds_toArray, List.set_cons_zero, List.set_cons_succ, Nat.reduceAdd, s4] at ha
      subst ha
      refine value_ (w1 := ?_) (v := ?_) (by rfl) rfl ?_ ?_
      rotate_left 2
      · go_simp
        constructor
        · rfl
        · rfl
      refine hK.out _ _ (Below.refl _ _) ?_ (fun h => absurd h (by decide))
      change _ = _
      with_reducible rfl
    case cg100_6 =>
      refine G.core_obl (o := _) (N := some 19) rfl rfl ?_
      intro x a' ha w' hB hF K hK
      have s5 : x 5 = _ := hF 5 (by kernel_rfl)
      simp only [G.putAll, Act.put, List.setIfInBounds_toArray, List.set_cons_zero, List.set_cons_succ, Nat.reduceAdd, s5] at ha
      subst ha
      refine value_ (w1 := ?_) (v := ?_) (by rfl) rfl ?_ ?_
      rotate_left 2
      · go_simp
        constructor
        · rfl
        · rfl
      refine hK.out _ _ (Below.refl _ _) ?_ (fun h => absurd h (by decide))
      change _ = _
      with_reducible rfl
    case cg100_7 =>
      refine G.core_obl (o := _) (N := some 20) rfl rfl ?_
      intro x a' ha w' hB hF K hK
      have s6 : x 6 = _ := hF 6 (by kernel_rfl)
      simp only [G.putAll, Act.put, List.setIfInBounds_toArray, List.set_cons_zero, List.set_cons_succ, Nat.reduceAdd, s6] at ha
      subst ha
      have t0 := pw_cell_below hB q1
      refine value_ (w1 := ?_) (v := ?_) (by rfl) rfl ?_ ?_
      rotate_left 2
      · go_simp
        constructor
        · rfl
        · rfl
      refine hK.out _ _ (Below.refl _ _) ?_ (fun h => absurd h (by decide))
      change _ = _
      with_reducible rfl
    case cg100_8 =>
      refine G.core_obl (o := _) (N := some 21) rfl rfl ?_
      intro x a' ha w' hB hF K hK
      have s3 : x 3 = _ := hF 3 (by kernel_rfl)
      have s7 : x 7 = _ := hF 7 (by kernel_rfl)
      simp only [G.putAll, Act.put, List.setIfInBounds_toArray, List.set_cons_zero, List.set_cons_succ, Nat.reduceAdd, s3, s7] at ha
      subst ha
      refine value_ (w1 := ?_) (v := ?_) (by rfl) rfl ?_ ?_
      rotate_left 2
      · go_simp
        constructor
        · rfl
        · rfl
      refine hK.out _ _ (Below.refl _ _) ?_ (fun h => absurd h (by decide))
      change _ = _
      with_reducible rfl
    case cg100_9 =>
      refine G.core_obl (o := _) (N := some 22) rfl rfl ?_
      intro x a' ha w' hB hF K hK
      have s8 : x 8 = _ := hF 8 (by kernel_rfl)
      simp only [G.putAll, Act.put, List.setIfInBounds_toArray, List.set_cons_zero, List.set_cons_succ, Nat.reduceAdd, s8] at ha
      subst ha
      have t0 := pw_cell_below hB c0
      have t1 := pw_cell_below hB c1
      have t2 := pw_cell_below hB c2
      have t3 := pw_cell_below hB c3
      refine value_ (w1 := ?_) (v := ?_) (by rfl) rfl ?_ ?_
      rotate_left 2
      · go_simp
        constructor
        · rfl
        · rfl
      refine hK.out _ _ (Below.refl _ _) ?_ (fun h => absurd h (by decide))
      change _ = _
      with_reducible rfl
    case hsg100_ => exact ⟨G.stays_eq _, G.stays_eq _, G.stays_eq _, G.stays_eq _, G.stays_eq _, G.stays_eq _, G.stays_eq _, G.stays_eq _, G.stays_eq _, G.stays_eq _, trivial⟩
    case hlg100_ => exact trivial
    intro x w' hB hF hD
    have s0 : x 0 = _ := hF 0 (by omega)
    have s1 : x 1 = _ := hF 1 (by omega)
    have s2 : x 2 = _ := hF 2 (by omega)
    have s3 : x 3 = _ := hF 3 (by omega)
    have s4 : x 4 = _ := hF 4 (by omega)
    have s5 : x 5 = _ := hF 5 (by omega)
    have s6 : x 6 = _ := hF 6 (by omega)
    have s7 : x 7 = _ := hF 7 (by omega)
    have s8 : x 8 = _ := hF 8 (by omega)
    have s9 : x 9 = _ := hF 9 (by omega)
    clear hF hD
    refine G.tail_succ (i := 10) (o := _) (N := none) (by rfl) rfl rfl ?_
    intro a' ha K hK
    simp (decide := true) only [G.putAll, Act.put, List.setIfInBounds_toArray, List.set_cons_zero, List.set_cons_succ, Nat.reduceAdd, G.upd, if_true, if_false, ↓reduceIte, s0, s1, s2, s3, s4, s5, s6, s7, s8, s9] at ha
    subst ha
    have z0 : w'.cell? ⟨ob, 0, none⟩ = some (.int .i64 0) := blk_cell (blk_below BO.out hB) 0
    have z1 : w'.cell? ⟨ob, 1, none⟩ = some (.int .i64 0) := blk_cell (blk_below BO.out hB) 1
    have z2 : w'.cell? ⟨ob, 2, none⟩ = some (.int .i64 0) := blk_cell (blk_below BO.out hB) 2
    have z3 : w'.cell? ⟨ob, 3, none⟩ = some (.string (⟨#[]⟩ : ByteArray)) := blk_cell (blk_below BO.out hB) 3
    have y0 := blk_frozen (blk_below BO.out hB) 0
    have y1 := blk_frozen (blk_below BO.out hB) 1
    have y2 := blk_frozen (blk_below BO.out hB) 2
    have y3 := blk_frozen (blk_below BO.out hB) 3
    refine skip_ (w1 := ?_) (by rfl) rfl ?_ ?_
    rotate_left
    · go_simp
      rfl
    refine hK.out undef _ ?_
    clear hK K
    clear z0 z1 z2 z3 y0 y1 y2 y3
    refine G.tail_zero ?_
    intro a' ha
    simp (decide := true) only [G.putAll, Act.put, List.setIfInBounds_toArray, List.set_cons_zero, List.set_cons_succ, Nat.reduceAdd, G.upd, if_true, if_false, ↓reduceIte, s0, s1, s2, s3, s4, s5, s6, s7, s8, s9] at ha
    subst ha
    clear s0 s1 s2 s3 s4 s5 s6 s7 s8 s9 x
    replace BO := Aside0.mk (blk_below BO.out hB)
    replace HB := Aside0.mk (below_step HB.out hB)
    replace HB := Aside0.mk (below_set (j := 0) (v := .int .i64 t.f0) HB.out hle)
    replace HB := Aside0.mk (below_set (j := 1) (v := .int .i64 t.f1) HB.out hle)
    replace HB := Aside0.mk (below_set (j := 2) (v := .int .i64 t.f2) HB.out hle)
    replace HB := Aside0.mk (below_set (j := 3) (v := .string t.f3) HB.out hle)
    have BZ := Aside0.mk (blk_put (blk_put (blk_put (blk_put BO.out 0 (.int .i64 t.f0) rfl) 1 (.int .i64 t.f1) rfl) 2 (.int .i64 t.f2) rfl) 3 (.string t.f3) (cs' := #[.int .i64 t.f0, .int .i64 t.f1, .int .i64 t.f2, .string t.f3]) rfl)
    clear hB c0 c1 c2 c3 q0 q1
    go_wp2_with fail
    refine bodyPost_ret (v := tokV t) ?_ rfl ⟨by rw [HPK.out], HB.out⟩
    have z0 := blk_cell BZ.out 0
    have z1 := blk_cell BZ.out 1
    have z2 := blk_cell BZ.out 2
    have z3 := blk_cell BZ.out 3
    simp at z0 z1 z2 z3
    simp [results, Tryd.results85, go_sem, z0, z1, z2, z3]
  · have t0 : decide ((i : Int) < (X.ts.length : Int)) = false := by simp; omega
    refine Q.q_start (by kernel_rfl) (by kernel_rfl) ?_
    refine Q.q_value (N := some 3) (v := ?_) (a' := ?_) rfl (by rfl) ?_ ?_ ?_
    rotate_left
    · intro w' hb
      clear hb
      go_simp
      with_reducible rfl
    rotate_left
    · simp only [Act.put, List.setIfInBounds_toArray, List.set_cons_zero, List.set_cons_succ, i64_w, i32_w]
      rfl
    refine Q.q_value (N := some 4) (v := ?_) (a' := ?_) rfl (by rfl) ?_ ?_ ?_
    rotate_left
    · intro w' hb
      clear hb
      go_simp
      with_reducible rfl
    rotate_left
    · simp only [Act.put, List.setIfInBounds_toArray, List.set_cons_zero, List.set_cons_succ, i64_w, i32_w]
      rfl
    refine Q.q_value (N := some 5) (v := ?_) (a' := ?_) rfl (by rfl) ?_ ?_ ?_
    rotate_left
    · intro w' hb
      clear hb
      go_simp
      with_reducible rfl
    rotate_left
    · simp only [Act.put, List.setIfInBounds_toArray, List.set_cons_zero, List.set_cons_succ, i64_w, i32_w]
      rfl
    refine Q.q_value (N := some 6) (v := ?_) (a' := ?_) rfl (by rfl) ?_ ?_ ?_
    rotate_left
    · intro w' hb
      have s0 := pw_cell_below hb q1
      clear hb
      go_simp
      with_reducible rfl
    rotate_left
    · simp only [Act.put, List.setIfInBounds_toArray, List.set_cons_zero, List.set_cons_succ, i64_w, i32_w]
      rfl
    refine Q.q_value (N := some 7) (v := ?_) (a' := ?_) rfl (by rfl) ?_ ?_ ?_
    rotate_left
    · intro w' hb
      clear hb
      go_simp
      with_reducible rfl
    rotate_left
    · simp only [Act.put, List.setIfInBounds_toArray, List.set_cons_zero, List.set_cons_succ, i64_w, i32_w]
      rfl
    refine Q.q_value (N := some 8) (v := ?_) (a' := ?_) rfl (by rfl) ?_ ?_ ?_
    rotate_left
    · intro w' hb
      clear hb
      go_simp
      with_reducible rfl
    rotate_left
    · simp only [Act.put, List.setIfInBounds_toArray, List.set_cons_zero, List.set_cons_succ, i64_w, i32_w]
      rfl
    refine Q.q_value (N := some 9) (v := ?_) (a' := ?_) rfl (by rfl) ?_ ?_ ?_
    rotate_left
    · intro w' hb
      clear hb
      go_simp
      with_reducible rfl
    rotate_left
    · simp only [Act.put, List.setIfInBounds_toArray, List.set_cons_zero, List.set_cons_succ, i64_w, i32_w]
      rfl
    refine Q.q_value (N := some 10) (v := ?_) (a' := ?_) rfl (by rfl) ?_ ?_ ?_
    rotate_left
    · intro w' hb
      have s0 := pw_cell_below hb q0
      clear hb
      go_simp
      with_reducible rfl
    rotate_left
    · simp only [Act.put, List.setIfInBounds_toArray, List.set_cons_zero, List.set_cons_succ, i64_w, i32_w]
      rfl
    refine Q.q_value (N := some 11) (v := ?_) (a' := ?_) rfl (by rfl) ?_ ?_ ?_
    rotate_left
    · intro w' hb
      clear hb
      go_simp
      with_reducible rfl
    rotate_left
    · simp only [Act.put, List.setIfInBounds_toArray, List.set_cons_zero, List.set_cons_succ, i64_w, i32_w]
      rfl
    refine Q.q_value (N := some 12) (v := ?_) (a' := ?_) rfl (by rfl) ?_ ?_ ?_
    rotate_left
    · intro w' hb
      clear hb
      go_simp
      with_reducible rfl
    rotate_left
    · simp only [Act.put, List.setIfInBounds_toArray, List.set_cons_zero, List.set_cons_succ, i64_w, i32_w]
      rfl
    refine wpQuiet_nil ?_
    intro w1 HB1
    replace HS := Aside0.mk (HS.out.below HB1)
    replace BO := Aside0.mk (blk_below BO.out HB1)
    replace HB := Aside0.mk (below_step HB.out HB1)
    clear HB1 q0 q1
    have q2 := HS.out.c2
    have hpk : pk X.ts X.en i = ⟨0, X.en, 0, ⟨#[]⟩⟩ := by unfold pk; rw [if_neg hlt]
    have HPK := Aside0.mk hpk
    clear hpk
    have z0 := blk_cell BO.out 0
    have z1 := blk_cell BO.out 1
    have z2 := blk_cell BO.out 2
    have z3 := blk_cell BO.out 3
    have y0 := blk_frozen BO.out 0
    have y1 := blk_frozen BO.out 1
    have y2 := blk_frozen BO.out 2
    have y3 := blk_frozen BO.out 3
    simp at z0 z1 z2 z3
    have BZ := Aside0.mk (blk_put (blk_put (blk_put (blk_put BO.out 0 (.int .i64 0) rfl) 1 (.int .i64 X.en) rfl) 2 (.int .i64 0) rfl) 3 (.string (⟨#[]⟩ : ByteArray)) (cs' := #[.int .i64 0, .int .i64 X.en, .int .i64 0, .string (⟨#[]⟩ : ByteArray)]) rfl)
    replace HB := Aside0.mk (below_set (j := 0) (v := .int .i64 0) HB.out hle)
    replace HB := Aside0.mk (below_set (j := 1) (v := .int .i64 X.en) HB.out hle)
    replace HB := Aside0.mk (below_set (j := 2) (v := .int .i64 0) HB.out hle)
    replace HB := Aside0.mk (below_set (j := 3) (v := .string (⟨#[]⟩ : ByteArray)) HB.out hle)
    go_wp2_with fail
    refine bodyPost_ret (v := tokV ⟨0, X.en, 0, ⟨#[]⟩⟩) ?_ rfl ⟨by rw [HPK.out], HB.out⟩
    clear z0 z1 z2 z3
    have z0 := blk_cell BZ.out 0
    have z1 := blk_cell BZ.out 1
    have z2 := blk_cell BZ.out 2
    have z3 := blk_cell BZ.out 3
    simp at z0 z1 z2 z3
    simp [results, Tryd.results85, go_sem, z0, z1, z2, z3]
abbrev wrongE (at_ : Int) : List PanicEntry := [{ v := .iface 91 (.int .i64 at_), recovered := false }]
theorem peek_is {X : Cx} {i : Nat} {l : Int} {w : World} {tk ta tn : Int} {tt : ByteArray} (e : pk X.ts X.en i = ⟨tk, ta, tn, tt⟩) (hs : PS X w i l) :
    Calls Tryd.prog 85 #[ptr X] w fun e w' => e = .returned (.agg #[.int .i64 tk, .int .i64 ta, .int .i64 tn, .string tt]) ∧ Below w.heap.size w w' := by
  have := peek_calls X i l w hs
  rw [e] at this
  exact this
theorem pk_open (X : Cx) (i : Nat) : ∃ tk ta tn tt, pk X.ts X.en i = ⟨tk, ta, tn, tt⟩ := ⟨_, _, _, _, rfl⟩
theorem fld1 (k a n : Int) (t : ByteArray) (w : World) : (Instr.field 88 (.agg #[.int .i64 k, .int .i64 a, .int .i64 n, .string t]) 1).run Tryd.prog w = .ok (.int .i64 a) w := by kernel_rfl
theorem fld3 (k a n : Int) (t : ByteArray) (w : World) : (Instr.field 88 (.agg #[.int .i64 k, .int .i64 a, .int .i64 n, .string t]) 3).run Tryd.prog w = .ok (.string t) w := by kernel_rfl
attribute [local go_sem] fld1 fld3
theorem conc_wrong : Tryd.prog.concrete 91 = true := by kernel_rfl
set_option maxRecDepth 100000 in
set_option maxHeartbeats 1000000 in
theorem fail_calls (X : Cx) (i : Nat) (l : Int) (w : World) (hs : PS X w i l) : Calls Tryd.prog 62 #[ptr X] w fun e w' => e = .panicked (wrongE (pk X.ts X.en i).f1) ∧ Below w.heap.size w w' := by
  have HS := Aside0.mk hs
  clear hs
  obtain ⟨tk, ta, tn, tt, hpk⟩ := pk_open X i
  have HPK := Aside0.mk hpk
  rw [hpk]
  clear hpk
  have hcc := conc_wrong
  go_enter Tryd.func62, Tryd.ntmps62
  go_wp2_with fail
  with_reducible refine (peek_is HPK.out HS.out).mono ?_
  rintro e w1 ⟨rfl, HB1⟩
  have HB := Aside0.mk HB1
  clear HB1
  go_wp2_with fail
  exact ⟨rfl, rfl, HB.out⟩
set_option maxRecDepth 100000 in
set_option maxHeartbeats 1000000 in
theorem take_yes {X : Cx} {i : Nat} {l : Int} {w : World} {s : ByteArray} (hs : PS X w i l) (hw : s.toList ≠ []) (h : (pk X.ts X.en i).f3.toList = s.toList) :
    Calls Tryd.prog 116 #[ptr X, .string s] w fun e w' => e = .returned (.bool true) ∧ w.grownBy w' (some X.pb) ∧ PS X w' (i + 1) l := by
  have HS := Aside0.mk hs
  have hlt := hs.word (by rw [h]; exact hw)
  have hfew := hs.few
  clear hs hw
  obtain ⟨tk, ta, tn, tt, hpk⟩ := pk_open X i
  have HPK := Aside0.mk hpk
  rw [hpk] at h
  clear hpk
  have t0 : (tt.toList == s.toList) = true := by simpa using h
  have t1 : (tt.toList != s.toList) = false := by simpa using h
  clear h
  go_enter Tryd.func116, Tryd.ntmps116
  go_wp2_with fail
  with_reducible refine (peek_is HPK.out HS.out).mono ?_
  rintro e w1 ⟨rfl, HB1⟩
  have HB := Aside0.mk HB1
  replace HS := Aside0.mk (HS.out.below HB1)
  clear HB1
  have q0 := HS.out.c1
  have q1 := HS.out.fr 1
  go_wp2_with fail
  go_ret
  exact ⟨rfl, World.grownBy.trans (grown_of_below HB.out _) (grown_set _ _ _ _), HS.out.move (i + 1) hlt⟩
set_option maxRecDepth 100000 in
set_option maxHeartbeats 1000000 in
theorem take_no {X : Cx} {i : Nat} {l : Int} {w : World} {s : ByteArray} (hs : PS X w i l) (h : (pk X.ts X.en i).f3.toList ≠ s.toList) :
    Calls Tryd.prog 116 #[ptr X, .string s] w fun e w' => e = .returned (.bool false) ∧ Below w.heap.size w w' := by
  have HS := Aside0.mk hs
  clear hs
  obtain ⟨tk, ta, tn, tt, hpk⟩ := pk_open X i
  have HPK := Aside0.mk hpk
  rw [hpk] at h
  clear hpk
  have t0 : (tt.toList == s.toList) = false := by simpa using h
  have t1 : (tt.toList != s.toList) = true := by simpa using h
  clear h
  go_enter Tryd.func116, Tryd.ntmps116
  go_wp2_with fail
  with_reducible refine (peek_is HPK.out HS.out).mono ?_
  rintro e w1 ⟨rfl, HB1⟩
  have HB := Aside0.mk HB1
  clear HB1
  go_wp2_with fail
  go_ret
  exact ⟨rfl, HB.out⟩
set_option maxRecDepth 100000 in
set_option maxHeartbeats 1000000 in
theorem want_yes {X : Cx} {i : Nat} {l : Int} {w : World} {s : ByteArray} (hs : PS X w i l) (hw : s.toList ≠ []) (h : (pk X.ts X.en i).f3.toList = s.toList) :
    Calls Tryd.prog 129 #[ptr X, .string s] w fun e w' => e = .returned (.tuple #[]) ∧ w.grownBy w' (some X.pb) ∧ PS X w' (i + 1) l := by
  have HT := Aside0.mk (take_yes hs hw h)
  clear hs hw h
  go_enter Tryd.func129, Tryd.ntmps129
  go_wp2_with fail
  with_reducible refine HT.out.mono ?_
  rintro e w1 ⟨rfl, HB, HS⟩
  replace HB := Aside0.mk HB
  replace HS := Aside0.mk HS
  go_wp2_with fail
  go_end0
  exact ⟨rfl, HB.out, HS.out⟩
set_option maxRecDepth 100000 in
set_option maxHeartbeats 1000000 in
theorem want_no {X : Cx} {i : Nat} {l : Int} {w : World} {s : ByteArray} (hs : PS X w i l) (h : (pk X.ts X.en i).f3.toList ≠ s.toList) :
    Calls Tryd.prog 129 #[ptr X, .string s] w fun e w' => e = .panicked (wrongE (pk X.ts X.en i).f1) ∧ Below w.heap.size w w' := by
  have HS := Aside0.mk hs
  have HT := Aside0.mk (take_no hs h)
  clear hs h
  go_enter Tryd.func129, Tryd.ntmps129
  go_wp2_with fail
  with_reducible refine HT.out.mono ?_
  rintro e w1 ⟨rfl, HB1⟩
  have HB := Aside0.mk HB1
  replace HS := Aside0.mk (HS.out.below HB1)
  clear HB1
  go_wp2_with fail
  with_reducible refine (fail_calls X i l _ HS.out).mono ?_
  rintro e w2 ⟨rfl, HB1⟩
  exact ⟨rfl, rfl, below_step HB.out HB1⟩
set_option maxRecDepth 100000 in
set_option maxHeartbeats 1000000 in
theorem steps_calls_no {X : Cx} {i : Nat} {l : Int} {w : World} (hs : PS X w i l) (h : (pk X.ts X.en i).f0 ≠ 2) :
    Calls Tryd.prog 132 #[ptr X] w fun e w' => e = .panicked (wrongE (pk X.ts X.en i).f1) ∧ Below w.heap.size w w' := by
  have HS := Aside0.mk hs
  clear hs
  obtain ⟨tk, ta, tn, tt, hpk⟩ := pk_open X i
  have HPK := Aside0.mk hpk
  rw [hpk] at h
  rw [hpk]
  have t0 : (tk == 2) = false := by simpa using h
  have t1 : (tk != 2) = true := by simpa using h
  clear hpk
  go_enter Tryd.func132, Tryd.ntmps132
  go_wp2_with fail
  with_reducible refine (peek_is HPK.out HS.out).mono ?_
  rintro e w1 ⟨rfl, HB1⟩
  have HB := Aside0.mk HB1
  replace HS := Aside0.mk (HS.out.below HB1)
  replace HS := Aside0.mk (HS.out.below (below_alloc (Below.refl _ _) (.cells #[.int .i64 tk, .int .i64 ta, .int .i64 tn, .string tt] 88)))
  clear HB1
  go_wp2_with fail
  with_reducible refine (fail_calls X i l _ HS.out).mono ?_
  rw [HPK.out]
  rintro e w2 ⟨rfl, HB1⟩
  exact ⟨rfl, rfl, below_step (below_alloc HB.out _) HB1⟩
set_option maxRecDepth 100000 in
set_option maxHeartbeats 1000000 in
theorem steps_calls_yes {X : Cx} {i : Nat} {l : Int} {w : World} (hs : PS X w i l) (h : (pk X.ts X.en i).f0 = 2) (hi : i + 1 ≤ X.ts.length) :
    Calls Tryd.prog 132 #[ptr X] w fun e w' => e = .returned (.int .i64 (pk X.ts X.en i).f2) ∧ w.grownBy w' (some X.pb) ∧ PS X w' (i + 1) (longN X.ts X.en i l) := by
  have HS := Aside0.mk hs
  have hfew := hs.few
  clear hs
  obtain ⟨tk, ta, tn, tt, hpk⟩ := pk_open X i
  have HPK := Aside0.mk hpk
  rw [hpk] at h
  have hL : longN X.ts X.en i l = if tn > 500 ∧ l < 0 then ta else l := by unfold longN; rw [hpk]
  rw [hL, hpk]
  clear hpk hL
  obtain rfl : tk = 2 := h
  obtain ⟨l', hl'⟩ : ∃ x, (if tn > 500 ∧ l < 0 then ta else l) = x := ⟨_, rfl⟩
  rw [hl']
  have HL := Aside0.mk hl'
  clear hl'
  go_enter Tryd.func132, Tryd.ntmps132
  go_wp2_with fail
  with_reducible refine (peek_is HPK.out HS.out).mono ?_
  rintro e w1 ⟨rfl, HB1⟩
  have HB := Aside0.mk (below_alloc HB1 (.cells #[.int .i64 2, .int .i64 ta, .int .i64 tn, .string tt] 88))
  replace HS := Aside0.mk (HS.out.below HB1)
  have hne : X.pb ≠ w1.heap.size := by have := HS.out.lt; omega
  replace HS := Aside0.mk (HS.out.below (below_alloc (Below.refl _ _) (.cells #[.int .i64 2, .int .i64 ta, .int .i64 tn, .string tt] 88)))
  have BT := Aside0.mk (heap_alloc_new w1 (.cells #[.int .i64 2, .int .i64 ta, .int .i64 tn, .string tt] 88))
  clear HB1
  have z0 : (w1.alloc (.cells #[.int .i64 2, .int .i64 ta, .int .i64 tn, .string tt] 88)).cell? ⟨w1.heap.size, 0, none⟩ = some (.int .i64 2) := blk_cell BT.out 0
  have z1 : (w1.alloc (.cells #[.int .i64 2, .int .i64 ta, .int .i64 tn, .string tt] 88)).cell? ⟨w1.heap.size, 1, none⟩ = some (.int .i64 ta) := blk_cell BT.out 1
  have z2 : (w1.alloc (.cells #[.int .i64 2, .int .i64 ta, .int .i64 tn, .string tt] 88)).cell? ⟨w1.heap.size, 2, none⟩ = some (.int .i64 tn) := blk_cell BT.out 2
  by_cases c1 : 500 < tn
  · have t1 : decide (500 < tn) = true := by simpa using c1
    by_cases c2 : l < 0
    · have t2 : decide (l < 0) = true := by simpa using c2
      obtain rfl : l' = ta := by rw [← HL.out, if_pos ⟨c1, c2⟩]
      have q0 := HS.out.c3
      have q1 := HS.out.fr 3
      have HS2 := Aside0.mk (HS.out.long l')
      have q2 := HS2.out.c1
      have q3 := HS2.out.fr 1
      have HS3 := Aside0.mk (HS2.out.move (i + 1) hi)
      have HG := Aside0.mk (World.grownBy.trans (World.grownBy.trans (grown_of_below HB.out (some X.pb)) (grown_set (w1.alloc (.cells #[.int .i64 2, .int .i64 l', .int .i64 tn, .string tt] 88)) X.pb 3 (.int .i64 l'))) (grown_set ((w1.alloc (.cells #[.int .i64 2, .int .i64 l', .int .i64 tn, .string tt] 88)).setCell ⟨X.pb, 3, none⟩ (.int .i64 l')) X.pb 1 (.int .i64 ((i + 1 : Nat) : Int))))
      have z3 : (((w1.alloc (.cells #[.int .i64 2, .int .i64 l', .int .i64 tn, .string tt] 88)).setCell ⟨X.pb, 3, none⟩ (.int .i64 l')).setCell ⟨X.pb, 1, none⟩ (.int .i64 ((i : Int) + 1))).cell? ⟨w1.heap.size, 2, none⟩ = some (.int .i64 tn) := blk_cell (blk_far (blk_far BT.out (p := ⟨X.pb, 3, none⟩) (Ne.symm hne) (.int .i64 l')) (p := ⟨X.pb, 1, none⟩) (Ne.symm hne) (.int .i64 ((i : Int) + 1))) 2
      clear HS HS2 HB BT
      go_wp2_with fail
      go_ret
      exact ⟨rfl, HG.out, HS3.out⟩
    · have t2 : decide (l < 0) = false := by simpa using c2
      obtain rfl : l' = l := by rw [← HL.out, if_neg (fun h => c2 h.2)]
      have q0 := HS.out.c3
      have q2 := HS.out.c1
      have q3 := HS.out.fr 1
      have HS3 := Aside0.mk (HS.out.move (i + 1) hi)
      have HG := Aside0.mk (World.grownBy.trans (grown_of_below HB.out (some X.pb)) (grown_set (w1.alloc (.cells #[.int .i64 2, .int .i64 ta, .int .i64 tn, .string tt] 88)) X.pb 1 (.int .i64 ((i + 1 : Nat) : Int))))
      have z3 : ((w1.alloc (.cells #[.int .i64 2, .int .i64 ta, .int .i64 tn, .string tt] 88)).setCell ⟨X.pb, 1, none⟩ (.int .i64 ((i : Int) + 1))).cell? ⟨w1.heap.size, 2, none⟩ = some (.int .i64 tn) := blk_cell (blk_far BT.out (p := ⟨X.pb, 1, none⟩) (Ne.symm hne) (.int .i64 ((i : Int) + 1))) 2
      clear HS HB BT
      go_wp2_with fail
      go_ret
      exact ⟨rfl, HG.out, HS3.out⟩
  · have t1 : decide (500 < tn) = false := by simpa using c1
    obtain rfl : l' = l := by rw [← HL.out, if_neg (fun h => c1 h.1)]
    have q2 := HS.out.c1
    have q3 := HS.out.fr 1
    have HS3 := Aside0.mk (HS.out.move (i + 1) hi)
    have HG := Aside0.mk (World.grownBy.trans (grown_of_below HB.out (some X.pb)) (grown_set (w1.alloc (.cells #[.int .i64 2, .int .i64 ta, .int .i64 tn, .string tt] 88)) X.pb 1 (.int .i64 ((i + 1 : Nat) : Int))))
    have z3 : ((w1.alloc (.cells #[.int .i64 2, .int .i64 ta, .int .i64 tn, .string tt] 88)).setCell ⟨X.pb, 1, none⟩ (.int .i64 ((i : Int) + 1))).cell? ⟨w1.heap.size, 2, none⟩ = some (.int .i64 tn) := blk_cell (blk_far BT.out (p := ⟨X.pb, 1, none⟩) (Ne.symm hne) (.int .i64 ((i : Int) + 1))) 2
    clear HS HB BT
    go_wp2_with fail
    go_ret
    exact ⟨rfl, HG.out, HS3.out⟩
end Go.Proofs.YtbbopomecanaoaaDoor.A
namespace Go.Proofs.YtbbopomecanaoaaDoor.A
open Go.RowKit Go.Proofs.YtbbopomecanaoaaDoorW.PrintWords Go.Proofs.YtbbopomecanaoaaDoorW.PrintLast Go.Proofs.YtbbopomecanaoaaDoorW.PrintMore Go.Proofs.YtbbopomecanaoaaDoor.XK
open Go.Proofs.YtbbopomecanaoaaDoor
attribute [local go_sem] max2_int min2_int max_two min_two max_three min_three max_four min_four fld1 fld3
set_option linter.unusedVariables false
set_option linter.unusedSimpArgs false
def Post (X : Cx) (w : World) : Res → Ending → World → Prop
  | .ok x i l, e, w' => ∃ v3, e = .returned (.agg #[.int .i64 x.f0, .int .i64 x.f1, .string x.f2, v3]) ∧ Kd.R k24 24 w' w.heap.size (fun k => w.heap.size ≤ k) v3 x.f3 ∧ w.grownBy w' (some X.pb) ∧ PS X w' i l
  | .fail a, e, w' => e = .panicked (wrongE a) ∧ w.grownBy w' (some X.pb)
abbrev RX (w : World) (B : Nat) (ok : Nat → Prop) (v : Value) (xs : List E) : Prop := Kd.R k24 24 w B ok v xs
section
variable {w w1 : World} {v : Value} {xs : List E} {B : Nat} {ok ok' : Nat → Prop}
theorem RX.grown {pb : Nat} (h : RX w B ok v xs) (hg : w.grownBy w1 (some pb)) (hk : ∀ k, ok k → k ≠ pb) : RX w1 B ok v xs := Kd.R_grown h hg (fun k hk' e => hk k hk' (by injection e))
theorem RX.weak (h : RX w B ok v xs) {B' : Nat} (hB : B' ≤ B) (hk : ∀ k, ok k → B ≤ k → k < w.heap.size → ok' k) : RX w B' ok' v xs :=
  Kd.R_lower (Kd.R_mono (Kd.R_bound h) (fun k hk' => hk k hk'.1 hk'.2.1 hk'.2.2.1)) hB
theorem RX.far (h : RX w B ok v xs) {g : Nat} (hk : ∀ k, ok k → k ≠ g) (j : Nat) (u : Value) : RX (w.setCell ⟨g, j, none⟩ u) B ok v xs := Kd.R_far (p := ⟨g, j, none⟩) h hk u
theorem lit1 (hB : B ≤ w.heap.size) (hok : ok w.heap.size) {x : E} {v3 : Value} (hx : RX w B ok v3 x.f3) :
    RX (w.alloc (.cells #[.int .i64 x.f0, .int .i64 x.f1, .string x.f2, v3] 24)) B ok (.slice (some ⟨w.heap.size, 0, none⟩) 1 1) [x] := by
  have hm' := (k24).M_bound (k24_mkM w B ok x hx)
  refine ⟨fun k hk => ?_, ?_⟩
  · have : w.heap.size = k := by simpa [Value.ownBlock] using hk
    subst this
    exact hok
  · have hr : Reps ((k24).M (w.alloc (.cells #[.int .i64 x.f0, .int .i64 x.f1, .string x.f2, v3] 24)) B (fun k => ok k ∧ some k ≠ (Value.slice (some ⟨w.heap.size, 0, none⟩) 1 1).ownBlock)) 4 [x] [.int .i64 x.f0, .int .i64 x.f1, .string x.f2, v3] :=
      (Reps.none _ 4).snoc ((k24).M_mono (fun k hk => ⟨hk.1, by simp [Value.ownBlock]; omega⟩) (Kd.M_below hm' (below_alloc (Below.refl _ _) _))) rfl
    exact OwnRow.lit w B hr hB (by simp)
theorem lit2 (hB : B ≤ w.heap.size) (hok : ok w.heap.size) {x y : E} {v3 u3 : Value} (hx : RX w B ok v3 x.f3) (hy : RX w B ok u3 y.f3) :
    RX (w.alloc (.cells #[.int .i64 x.f0, .int .i64 x.f1, .string x.f2, v3, .int .i64 y.f0, .int .i64 y.f1, .string y.f2, u3] 24)) B ok (.slice (some ⟨w.heap.size, 0, none⟩) 2 2) [x, y] := by
  have hm' := (k24).M_bound (k24_mkM w B ok x hx)
  have hn' := (k24).M_bound (k24_mkM w B ok y hy)
  refine ⟨fun k hk => ?_, ?_⟩
  · have : w.heap.size = k := by simpa [Value.ownBlock] using hk
    subst this
    exact hok
  · have hr : Reps ((k24).M (w.alloc (.cells #[.int .i64 x.f0, .int .i64 x.f1, .string x.f2, v3, .int .i64 y.f0, .int .i64 y.f1, .string y.f2, u3] 24)) B (fun k => ok k ∧ some k ≠ (Value.slice (some ⟨w.heap.size, 0, none⟩) 2 2).ownBlock)) 4 [x, y] [.int .i64 x.f0, .int .i64 x.f1, .string x.f2, v3, .int .i64 y.f0, .int .i64 y.f1, .string y.f2, u3] :=
      ((Reps.none _ 4).snoc ((k24).M_mono (fun k hk => ⟨hk.1, by simp [Value.ownBlock]; omega⟩) (Kd.M_below hm' (below_alloc (Below.refl _ _) _))) rfl).snoc ((k24).M_mono (fun k hk => ⟨hk.1, by simp [Value.ownBlock]; omega⟩) (Kd.M_below hn' (below_alloc (Below.refl _ _) _))) rfl
    exact OwnRow.lit w B hr hB (by simp)
theorem grown_new {row : Option Nat} {g : Nat} (h : w.grownBy w1 row) (hg : w.heap.size ≤ g) (j : Nat) (u : Value) : w.grownBy (w1.setCell ⟨g, j, none⟩ u) row :=
  ⟨h.os, h.tape, h.output, by simp [World.setCell]; exact h.size, fun k hk hne => (Below.heap_setCell w1 ⟨g, j, none⟩ u k (by intro e; have e' : k = g := e; omega)).trans (h.block k hk hne)⟩
theorem PS.far {X : Cx} {w0 : World} {i i0 : Nat} {l l0 : Int} (h : PS X w i l) (h0 : PS X w0 i0 l0) {g : Nat} (hg : w0.heap.size ≤ g) (j : Nat) (u : Value) : PS X (w.setCell ⟨g, j, none⟩ u) i l := by
  have hp := h0.lt
  refine ⟨blk_far h.blk (by show X.pb ≠ g; omega) u, ⟨fun q hq => ?_⟩, h.le, h.few, h.low, h.words⟩
  obtain ⟨ad, e, hb, c0, c1, c2, c3⟩ := h.toks.at_ q hq
  obtain ⟨ad', e', hb', c0', _⟩ := h0.toks.at_ q hq
  obtain rfl : ad' = ad := Option.some.inj (e'.symm.trans e)
  have hlt := World.block_lt_of_cell? w0 _ c0'
  rw [add_block] at hlt
  have hn : ad'.block ≠ g := by omega
  exact ⟨ad', e, hb, cell_grown c0 (grown_set _ _ _ _) (by rw [add_block]; exact hn), cell_grown c1 (grown_set _ _ _ _) (by show (ad'.add _).block ≠ _; rw [add_block]; exact hn), cell_grown c2 (grown_set _ _ _ _) (by show (ad'.add _).block ≠ _; rw [add_block]; exact hn), cell_grown c3 (grown_set _ _ _ _) (by show (ad'.add _).block ≠ _; rw [add_block]; exact hn)⟩
end
def AggF (B : Nat) (ok : Nat → Prop) (y : E) (v : Value) (w : World) : Prop := ∃ A c, v = .agg #[.int .i64 y.f0, .int .i64 y.f1, .string y.f2, .slice A y.f3.length c] ∧ RX w B ok (.slice A y.f3.length c) y.f3
def SlcF (B : Nat) (ok : Nat → Prop) (xs : List E) (v : Value) (w : World) : Prop := ∃ b, v = .slice (some ⟨b, 0, none⟩) xs.length xs.length ∧ RX w B ok v xs
theorem stays_agg (B : Nat) (ok : Nat → Prop) (y : E) : G.Stays (AggF B ok y) := fun v w w' ⟨A, c, e, h⟩ hb => ⟨A, c, e, Kd.R_below h hb⟩
theorem stays_slc (B : Nat) (ok : Nat → Prop) (xs : List E) : G.Stays (SlcF B ok xs) := fun v w w' ⟨b, e, h⟩ hb => ⟨b, e, Kd.R_below h hb⟩
structure OpF (X : Cx) (W : World → Prop) (h : Nat) (caps : Array Value) (op : ByteArray → Int) : Prop where
  calls : ∀ s w, W w → Calls Tryd.prog h (#[.string s] ++ caps) w fun e w' => e = .returned (.int .i64 (op s)) ∧ Below w.heap.size w w'
  ne : ∀ s, op s ≠ 0 → s.toList ≠ []
  stay : ∀ w w', W w → w.grownBy w' (some X.pb) → W w'
structure OpdF (X : Cx) (g : Nat) (opd : Nat → Int → Option Res) : Prop where
  calls : ∀ i l r, opd i l = some r → ∀ w, PS X w i l → Calls Tryd.prog g #[ptr X] w fun e w' => Post X w r e w'
set_option maxRecDepth 100000 in
set_option maxHeartbeats 3000000 in
theorem chain_calls (X : Cx) (W : World → Prop) (g h : Nat) (caps : Array Value) (opd : Nat → Int → Option Res) (op : ByteArray → Int) (hg : OpdF X g opd) (hh : OpF X W h caps op)
    (eg : ∀ (args : Array Value) (w : World), (callFunc g args).run Tryd.prog w = .ok (.enter g args) w) (eh : ∀ (args : Array Value) (w : World), (callFunc h args).run Tryd.prog w = .ok (.enter h args) w)
    (k : Nat) (i : Nat) (l : Int) (r : Res) (hr : chainP X.ts X.en opd op k i l = some r) (w : World) (hw : W w) (hs : PS X w i l) :
    Calls Tryd.prog 82 #[ptr X, .func (.func g) #[ptr X] #[], .func (.func h) #[] caps] w fun e w' => Post X w r e w' := by
  have HS := Aside0.mk hs
  have HS0 := Aside0.mk hs
  have hplt := hs.lt
  have HW := Aside0.mk hw
  have HW0 := Aside0.mk hw
  have HR := Aside0.mk hr
  have HG := Aside0.mk hg
  have HH := Aside0.mk hh
  clear hs hw hr hg hh
  have HB := Aside0.mk (grown_of_below (below_alloc (Below.refl w.heap.size w) (.cells #[.int .i64 0, .int .i64 0, .string (⟨#[]⟩ : ByteArray), .slice none 0 0] 24)) (some X.pb))
  replace HS := Aside0.mk (HS.out.below (below_alloc (Below.refl w.heap.size w) (.cells #[.int .i64 0, .int .i64 0, .string (⟨#[]⟩ : ByteArray), .slice none 0 0] 24)))
  replace HW := Aside0.mk (HH.out.stay _ _ HW.out HB.out)
  go_enter Tryd.func82, Tryd.ntmps82
  go_wp2_with fail
  have hr := HR.out
  unfold chainP at hr
  obtain ⟨r0, hr0⟩ : ∃ r0, opd i l = some r0 := by
    cases ho : opd i l with
    | none => rw [ho] at hr; cases hr
    | some r0 => exact ⟨r0, rfl⟩
  rw [hr0] at hr
  with_reducible refine (HG.out.calls i l r0 hr0 _ HS.out).mono ?_
  clear hr0 HR
  cases r0 with
  | fail a =>
    obtain rfl : Res.fail a = r := Option.some.inj hr
    rintro e w1 ⟨rfl, HB1⟩
    exact ⟨rfl, rfl, World.grownBy.trans HB.out HB1⟩
  | ok x i1 l1 =>
    have HR : Aside0 (chainL X.ts X.en opd op k x i1 l1 = some r) := ⟨hr⟩
    clear hr
    rintro e w1 ⟨v3, rfl, hx, HB1, HS1⟩
    obtain ⟨A3, c3, rfl⟩ := Kd.R_slice hx
    have HO := Aside0.mk (heap_alloc_new w (.cells #[.int .i64 0, .int .i64 0, .string (⟨#[]⟩ : ByteArray), .slice none 0 0] 24))
    have hob : w.heap.size ≠ X.pb := by
      intro e
      have h1 := HS.out.blk
      rw [← e, HO.out] at h1
      cases h1
    have hlo : w.heap.size < w1.heap.size := by have := HB1.size; simp at this; omega
    replace HO := Aside0.mk ((HB1.block _ (by rw [World.size_alloc]; omega) (by intro e; injection e with e; exact hob e)).trans HO.out)
    replace HW := Aside0.mk (HH.out.stay _ _ HW.out HB1)
    replace HB := Aside0.mk (World.grownBy.trans HB.out HB1)
    have HA1 := below_alloc (Below.refl w1.heap.size w1) (.cells #[.int .i64 x.f0, .int .i64 x.f1, .string x.f2, .slice A3 x.f3.length c3] 24)
    have BX := Aside0.mk (heap_alloc_new w1 (.cells #[.int .i64 x.f0, .int .i64 x.f1, .string x.f2, .slice A3 x.f3.length c3] 24))
    have hxp : w1.heap.size ≠ X.pb := by have := HS1.lt; omega
    replace HS := Aside0.mk (HS1.below HA1)
    replace HW := Aside0.mk (HH.out.stay _ _ HW.out (grown_of_below HA1 _))
    replace HB := Aside0.mk (World.grownBy.trans HB.out (grown_of_below HA1 _))
    replace HO := Aside0.mk (blk_below HO.out HA1)
    have HX : Aside0 (RX (w1.alloc (.cells #[.int .i64 x.f0, .int .i64 x.f1, .string x.f2, .slice A3 x.f3.length c3] 24)) w.heap.size (fun k => w.heap.size ≤ k ∧ k ≠ w.heap.size ∧ k ≠ w1.heap.size) (.slice A3 x.f3.length c3) x.f3) := ⟨by
      refine RX.grown (pb := X.pb) (RX.weak (ok := fun k => (w.alloc (.cells #[.int .i64 0, .int .i64 0, .string (⟨#[]⟩ : ByteArray), .slice none 0 0] 24)).heap.size ≤ k) hx (by rw [World.size_alloc]; omega) ?_) (grown_of_below HA1 _) (fun k hk => by have := hk.1; omega)
      intro k h1 h2 h3
      rw [World.size_alloc] at h1
      exact ⟨by omega, by omega, by omega⟩⟩
    clear HA1 HS1 HB1 hx
    go_wp2_with fail
    generalize w1.alloc (.cells #[.int .i64 x.f0, .int .i64 x.f1, .string x.f2, .slice A3 x.f3.length c3] 24) = W1 at *
    generalize w1.heap.size = xb at *
    obtain ⟨ob, hob'⟩ : ∃ ob, w.heap.size = ob := ⟨_, rfl⟩
    have hob1 : w.heap.size ≤ ob := by omega
    have HX : Aside0 (RX W1 w.heap.size (fun k => w.heap.size ≤ k ∧ k ≠ ob ∧ k ≠ xb) (.slice A3 x.f3.length c3) x.f3) := ⟨by rw [← hob']; exact HX.out⟩
    rw [hob'] at HO hob hlo ⊢
    clear hob'
    go_loopg [8] k (fun gk o wr => ∃ x A3 c3 i l, Aside0 (chainL X.ts X.en opd op gk x i l = some r) ∧ Aside0 (wr.heap[xb]? = some (.cells #[.int .i64 x.f0, .int .i64 x.f1, .string x.f2, .slice A3 x.f3.length c3] 24 (0, 0))) ∧ Aside0 (RX wr w.heap.size (fun k => w.heap.size ≤ k ∧ k ≠ ob ∧ k ≠ xb) (.slice A3 x.f3.length c3) x.f3) ∧ Aside0 (wr.heap[ob]? = some (.cells #[.int .i64 0, .int .i64 0, .string (⟨#[]⟩ : ByteArray), .slice none 0 0] 24 (0, 0))) ∧ Aside0 (w.grownBy wr (some X.pb)) ∧ Aside0 (PS X wr i l) ∧ Aside0 (W wr))
    case atStart => exact ⟨x, A3, c3, i1, l1, HR, BX, HX, HO, HB, HS, HW⟩
    case round =>
      clear HR BX HX HO HB HS HW
      obtain ⟨x, A3, c3, i, l, HR, BX, HX, HO, HB, HS, HW⟩ := hrel
      obtain ⟨gk, rfl⟩ : ∃ m, gk = m + 1 := by
        cases gk with
        | zero => have := HR.out; simp [chainL] at this
        | succ m => exact ⟨m, rfl⟩
      have hr := HR.out
      rw [chainL] at hr
      clear HR
      obtain ⟨tk, ta, tn, tt, hpk⟩ := pk_open X i
      rw [hpk] at hr
      dsimp only at hr
      have HPK := Aside0.mk hpk
      clear hpk
      have hgs := HB.out.size
      go_wp2_with fail
      with_reducible refine (peek_is HPK.out HS.out).mono ?_
      rintro e w2 ⟨rfl, HB1⟩
      have hg1 := grown_of_below HB1 (some X.pb)
      replace HS := Aside0.mk (HS.out.below HB1)
      replace HW := Aside0.mk (HH.out.stay _ _ HW.out hg1)
      replace HB := Aside0.mk (World.grownBy.trans HB.out hg1)
      replace BX := Aside0.mk (blk_below BX.out HB1)
      replace HO := Aside0.mk (blk_below HO.out HB1)
      replace HX := Aside0.mk (HX.out.grown hg1 (fun k hk => by have := hk.1; omega))
      clear HB1 hg1
      have HH1 := Aside0.mk (HH.out.calls tt w2 HW.out)
      have hne := HH.out.ne tt
      generalize op tt = o at *
      go_wp2_with fail
      with_reducible refine HH1.out.mono ?_
      rintro e w3 ⟨rfl, HB1⟩
      have hg1 := grown_of_below HB1 (some X.pb)
      replace HS := Aside0.mk (HS.out.below HB1)
      replace HW := Aside0.mk (HH.out.stay _ _ HW.out hg1)
      replace HB := Aside0.mk (World.grownBy.trans HB.out hg1)
      replace BX := Aside0.mk (blk_below BX.out HB1)
      replace HO := Aside0.mk (blk_below HO.out HB1)
      replace HX := Aside0.mk (HX.out.grown hg1 (fun k hk => by have := hk.1; omega))
      clear HB1 hg1 HH1
      by_cases ho : o = 0
      · subst ho
        rw [if_pos rfl] at hr
        obtain rfl : Res.ok x i l = r := Option.some.inj hr
        clear hr hne
        have x0 := blk_cell BX.out 0
        have x1 := blk_cell BX.out 1
        have x2 := blk_cell BX.out 2
        have x3 := blk_cell BX.out 3
        have o0 := blk_cell HO.out 0
        have o1 := blk_cell HO.out 1
        have o2 := blk_cell HO.out 2
        have o3 := blk_cell HO.out 3
        have f0 := blk_frozen HO.out 0
        have f1 := blk_frozen HO.out 1
        have f2 := blk_frozen HO.out 2
        have f3 := blk_frozen HO.out 3
        simp at x0 x1 x2 x3 o0 o1 o2 o3
        have hB' := grown_new (grown_new (grown_new (grown_new HB.out hob1 0 (.int .i64 x.f0)) hob1 1 (.int .i64 x.f1)) hob1 2 (.string x.f2)) hob1 3 (.slice A3 x.f3.length c3)
        have hS' := (((HS.out.far HS0.out hob1 0 (.int .i64 x.f0)).far HS0.out hob1 1 (.int .i64 x.f1)).far HS0.out hob1 2 (.string x.f2)).far HS0.out hob1 3 (.slice A3 x.f3.length c3)
        have hX' := (((HX.out.far (g := ob) (fun k hk => hk.2.1) 0 (.int .i64 x.f0)).far (g := ob) (fun k hk => hk.2.1) 1 (.int .i64 x.f1)).far (g := ob) (fun k hk => hk.2.1) 2 (.string x.f2)).far (g := ob) (fun k hk => hk.2.1) 3 (.slice A3 x.f3.length c3)
        have HZ := Aside0.mk (blk_put (blk_put (blk_put (blk_put HO.out 0 (.int .i64 x.f0) rfl) 1 (.int .i64 x.f1) rfl) 2 (.string x.f2) rfl) 3 (.slice A3 x.f3.length c3) (cs' := #[.int .i64 x.f0, .int .i64 x.f1, .string x.f2, .slice A3 x.f3.length c3]) rfl)
        have HE := Aside0.mk (And.intro hX' (And.intro hB' hS'))
        clear hB' hS' hX'
        go_wp2_with fail
        obtain ⟨hX', hB', hS'⟩ := HE.out
        refine bodyPost_ret (v := .agg #[.int .i64 x.f0, .int .i64 x.f1, .string x.f2, .slice A3 x.f3.length c3]) ?_ rfl ⟨_, rfl, hX'.weak (Nat.le_refl _) (fun k h1 h2 h3 => h1.1), hB', hS'⟩
        clear x0 x1 x2 x3 o0 o1 o2 o3 f0 f1 f2 f3
        have o0 := blk_cell HZ.out 0
        have o1 := blk_cell HZ.out 1
        have o2 := blk_cell HZ.out 2
        have o3 := blk_cell HZ.out 3
        simp at o0 o1 o2 o3
        simp [results, Tryd.results82, go_sem, o0, o1, o2, o3]
      · rw [if_neg ho] at hr
        have hi1 := HS.out.word (by rw [HPK.out]; exact hne ho)
        have p0 := HS.out.c1
        have p1 := HS.out.fr 1
        have hfew := HS.out.few
        have hle := HS.out.le
        have hgs1 := grown_set w3 X.pb 1 (.int .i64 ((i + 1 : Nat) : Int))
        have HX1 := Aside0.mk (HX.out.grown hgs1 (fun k hk => by have := hk.1; omega))
        have HS1 := Aside0.mk (HS.out.move (i + 1) hi1)
        have HW1 := Aside0.mk (HH.out.stay _ _ HW.out hgs1)
        have HB1 := Aside0.mk (World.grownBy.trans HB.out hgs1)
        have BX1 := Aside0.mk (blk_far (p := ⟨X.pb, 1, none⟩) BX.out hxp (.int .i64 ((i + 1 : Nat) : Int)))
        have HO1 := Aside0.mk (blk_far (p := ⟨X.pb, 1, none⟩) HO.out hob (.int .i64 ((i + 1 : Nat) : Int)))
        clear hgs1 HX HS HW HB BX HO hne HPK hi1
        go_wp2_with fail
        clear p0 p1
        rw [show ((i : Int) + 1) = ((i + 1 : Nat) : Int) by omega]
        generalize w3.setCell ⟨X.pb, 1, none⟩ (.int .i64 ((i + 1 : Nat) : Int)) = W5 at *
        obtain ⟨r1, hr1⟩ : ∃ r1, opd (i + 1) l = some r1 := by
          cases ho : opd (i + 1) l with
          | none => rw [ho] at hr; cases hr
          | some r1 => exact ⟨r1, rfl⟩
        rw [hr1] at hr
        have HR1 := Aside0.mk hr1
        clear hr1
        cases r1 with
        | fail a =>
          obtain rfl : Res.fail a = r := Option.some.inj hr
          clear hr
          refine GK.plainK (m := 6) (n := 7) (t := 1) (s := 3) (row := some X.pb) (R := fun _ => True) [some 26, some 27, some 28, some 29, some 30, some 31, none] [G.Is (.int .i64 o), G.Is (.agg #[.int .i64 x.f0, .int .i64 x.f1, .string x.f2, .slice A3 x.f3.length c3]), G.Is (.func (.func g) #[ptr X] #[]), fun _ _ => False, fun _ _ => False, fun _ _ => False] (by kernel_rfl) (by kernel_rfl) (by kernel_rfl) (by kernel_rfl) (by rfl) (by decide) (G.allB_succ (G.allB_succ (G.allB_succ (G.allB_succ (G.allB_succ (G.allB_succ G.allB_zero ?c0) ?c1) ?c2) (fun h => absurd rfl h)) ?c4) ?c5) ?sp (fun _ _ _ _ => trivial) ⟨G.stays_eq _, G.stays_eq _, G.stays_eq _, GK.stays_false, GK.stays_false, GK.stays_false, trivial⟩ (G.allB_succ (G.allB_succ (G.allB_succ (G.allB_succ (G.allB_succ (G.allB_succ G.allB_zero (.inr fun _ _ _ h => h)) (.inr fun _ _ _ h => h)) (.inr fun _ _ _ h => h)) (.inl (by kernel_rfl))) (.inl (by kernel_rfl))) (.inl (by kernel_rfl))) ?tl
          case c0 =>
            intro his
            refine GK.core_oblK (o := _) (N := some 26) rfl rfl ?_
            intro x' a' ha w' hI hF K hK
            simp only [G.putAll, Act.put, List.setIfInBounds_toArray, List.set_cons_zero, List.set_cons_succ, Nat.reduceAdd] at ha
            subst ha
            refine value_ (w1 := ?_) (v := ?_) (by rfl) rfl ?_ ?_
            rotate_left 2
            · go_simp
              constructor
              · rfl
              · rfl
            refine hK.out _ _ (Below.refl _ _) ?_
            change _ = _
            with_reducible rfl
          case c1 =>
            intro his
            refine GK.core_oblK (o := _) (N := some 27) rfl rfl ?_
            intro x' a' ha w' hI hF K hK
            simp only [G.putAll, Act.put, List.setIfInBounds_toArray, List.set_cons_zero, List.set_cons_succ, Nat.reduceAdd] at ha
            subst ha
            have x0 := cell_grown (blk_cell BX1.out 0) hI hxp
            have x1 := cell_grown (blk_cell BX1.out 1) hI hxp
            have x2 := cell_grown (blk_cell BX1.out 2) hI hxp
            have x3 := cell_grown (blk_cell BX1.out 3) hI hxp
            refine value_ (w1 := ?_) (v := ?_) (by rfl) rfl ?_ ?_
            rotate_left 2
            · go_simp
              constructor
              · rfl
              · rfl
            refine hK.out _ _ (Below.refl _ _) ?_
            change _ = _
            with_reducible rfl
          case c2 =>
            intro his
            refine GK.core_oblK (o := _) (N := some 28) rfl rfl ?_
            intro x' a' ha w' hI hF K hK
            simp only [G.putAll, Act.put, List.setIfInBounds_toArray, List.set_cons_zero, List.set_cons_succ, Nat.reduceAdd] at ha
            subst ha
            refine value_ (w1 := ?_) (v := ?_) (by rfl) rfl ?_ ?_
            rotate_left 2
            · go_simp
              constructor
              · rfl
              · rfl
            refine hK.out _ _ (Below.refl _ _) ?_
            change _ = _
            with_reducible rfl
          case c4 =>
            intro his
            refine GK.core_oblK (o := _) (N := some 30) rfl rfl ?_
            intro x' a' ha w' hI hF K hK
            exact (hF 3 (by kernel_rfl)).elim
          case c5 =>
            intro his
            refine GK.core_oblK (o := _) (N := some 31) rfl rfl ?_
            intro x' a' ha w' hI hF K hK
            exact (hF 4 (by kernel_rfl)).elim
          case sp =>
            refine GK.spec_oblK (o := _) (N := some 29) rfl rfl ?_
            intro x' a' ha w' hI hF K hK
            have s2 : x' 2 = _ := hF 2 (by kernel_rfl)
            simp only [G.putAll, Act.put, List.setIfInBounds_toArray, List.set_cons_zero, List.set_cons_succ, Nat.reduceAdd, s2] at ha
            subst ha
            refine GK.enterK g #[ptr X] (by rfl) rfl ?_ ?_
            · go_simp
            · with_reducible refine (HG.out.calls (i + 1) l _ HR1.out _ (HS1.out.below hI)).mono ?_
              rintro e w3 ⟨rfl, HB'⟩
              exact ⟨rfl, rfl, World.grownBy.trans HB1.out (World.grownBy.trans (grown_of_below hI (some X.pb)) HB')⟩
          case tl =>
            intro x' w' hI hR hF
            exact (hF 3 (by omega)).elim
        | ok y i' l' =>
          have HR : Aside0 (chainL X.ts X.en opd op gk ⟨o, 0, ⟨#[]⟩, [x, y]⟩ i' l' = some r) := ⟨hr⟩
          clear hr
          refine GK.plainK (m := 6) (n := 7) (t := 1) (s := 3) (row := some X.pb) (R := fun w' => PS X w' i' l') [some 26, some 27, some 28, some 29, some 30, some 31, none] [G.Is (.int .i64 o), G.Is (.agg #[.int .i64 x.f0, .int .i64 x.f1, .string x.f2, .slice A3 x.f3.length c3]), G.Is (.func (.func g) #[ptr X] #[]), AggF w.heap.size (fun k => w.heap.size ≤ k ∧ k ≠ ob ∧ k ≠ xb) y, SlcF w.heap.size (fun k => w.heap.size ≤ k ∧ k ≠ ob ∧ k ≠ xb) [x, y], AggF w.heap.size (fun k => w.heap.size ≤ k ∧ k ≠ ob ∧ k ≠ xb) ⟨o, 0, ⟨#[]⟩, [x, y]⟩] (by kernel_rfl) (by kernel_rfl) (by kernel_rfl) (by kernel_rfl) (by rfl) (by decide) (G.allB_succ (G.allB_succ (G.allB_succ (G.allB_succ (G.allB_succ (G.allB_succ G.allB_zero ?c0) ?c1) ?c2) (fun h => absurd rfl h)) ?c4) ?c5) ?sp (fun _ _ h hb => h.below hb) ⟨G.stays_eq _, G.stays_eq _, G.stays_eq _, stays_agg _ _ _, stays_slc _ _ _, stays_agg _ _ _, trivial⟩ (G.allB_succ (G.allB_succ (G.allB_succ (G.allB_succ (G.allB_succ (G.allB_succ G.allB_zero (.inr fun _ _ _ h => h)) (.inr fun _ _ _ h => h)) (.inr fun _ _ _ h => h)) (.inl (by kernel_rfl))) (.inl (by kernel_rfl))) (.inl (by kernel_rfl))) ?tl
          case c0 =>
            intro his
            refine GK.core_oblK (o := _) (N := some 26) rfl rfl ?_
            intro x' a' ha w' hI hF K hK
            simp only [G.putAll, Act.put, List.setIfInBounds_toArray, List.set_cons_zero, List.set_cons_succ, Nat.reduceAdd] at ha
            subst ha
            refine value_ (w1 := ?_) (v := ?_) (by rfl) rfl ?_ ?_
            rotate_left 2
            · go_simp
              constructor
              · rfl
              · rfl
            refine hK.out _ _ (Below.refl _ _) ?_
            change _ = _
            with_reducible rfl
          case c1 =>
            intro his
            refine GK.core_oblK (o := _) (N := some 27) rfl rfl ?_
            intro x' a' ha w' hI hF K hK
            simp only [G.putAll, Act.put, List.setIfInBounds_toArray, List.set_cons_zero, List.set_cons_succ, Nat.reduceAdd] at ha
            subst ha
            have x0 := cell_grown (blk_cell BX1.out 0) hI hxp
            have x1 := cell_grown (blk_cell BX1.out 1) hI hxp
            have x2 := cell_grown (blk_cell BX1.out 2) hI hxp
            have x3 := cell_grown (blk_cell BX1.out 3) hI hxp
            refine value_ (w1 := ?_) (v := ?_) (by rfl) rfl ?_ ?_
            rotate_left 2
            · go_simp
              constructor
              · rfl
              · rfl
            refine hK.out _ _ (Below.refl _ _) ?_
            change _ = _
            with_reducible rfl
          case c2 =>
            intro his
            refine GK.core_oblK (o := _) (N := some 28) rfl rfl ?_
            intro x' a' ha w' hI hF K hK
            simp only [G.putAll, Act.put, List.setIfInBounds_toArray, List.set_cons_zero, List.set_cons_succ, Nat.reduceAdd] at ha
            subst ha
            refine value_ (w1 := ?_) (v := ?_) (by rfl) rfl ?_ ?_
            rotate_left 2
            · go_simp
              constructor
              · rfl
              · rfl
            refine hK.out _ _ (Below.refl _ _) ?_
            change _ = _
            with_reducible rfl
          case c4 =>
            intro his
            refine GK.core_oblK (o := _) (N := some 30) rfl rfl ?_
            intro x' a' ha w' hI hF K hK
            have s1 : x' 1 = _ := hF 1 (by kernel_rfl)
            obtain ⟨A4, c4, s3, hy⟩ := (hF 3 (by kernel_rfl) : AggF _ _ y (x' 3) w')
            simp only [G.putAll, Act.put, List.setIfInBounds_toArray, List.set_cons_zero, List.set_cons_succ, Nat.reduceAdd, s1, s3] at ha
            subst ha
            refine value_ (w1 := ?_) (v := ?_) (by rfl) rfl ?_ ?_
            rotate_left 2
            · go_simp
              constructor
              · rfl
              · rfl
            refine hK.out _ _ (below_alloc (Below.refl _ _) _) ?_
            exact ⟨_, rfl, lit2 (by have := hI.size; have := HB1.out.size; omega) ⟨by have := hI.size; have := HB1.out.size; omega, by have := hI.size; have := blk_lt HO1.out; omega, by have := hI.size; have := blk_lt BX1.out; omega⟩ (HX1.out.grown hI (fun k hk => by have := hk.1; omega)) hy⟩
          case c5 =>
            intro his
            refine GK.core_oblK (o := _) (N := some 31) rfl rfl ?_
            intro x' a' ha w' hI hF K hK
            have s0 : x' 0 = _ := hF 0 (by kernel_rfl)
            obtain ⟨b4, s4, hz⟩ := (hF 4 (by kernel_rfl) : SlcF _ _ [x, y] (x' 4) w'); rw [s4] at hz
            simp only [G.putAll, Act.put, List.setIfInBounds_toArray, List.set_cons_zero, List.set_cons_succ, Nat.reduceAdd, s0, s4] at ha
            subst ha
            refine value_ (w1 := ?_) (v := ?_) (by rfl) rfl ?_ ?_
            rotate_left 2
            · go_simp
              constructor
              · rfl
              · rfl
            refine hK.out _ _ (Below.refl _ _) ?_
            exact ⟨_, _, rfl, hz⟩
          case sp =>
            refine GK.spec_oblK (o := _) (N := some 29) rfl rfl ?_
            intro x' a' ha w' hI hF K hK
            have s2 : x' 2 = _ := hF 2 (by kernel_rfl)
            simp only [G.putAll, Act.put, List.setIfInBounds_toArray, List.set_cons_zero, List.set_cons_succ, Nat.reduceAdd, s2] at ha
            subst ha
            refine GK.enterK g #[ptr X] (by rfl) rfl ?_ ?_
            · go_simp
            · with_reducible refine (HG.out.calls (i + 1) l _ HR1.out _ (HS1.out.below hI)).mono ?_
              rintro e w3 ⟨v3, rfl, hy, HB', HS'⟩
              obtain ⟨A4, c4, rfl⟩ := Kd.R_slice hy
              have hz := hI.size
              have hz2 := HB1.out.size
              refine hK.out _ _ HB' HS' ⟨A4, c4, rfl, RX.weak (ok := fun k => w'.heap.size ≤ k) hy (by omega) (fun k h1 h2 h3 => ⟨by omega, by have := blk_lt HO1.out; omega, by have := blk_lt BX1.out; omega⟩)⟩
          case tl =>
            intro x' w' hI HS5 hF
            have s0 : x' 0 = _ := hF 0 (by omega)
            have s1 : x' 1 = _ := hF 1 (by omega)
            have s2 : x' 2 = _ := hF 2 (by omega)
            obtain ⟨A4, c4, s3, _⟩ := (hF 3 (by omega) : AggF _ _ y (x' 3) w')
            obtain ⟨b4, s4, _⟩ := (hF 4 (by omega) : SlcF _ _ [x, y] (x' 4) w')
            obtain ⟨A5, c5, s5, hz⟩ := (hF 5 (by omega) : AggF _ _ ⟨o, 0, ⟨#[]⟩, [x, y]⟩ (x' 5) w')
            clear hF
            refine G.tail_succ (i := 6) (o := _) (N := none) (by rfl) rfl rfl ?_
            intro a' ha K hK
            simp (decide := true) only [G.putAll, Act.put, List.setIfInBounds_toArray, List.set_cons_zero, List.set_cons_succ, Nat.reduceAdd, G.upd, if_true, if_false, ↓reduceIte, s0, s1, s2, s3, s4, s5] at ha
            subst ha
            have BX2 := Aside0.mk ((hI.block xb (blk_lt BX1.out) (by intro e; injection e with e; exact hxp e)).trans BX1.out)
            have HO2 := Aside0.mk ((hI.block ob (blk_lt HO1.out) (by intro e; injection e with e; exact hob e)).trans HO1.out)
            have x0 := blk_cell BX2.out 0
            have x1 := blk_cell BX2.out 1
            have x2 := blk_cell BX2.out 2
            have x3 := blk_cell BX2.out 3
            simp at x0 x1 x2 x3
            have f0 := blk_frozen BX2.out 0
            have f1 := blk_frozen BX2.out 1
            have f2 := blk_frozen BX2.out 2
            have f3 := blk_frozen BX2.out 3
            refine skip_ (w1 := ?_) (by rfl) rfl ?_ ?_
            rotate_left
            · go_simp
              rfl
            refine hK.out undef _ ?_
            clear hK K x0 x1 x2 x3 f0 f1 f2 f3
            refine G.tail_zero ?_
            intro a' ha
            simp (decide := true) only [G.putAll, Act.put, List.setIfInBounds_toArray, List.set_cons_zero, List.set_cons_succ, Nat.reduceAdd, G.upd, if_true, if_false, ↓reduceIte, s0, s1, s2, s3, s4, s5] at ha
            subst ha
            clear s0 s1 s2 s3 s4 s5
            have hxb1 : w.heap.size ≤ xb := by omega
            have HB2 := Aside0.mk (grown_new (grown_new (grown_new (grown_new (World.grownBy.trans HB1.out hI) hxb1 0 (.int .i64 o)) hxb1 1 (.int .i64 0)) hxb1 2 (.string (⟨#[]⟩ : ByteArray))) hxb1 3 (.slice A5 2 c5))
            have HS2 := Aside0.mk ((((HS5.far HS0.out hxb1 0 (.int .i64 o)).far HS0.out hxb1 1 (.int .i64 0)).far HS0.out hxb1 2 (.string (⟨#[]⟩ : ByteArray))).far HS0.out hxb1 3 (.slice A5 2 c5))
            have HX2 := Aside0.mk (((((show RX w' w.heap.size (fun k => w.heap.size ≤ k ∧ k ≠ ob ∧ k ≠ xb) (.slice A5 2 c5) [x, y] from hz).far (g := xb) (fun k hk => hk.2.2) 0 (.int .i64 o)).far (g := xb) (fun k hk => hk.2.2) 1 (.int .i64 0)).far (g := xb) (fun k hk => hk.2.2) 2 (.string (⟨#[]⟩ : ByteArray))).far (g := xb) (fun k hk => hk.2.2) 3 (.slice A5 2 c5))
            have BX3 := Aside0.mk (blk_put (blk_put (blk_put (blk_put BX2.out 0 (.int .i64 o) rfl) 1 (.int .i64 0) rfl) 2 (.string (⟨#[]⟩ : ByteArray)) rfl) 3 (.slice A5 2 c5) (cs' := #[.int .i64 o, .int .i64 0, .string (⟨#[]⟩ : ByteArray), .slice A5 2 c5]) rfl)
            have HO3 := Aside0.mk (blk_far (p := ⟨xb, 3, none⟩) (blk_far (p := ⟨xb, 2, none⟩) (blk_far (p := ⟨xb, 1, none⟩) (blk_far (p := ⟨xb, 0, none⟩) HO2.out (show ob ≠ xb by omega) (.int .i64 o)) (show ob ≠ xb by omega) (.int .i64 0)) (show ob ≠ xb by omega) (.string (⟨#[]⟩ : ByteArray))) (show ob ≠ xb by omega) (.slice A5 2 c5))
            have HW2 := Aside0.mk (HH.out.stay _ _ HW0.out HB2.out)
            clear HS5 hz BX2 HO2 hI
            go_wp2_with fail
            go_roundg gk
            case measure => omega
            case rel => exact ⟨⟨o, 0, ⟨#[]⟩, [x, y]⟩, A5, c5, i', l', HR, BX3, HX2, HO3, HB2, HS2, HW2⟩
end Go.Proofs.YtbbopomecanaoaaDoor.A
namespace Go.Proofs.YtbbopomecanaoaaDoor.A
open Go.RowKit Go.Proofs.YtbbopomecanaoaaDoorW.PrintWords Go.Proofs.YtbbopomecanaoaaDoorW.PrintLast Go.Proofs.YtbbopomecanaoaaDoorW.PrintMore Go.Proofs.YtbbopomecanaoaaDoor.XK
open Go.Proofs.YtbbopomecanaoaaDoor
attribute [local go_sem] max2_int min2_int max_two min_two max_three min_three max_four min_four fld1 fld3
set_option linter.unusedVariables false
set_option linter.unusedSimpArgs false
abbrev zE : Array Value := #[.int .i64 0, .int .i64 0, .string (⟨#[]⟩ : ByteArray), .slice none 0 0]
abbrev cE (x : E) (v : Value) : Array Value := #[.int .i64 x.f0, .int .i64 x.f1, .string x.f2, v]
abbrev put4 (w : World) (g : Nat) (a b c d : Value) : World := (((w.setCell ⟨g, 0, none⟩ a).setCell ⟨g, 1, none⟩ b).setCell ⟨g, 2, none⟩ c).setCell ⟨g, 3, none⟩ d
theorem put4_blk {w : World} {g : Nat} {a' b' c' d' : Value} {T : TypeId} (h : w.heap[g]? = some (.cells #[a', b', c', d'] T (0, 0))) (a b c d : Value) : (put4 w g a b c d).heap[g]? = some (.cells #[a, b, c, d] T (0, 0)) :=
  blk_put (blk_put (blk_put (blk_put h 0 a rfl) 1 b rfl) 2 c rfl) 3 d rfl
theorem Post.laid {X : Cx} {w w1 : World} {i0 i : Nat} {l0 l : Int} {x : E} {v : Value} {g : Nat} (h0 : PS X w i0 l0) (hg : w.heap.size ≤ g) (hB : w.grownBy w1 (some X.pb)) (hS : PS X w1 i l) (hX : RX w1 w.heap.size (fun k => w.heap.size ≤ k ∧ k ≠ g) v x.f3) (a b c d : Value) :
    Post X w (.ok x i l) (.returned (.agg (cE x v))) (put4 w1 g a b c d) :=
  ⟨v, rfl, RX.weak ((((hX.far (g := g) (fun k hk => hk.2) 0 a).far (g := g) (fun k hk => hk.2) 1 b).far (g := g) (fun k hk => hk.2) 2 c).far (g := g) (fun k hk => hk.2) 3 d) (Nat.le_refl _) (fun k h1 _ _ => h1.1),
   grown_new (grown_new (grown_new (grown_new hB hg 0 a) hg 1 b) hg 2 c) hg 3 d, (((hS.far h0 hg 0 a).far h0 hg 1 b).far h0 hg 2 c).far h0 hg 3 d⟩
theorem RX.of_post {w w2 w3 : World} {v : Value} {xs : List E} {g : Nat} (h : RX w3 w2.heap.size (fun k => w2.heap.size ≤ k) v xs) (hg : w.heap.size ≤ g) (hlt : g < w2.heap.size) : RX w3 w.heap.size (fun k => w.heap.size ≤ k ∧ k ≠ g) v xs :=
  RX.weak (ok := fun k => w2.heap.size ≤ k) h (by omega) (fun k h1 _ _ => ⟨by omega, by omega⟩)
theorem makeFunc_run (fn : Fn) (first cap : Array Value) (w : World) : (Instr.makeFunc fn first cap).run Tryd.prog w = .ok (.func fn first cap) w := rfl
set_option maxRecDepth 100000 in
set_option maxHeartbeats 1000000 in
theorem only_calls (t : ByteArray) (op : Int) (w : World) : Calls Tryd.prog 84 #[.string t, .int .i64 op] w fun e w' =>
    e = .returned (.func (.func 94) #[] #[.pointer (some ⟨w.heap.size, 0, none⟩), .pointer (some ⟨w.heap.size + 1, 0, none⟩)]) ∧ w' = (w.alloc (.cells #[.string t] 9)).alloc (.cells #[.int .i64 op] 3) := by
  have hmf := makeFunc_run
  go_enter Tryd.func84, Tryd.ntmps84
  go_wp2_with fail
  go_ret
  exact ⟨rfl, rfl⟩
structure OnlyW (X : Cx) (b1 b2 : Nat) (t : ByteArray) (op : Int) (w : World) : Prop where
  c1 : w.cell? ⟨b1, 0, none⟩ = some (.string t)
  c2 : w.cell? ⟨b2, 0, none⟩ = some (.int .i64 op)
  n1 : b1 ≠ X.pb
  n2 : b2 ≠ X.pb
theorem OnlyW.made {X : Cx} {w : World} (hp : X.pb < w.heap.size) (t : ByteArray) (op : Int) : OnlyW X w.heap.size (w.heap.size + 1) t op ((w.alloc (.cells #[.string t] 9)).alloc (.cells #[.int .i64 op] 3)) :=
  ⟨(blk_cell (blk_alloc (heap_alloc_new w (.cells #[.string t] 9)) (.cells #[.int .i64 op] 3)) 0).trans rfl, by
    have h := (blk_cell (heap_alloc_new (w.alloc (.cells #[.string t] 9)) (.cells #[.int .i64 op] 3)) 0).trans (show (#[Value.int .i64 op] : Array Value)[0]? = some (.int .i64 op) from rfl)
    rwa [World.size_alloc] at h, by omega, by omega⟩
set_option maxRecDepth 100000 in
set_option maxHeartbeats 1000000 in
theorem only1_calls (X : Cx) (b1 b2 : Nat) (t : ByteArray) (op : Int) (s : ByteArray) (w : World) (h : OnlyW X b1 b2 t op w) :
    Calls Tryd.prog 94 #[.string s, .pointer (some ⟨b1, 0, none⟩), .pointer (some ⟨b2, 0, none⟩)] w fun e w' => e = .returned (.int .i64 (onlyOp t.toList op s)) ∧ Below w.heap.size w w' := by
  have q1 := h.c1
  have q2 := h.c2
  clear h
  by_cases hs : s.toList = t.toList
  · have t0 : (s.toList == t.toList) = true := by simpa using hs
    have e : onlyOp t.toList op s = op := by unfold onlyOp; rw [if_pos hs]
    rw [e]
    clear e hs
    go_enter Tryd.func94, Tryd.ntmps94
    go_wp2_with fail
    go_ret
    exact ⟨rfl, Below.refl _ _⟩
  · have t0 : (s.toList == t.toList) = false := by simpa using hs
    have e : onlyOp t.toList op s = 0 := by unfold onlyOp; rw [if_neg hs]
    rw [e]
    clear e hs
    go_enter Tryd.func94, Tryd.ntmps94
    go_wp2_with fail
    go_ret
    exact ⟨rfl, Below.refl _ _⟩
theorem bs_list (l : List UInt8) : (bs l).toList = l := by rw [ByteArray.toList_eq]
theorem only_opF (X : Cx) (b1 b2 : Nat) (t : ByteArray) (op : Int) (l : List UInt8) (hl : t.toList = l) (ht : l ≠ []) : OpF X (OnlyW X b1 b2 t op) 94 #[.pointer (some ⟨b1, 0, none⟩), .pointer (some ⟨b2, 0, none⟩)] (onlyOp l op) := by
  subst hl
  exact ⟨fun s w h => only1_calls X b1 b2 t op s w h, fun s hs h => hs (by unfold onlyOp; rw [if_neg (fun e => ht (e.symm.trans h))]),
   fun w w' h hg => ⟨cell_grown h.c1 hg h.n1, cell_grown h.c2 hg h.n2, h.n1, h.n2⟩⟩
theorem eOf (g : Nat) {fn : Func} (hf : Tryd.prog.funcs[g]? = some fn) (hn : (fn.name == "runtime.NumGoroutine") = false) (hb : fn.body.isSome = true) (args : Array Value) (w : World) : (callFunc g args).run Tryd.prog w = .ok (.enter g args) w := enters_ hf hn hb args w
set_option maxRecDepth 100000 in
set_option maxHeartbeats 3000000 in
theorem expr_calls (X : Cx) (k : Nat) (opd : Nat → Int → Option Res) (hg : OpdF X 83 opd) : OpdF X 61 (chainP X.ts X.en opd (onlyOp [111, 114] 6) k) := ⟨fun i l r hr w hs => by
  have HS := Aside0.mk hs
  have HS0 := Aside0.mk hs
  have hplt := hs.lt
  have HR := Aside0.mk hr
  have HG := Aside0.mk hg
  clear hs hr hg
  have hmf := makeFunc_run
  go_enter Tryd.func61, Tryd.ntmps61
  go_wp2_with fail
  with_reducible refine (only_calls _ _ _).mono ?_
  rintro e w1 ⟨rfl, rfl⟩
  go_wp2_with fail
  have HA := Aside0.mk (below_alloc (below_alloc (below_alloc (Below.refl w.heap.size w) (.cells zE 24)) (.cells #[.string (bs [111, 114])] 9)) (.cells #[.int .i64 6] 3))
  have HW : Aside0 (OnlyW X (w.heap.size + 1) (w.heap.size + 1 + 1) (bs [111, 114]) 6 (((w.alloc (.cells zE 24)).alloc (.cells #[.string (bs [111, 114])] 9)).alloc (.cells #[.int .i64 6] 3))) :=
    ⟨by have h := OnlyW.made (X := X) (w := w.alloc (.cells zE 24)) (by rw [World.size_alloc]; omega) (bs [111, 114]) 6; rwa [World.size_alloc] at h⟩
  have HO := Aside0.mk (blk_alloc (blk_alloc (heap_alloc_new w (.cells zE 24)) (.cells #[.string (bs [111, 114])] 9)) (.cells #[.int .i64 6] 3))
  replace HS := Aside0.mk (HS.out.below HA.out)
  have hsz : w.heap.size < (((w.alloc (.cells zE 24)).alloc (.cells #[.string (bs [111, 114])] 9)).alloc (.cells #[.int .i64 6] 3)).heap.size := by simp only [World.size_alloc]; omega
  generalize ((w.alloc (.cells zE 24)).alloc (.cells #[.string (bs [111, 114])] 9)).alloc (.cells #[.int .i64 6] 3) = W1 at *
  with_reducible refine (chain_calls X (OnlyW X (w.heap.size + 1) (w.heap.size + 1 + 1) (bs [111, 114]) 6) 83 94 _ opd (onlyOp [111, 114] 6) HG.out (only_opF X _ _ (bs [111, 114]) _ [111, 114] (bs_list _) (by decide)) (eOf 83 Tryd.func83 (by kernel_rfl) rfl) (eOf 94 Tryd.func94 (by kernel_rfl) rfl) k i l r HR.out _ HW.out HS.out).mono ?_
  clear HR
  cases r with
  | fail a =>
    rintro e w2 ⟨rfl, HB⟩
    exact ⟨rfl, rfl, World.grownBy.trans (grown_of_below HA.out _) HB⟩
  | ok x i' l' =>
    rintro e w2 ⟨v3, rfl, hx, HB1, HS1⟩
    obtain ⟨A3, c3, rfl⟩ := Kd.R_slice hx
    have HB := Aside0.mk (World.grownBy.trans (grown_of_below HA.out (some X.pb)) HB1)
    have hne : w.heap.size ≠ X.pb := by omega
    replace HO := Aside0.mk ((HB1.block _ (blk_lt HO.out) (by intro e; injection e with e; exact hne e)).trans HO.out)
    have HX := Aside0.mk (RX.of_post hx (Nat.le_refl _) hsz)
    replace HS := Aside0.mk HS1
    clear HB1 HS1 hx HA HW
    have HE := Aside0.mk (Post.laid HS0.out (Nat.le_refl w.heap.size) HB.out HS.out HX.out (.int .i64 x.f0) (.int .i64 x.f1) (.string x.f2) (.slice A3 x.f3.length c3))
    have HZ := Aside0.mk (put4_blk HO.out (.int .i64 x.f0) (.int .i64 x.f1) (.string x.f2) (.slice A3 x.f3.length c3))
    have o0 := blk_cell HO.out 0
    have o1 := blk_cell HO.out 1
    have o2 := blk_cell HO.out 2
    have o3 := blk_cell HO.out 3
    have f0 := blk_frozen HO.out 0
    have f1 := blk_frozen HO.out 1
    have f2 := blk_frozen HO.out 2
    have f3 := blk_frozen HO.out 3
    simp at o0 o1 o2 o3
    go_wp2_with fail
    refine bodyPost_ret (v := .agg #[.int .i64 x.f0, .int .i64 x.f1, .string x.f2, .slice A3 x.f3.length c3]) ?_ rfl HE.out
    clear o0 o1 o2 o3 f0 f1 f2 f3
    have o0 := blk_cell HZ.out 0
    have o1 := blk_cell HZ.out 1
    have o2 := blk_cell HZ.out 2
    have o3 := blk_cell HZ.out 3
    simp at o0 o1 o2 o3
    simp [results, Tryd.results61, go_sem, o0, o1, o2, o3]⟩
set_option maxRecDepth 100000 in
set_option maxHeartbeats 3000000 in
theorem xor_calls (X : Cx) (k : Nat) (opd : Nat → Int → Option Res) (hg : OpdF X 93 opd) : OpdF X 83 (chainP X.ts X.en opd (onlyOp [120, 111, 114] 7) k) := ⟨fun i l r hr w hs => by
  have HS := Aside0.mk hs
  have HS0 := Aside0.mk hs
  have hplt := hs.lt
  have HR := Aside0.mk hr
  have HG := Aside0.mk hg
  clear hs hr hg
  have hmf := makeFunc_run
  go_enter Tryd.func83, Tryd.ntmps83
  go_wp2_with fail
  with_reducible refine (only_calls _ _ _).mono ?_
  rintro e w1 ⟨rfl, rfl⟩
  go_wp2_with fail
  have HA := Aside0.mk (below_alloc (below_alloc (below_alloc (Below.refl w.heap.size w) (.cells zE 24)) (.cells #[.string (bs [120, 111, 114])] 9)) (.cells #[.int .i64 7] 3))
  have HW : Aside0 (OnlyW X (w.heap.size + 1) (w.heap.size + 1 + 1) (bs [120, 111, 114]) 7 (((w.alloc (.cells zE 24)).alloc (.cells #[.string (bs [120, 111, 114])] 9)).alloc (.cells #[.int .i64 7] 3))) :=
    ⟨by have h := OnlyW.made (X := X) (w := w.alloc (.cells zE 24)) (by rw [World.size_alloc]; omega) (bs [120, 111, 114]) 7; rwa [World.size_alloc] at h⟩
  have HO := Aside0.mk (blk_alloc (blk_alloc (heap_alloc_new w (.cells zE 24)) (.cells #[.string (bs [120, 111, 114])] 9)) (.cells #[.int .i64 7] 3))
  replace HS := Aside0.mk (HS.out.below HA.out)
  have hsz : w.heap.size < (((w.alloc (.cells zE 24)).alloc (.cells #[.string (bs [120, 111, 114])] 9)).alloc (.cells #[.int .i64 7] 3)).heap.size := by simp only [World.size_alloc]; omega
  generalize ((w.alloc (.cells zE 24)).alloc (.cells #[.string (bs [120, 111, 114])] 9)).alloc (.cells #[.int .i64 7] 3) = W1 at *
  with_reducible refine (chain_calls X (OnlyW X (w.heap.size + 1) (w.heap.size + 1 + 1) (bs [120, 111, 114]) 7) 93 94 _ opd (onlyOp [120, 111, 114] 7) HG.out (only_opF X _ _ (bs [120, 111, 114]) _ [120, 111, 114] (bs_list _) (by decide)) (eOf 93 Tryd.func93 (by kernel_rfl) rfl) (eOf 94 Tryd.func94 (by kernel_rfl) rfl) k i l r HR.out _ HW.out HS.out).mono ?_
  clear HR
  cases r with
  | fail a =>
    rintro e w2 ⟨rfl, HB⟩
    exact ⟨rfl, rfl, World.grownBy.trans (grown_of_below HA.out _) HB⟩
  | ok x i' l' =>
    rintro e w2 ⟨v3, rfl, hx, HB1, HS1⟩
    obtain ⟨A3, c3, rfl⟩ := Kd.R_slice hx
    have HB := Aside0.mk (World.grownBy.trans (grown_of_below HA.out (some X.pb)) HB1)
    have hne : w.heap.size ≠ X.pb := by omega
    replace HO := Aside0.mk ((HB1.block _ (blk_lt HO.out) (by intro e; injection e with e; exact hne e)).trans HO.out)
    have HX := Aside0.mk (RX.of_post hx (Nat.le_refl _) hsz)
    replace HS := Aside0.mk HS1
    clear HB1 HS1 hx HA HW
    have HE := Aside0.mk (Post.laid HS0.out (Nat.le_refl w.heap.size) HB.out HS.out HX.out (.int .i64 x.f0) (.int .i64 x.f1) (.string x.f2) (.slice A3 x.f3.length c3))
    have HZ := Aside0.mk (put4_blk HO.out (.int .i64 x.f0) (.int .i64 x.f1) (.string x.f2) (.slice A3 x.f3.length c3))
    have o0 := blk_cell HO.out 0
    have o1 := blk_cell HO.out 1
    have o2 := blk_cell HO.out 2
    have o3 := blk_cell HO.out 3
    have f0 := blk_frozen HO.out 0
    have f1 := blk_frozen HO.out 1
    have f2 := blk_frozen HO.out 2
    have f3 := blk_frozen HO.out 3
    simp at o0 o1 o2 o3
    go_wp2_with fail
    refine bodyPost_ret (v := .agg #[.int .i64 x.f0, .int .i64 x.f1, .string x.f2, .slice A3 x.f3.length c3]) ?_ rfl HE.out
    clear o0 o1 o2 o3 f0 f1 f2 f3
    have o0 := blk_cell HZ.out 0
    have o1 := blk_cell HZ.out 1
    have o2 := blk_cell HZ.out 2
    have o3 := blk_cell HZ.out 3
    simp at o0 o1 o2 o3
    simp [results, Tryd.results83, go_sem, o0, o1, o2, o3]⟩
set_option maxRecDepth 100000 in
set_option maxHeartbeats 3000000 in
theorem and_calls (X : Cx) (k : Nat) (opd : Nat → Int → Option Res) (hg : OpdF X 104 opd) : OpdF X 93 (chainP X.ts X.en opd (onlyOp [97, 110, 100] 5) k) := ⟨fun i l r hr w hs => by
  have HS := Aside0.mk hs
  have HS0 := Aside0.mk hs
  have hplt := hs.lt
  have HR := Aside0.mk hr
  have HG := Aside0.mk hg
  clear hs hr hg
  have hmf := makeFunc_run
  go_enter Tryd.func93, Tryd.ntmps93
  go_wp2_with fail
  with_reducible refine (only_calls _ _ _).mono ?_
  rintro e w1 ⟨rfl, rfl⟩
  go_wp2_with fail
  have HA := Aside0.mk (below_alloc (below_alloc (below_alloc (Below.refl w.heap.size w) (.cells zE 24)) (.cells #[.string (bs [97, 110, 100])] 9)) (.cells #[.int .i64 5] 3))
  have HW : Aside0 (OnlyW X (w.heap.size + 1) (w.heap.size + 1 + 1) (bs [97, 110, 100]) 5 (((w.alloc (.cells zE 24)).alloc (.cells #[.string (bs [97, 110, 100])] 9)).alloc (.cells #[.int .i64 5] 3))) :=
    ⟨by have h := OnlyW.made (X := X) (w := w.alloc (.cells zE 24)) (by rw [World.size_alloc]; omega) (bs [97, 110, 100]) 5; rwa [World.size_alloc] at h⟩
  have HO := Aside0.mk (blk_alloc (blk_alloc (heap_alloc_new w (.cells zE 24)) (.cells #[.string (bs [97, 110, 100])] 9)) (.cells #[.int .i64 5] 3))
  replace HS := Aside0.mk (HS.out.below HA.out)
  have hsz : w.heap.size < (((w.alloc (.cells zE 24)).alloc (.cells #[.string (bs [97, 110, 100])] 9)).alloc (.cells #[.int .i64 5] 3)).heap.size := by simp only [World.size_alloc]; omega
  generalize ((w.alloc (.cells zE 24)).alloc (.cells #[.string (bs [97, 110, 100])] 9)).alloc (.cells #[.int .i64 5] 3) = W1 at *
  with_reducible refine (chain_calls X (OnlyW X (w.heap.size + 1) (w.heap.size + 1 + 1) (bs [97, 110, 100]) 5) 104 94 _ opd (onlyOp [97, 110, 100] 5) HG.out (only_opF X _ _ (bs [97, 110, 100]) _ [97, 110, 100] (bs_list _) (by decide)) (eOf 104 Tryd.func104 (by kernel_rfl) rfl) (eOf 94 Tryd.func94 (by kernel_rfl) rfl) k i l r HR.out _ HW.out HS.out).mono ?_
  clear HR
  cases r with
  | fail a =>
    rintro e w2 ⟨rfl, HB⟩
    exact ⟨rfl, rfl, World.grownBy.trans (grown_of_below HA.out _) HB⟩
  | ok x i' l' =>
    rintro e w2 ⟨v3, rfl, hx, HB1, HS1⟩
    obtain ⟨A3, c3, rfl⟩ := Kd.R_slice hx
    have HB := Aside0.mk (World.grownBy.trans (grown_of_below HA.out (some X.pb)) HB1)
    have hne : w.heap.size ≠ X.pb := by omega
    replace HO := Aside0.mk ((HB1.block _ (blk_lt HO.out) (by intro e; injection e with e; exact hne e)).trans HO.out)
    have HX := Aside0.mk (RX.of_post hx (Nat.le_refl _) hsz)
    replace HS := Aside0.mk HS1
    clear HB1 HS1 hx HA HW
    have HE := Aside0.mk (Post.laid HS0.out (Nat.le_refl w.heap.size) HB.out HS.out HX.out (.int .i64 x.f0) (.int .i64 x.f1) (.string x.f2) (.slice A3 x.f3.length c3))
    have HZ := Aside0.mk (put4_blk HO.out (.int .i64 x.f0) (.int .i64 x.f1) (.string x.f2) (.slice A3 x.f3.length c3))
    have o0 := blk_cell HO.out 0
    have o1 := blk_cell HO.out 1
    have o2 := blk_cell HO.out 2
    have o3 := blk_cell HO.out 3
    have f0 := blk_frozen HO.out 0
    have f1 := blk_frozen HO.out 1
    have f2 := blk_frozen HO.out 2
    have f3 := blk_frozen HO.out 3
    simp at o0 o1 o2 o3
    go_wp2_with fail
    refine bodyPost_ret (v := .agg #[.int .i64 x.f0, .int .i64 x.f1, .string x.f2, .slice A3 x.f3.length c3]) ?_ rfl HE.out
    clear o0 o1 o2 o3 f0 f1 f2 f3
    have o0 := blk_cell HZ.out 0
    have o1 := blk_cell HZ.out 1
    have o2 := blk_cell HZ.out 2
    have o3 := blk_cell HZ.out 3
    simp at o0 o1 o2 o3
    simp [results, Tryd.results93, go_sem, o0, o1, o2, o3]⟩
set_option maxRecDepth 100000 in
set_option maxHeartbeats 2000000 in
theorem sum1_calls (X : Cx) (s : ByteArray) (w : World) (hp : X.pb < w.heap.size) : Calls Tryd.prog 128 #[.string s] w fun e w' => e = .returned (.int .i64 (sumOp s)) ∧ Below w.heap.size w w' := by
  obtain ⟨o1, ho1⟩ : ∃ o, onlyOp [43] 11 s = o := ⟨_, rfl⟩
  obtain ⟨o2, ho2⟩ : ∃ o, onlyOp [45] 12 s = o := ⟨_, rfl⟩
  have hb1 : 0 ≤ o1 ∧ o1 ≤ 12 := by rw [← ho1]; unfold onlyOp; split <;> omega
  have hb2 : 0 ≤ o2 ∧ o2 ≤ 12 := by rw [← ho2]; unfold onlyOp; split <;> omega
  have e : sumOp s = o1 + o2 := by unfold sumOp; rw [ho1, ho2]
  rw [e]
  clear e
  have HO1 := Aside0.mk ho1
  have HO2 := Aside0.mk ho2
  clear ho1 ho2
  go_enter Tryd.func128, Tryd.ntmps128
  go_wp2_with fail
  with_reducible refine (only_calls _ _ _).mono ?_
  rintro e w1 ⟨rfl, rfl⟩
  have HA := Aside0.mk (below_alloc (below_alloc (Below.refl w.heap.size w) (.cells #[.string (bs [43])] 9)) (.cells #[.int .i64 11] 3))
  have HW : Aside0 (OnlyW X w.heap.size (w.heap.size + 1) (bs [43]) 11 ((w.alloc (.cells #[.string (bs [43])] 9)).alloc (.cells #[.int .i64 11] 3))) :=
    ⟨OnlyW.made (by omega) _ _⟩
  have e1 := eOf 94 Tryd.func94 (by kernel_rfl) rfl
  go_wp2_with fail
  with_reducible refine (only1_calls X _ _ _ _ s _ HW.out).mono ?_
  rw [bs_list, HO1.out]
  rintro e w2 ⟨rfl, HB1⟩
  replace HA := Aside0.mk (below_step HA.out HB1)
  clear HB1 HW
  go_wp2_with fail
  with_reducible refine (only_calls _ _ _).mono ?_
  rintro e w3 ⟨rfl, rfl⟩
  have hz := HA.out.size
  replace HA := Aside0.mk (below_alloc (below_alloc HA.out (.cells #[.string (bs [45])] 9)) (.cells #[.int .i64 12] 3))
  have HW : Aside0 (OnlyW X w2.heap.size (w2.heap.size + 1) (bs [45]) 12 ((w2.alloc (.cells #[.string (bs [45])] 9)).alloc (.cells #[.int .i64 12] 3))) :=
    ⟨OnlyW.made (by omega) _ _⟩
  go_wp2_with fail
  with_reducible refine (only1_calls X _ _ _ _ s _ HW.out).mono ?_
  rw [bs_list, HO2.out]
  rintro e w4 ⟨rfl, HB1⟩
  replace HA := Aside0.mk (below_step HA.out HB1)
  clear HB1 HW
  go_wp2_with fail
  go_ret
  exact ⟨rfl, HA.out⟩
theorem sum_opF (X : Cx) : OpF X (fun w => X.pb < w.heap.size) 128 #[] sumOp :=
  ⟨fun s w h => sum1_calls X s w h, fun s hs h => hs (by unfold sumOp onlyOp; rw [h]; rfl), fun w w' h hg => by have := hg.size; omega⟩
set_option maxRecDepth 100000 in
set_option maxHeartbeats 3000000 in
theorem sum_calls (X : Cx) (k : Nat) (opd : Nat → Int → Option Res) (hg : OpdF X 127 opd) : OpdF X 123 (chainP X.ts X.en opd sumOp k) := ⟨fun i l r hr w hs => by
  have HS := Aside0.mk hs
  have HS0 := Aside0.mk hs
  have hplt := hs.lt
  have HR := Aside0.mk hr
  have HG := Aside0.mk hg
  clear hs hr hg
  have hmf := makeFunc_run
  go_enter Tryd.func123, Tryd.ntmps123
  go_wp2_with fail
  have HA := Aside0.mk (below_alloc (Below.refl w.heap.size w) (.cells zE 24))
  have HO := Aside0.mk (heap_alloc_new w (.cells zE 24))
  replace HS := Aside0.mk (HS.out.below HA.out)
  have hsz : w.heap.size < (w.alloc (.cells zE 24)).heap.size := by simp only [World.size_alloc]; omega
  generalize w.alloc (.cells zE 24) = W1 at *
  with_reducible refine (chain_calls X (fun w => X.pb < w.heap.size) 127 128 _ opd sumOp HG.out (sum_opF X) (eOf 127 Tryd.func127 (by kernel_rfl) rfl) (eOf 128 Tryd.func128 (by kernel_rfl) rfl) k i l r HR.out _ (by omega) HS.out).mono ?_
  clear HR
  cases r with
  | fail a =>
    rintro e w2 ⟨rfl, HB⟩
    exact ⟨rfl, rfl, World.grownBy.trans (grown_of_below HA.out _) HB⟩
  | ok x i' l' =>
    rintro e w2 ⟨v3, rfl, hx, HB1, HS1⟩
    obtain ⟨A3, c3, rfl⟩ := Kd.R_slice hx
    have HB := Aside0.mk (World.grownBy.trans (grown_of_below HA.out (some X.pb)) HB1)
    have hne : w.heap.size ≠ X.pb := by omega
    replace HO := Aside0.mk ((HB1.block _ (blk_lt HO.out) (by intro e; injection e with e; exact hne e)).trans HO.out)
    have HX := Aside0.mk (RX.of_post hx (Nat.le_refl _) hsz)
    replace HS := Aside0.mk HS1
    clear HB1 HS1 hx HA
    have HE := Aside0.mk (Post.laid HS0.out (Nat.le_refl w.heap.size) HB.out HS.out HX.out (.int .i64 x.f0) (.int .i64 x.f1) (.string x.f2) (.slice A3 x.f3.length c3))
    have HZ := Aside0.mk (put4_blk HO.out (.int .i64 x.f0) (.int .i64 x.f1) (.string x.f2) (.slice A3 x.f3.length c3))
    have o0 := blk_cell HO.out 0
    have o1 := blk_cell HO.out 1
    have o2 := blk_cell HO.out 2
    have o3 := blk_cell HO.out 3
    have f0 := blk_frozen HO.out 0
    have f1 := blk_frozen HO.out 1
    have f2 := blk_frozen HO.out 2
    have f3 := blk_frozen HO.out 3
    simp at o0 o1 o2 o3
    go_wp2_with fail
    refine bodyPost_ret (v := .agg #[.int .i64 x.f0, .int .i64 x.f1, .string x.f2, .slice A3 x.f3.length c3]) ?_ rfl HE.out
    clear o0 o1 o2 o3 f0 f1 f2 f3
    have o0 := blk_cell HZ.out 0
    have o1 := blk_cell HZ.out 1
    have o2 := blk_cell HZ.out 2
    have o3 := blk_cell HZ.out 3
    simp at o0 o1 o2 o3
    simp [results, Tryd.results123, go_sem, o0, o1, o2, o3]⟩
end Go.Proofs.YtbbopomecanaoaaDoor.A
namespace Go.Proofs.YtbbopomecanaoaaDoor.A
open Go.RowKit Go.Proofs.YtbbopomecanaoaaDoorW.PrintWords Go.Proofs.YtbbopomecanaoaaDoorW.PrintLast Go.Proofs.YtbbopomecanaoaaDoorW.PrintMore Go.Proofs.YtbbopomecanaoaaDoor.XK
open Go.Proofs.YtbbopomecanaoaaDoor
attribute [local go_sem] max2_int min2_int max_two min_two max_three min_three max_four min_four fld1 fld3
set_option linter.unusedVariables false
set_option linter.unusedSimpArgs false
set_option maxRecDepth 100000 in
set_option maxHeartbeats 3000000 in
theorem not_calls (X : Cx) (opd1 opd2 : Nat → Int → Option Res) (hg1 : OpdF X 104 opd1) (hg2 : OpdF X 117 opd2) : OpdF X 104 (notP X.ts X.en opd1 opd2) := ⟨fun i l r hr w hs => by
  have HG1 := Aside0.mk hg1
  have HG2 := Aside0.mk hg2
  clear hg1 hg2
  have HS := Aside0.mk hs
  have HS0 := Aside0.mk hs
  have hplt := hs.lt
  have HR := Aside0.mk hr
  clear hs hr
  have HA := below_alloc (Below.refl w.heap.size w) (.cells zE 24)
  have HO := Aside0.mk (heap_alloc_new w (.cells zE 24))
  replace HS := Aside0.mk (HS.out.below HA)
  have HB := Aside0.mk (grown_of_below HA (some X.pb))
  have hsz : w.heap.size < (w.alloc (.cells zE 24)).heap.size := by simp only [World.size_alloc]; omega
  clear HA
  go_enter Tryd.func104, Tryd.ntmps104
  go_wp2_with fail
  generalize w.alloc (.cells zE 24) = W1 at *
  have hob1 : w.heap.size ≤ w.heap.size := Nat.le_refl _
  obtain ⟨ob, hob'⟩ : ∃ ob, w.heap.size = ob := ⟨_, rfl⟩
  replace hob1 : w.heap.size ≤ ob := by omega
  have hob : ob ≠ X.pb := by omega
  have hsz' : ob < W1.heap.size := by omega
  rw [hob'] at HO ⊢
  clear hsz hob'
  have hr := HR.out
  unfold notP at hr
  clear HR
  by_cases hw : (pk X.ts X.en i).f3.toList = [110, 111, 116]
  · rw [if_pos hw] at hr
    with_reducible refine (take_yes (s := bs [110, 111, 116]) HS.out (by rw [bs_list]; decide) (hw.trans (bs_list [110, 111, 116]).symm)).mono ?_
    rintro e w2 ⟨rfl, HB1, HS1⟩
    replace HO := Aside0.mk ((HB1.block _ (blk_lt HO.out) (by intro e; injection e with e; exact hob e)).trans HO.out)
    have hsz2 : ob < w2.heap.size := blk_lt HO.out
    replace HB := Aside0.mk (World.grownBy.trans HB.out HB1)
    replace HS := Aside0.mk HS1
    clear HB1 HS1
    obtain ⟨r1, hr1⟩ : ∃ r1, opd1 (i + 1) l = some r1 := by
      cases ho : opd1 (i + 1) l with
      | none => rw [ho] at hr; cases hr
      | some r1 => exact ⟨r1, rfl⟩
    rw [hr1] at hr
    have HR1 := Aside0.mk hr1
    clear hr1 hw
    go_wp2_with fail
    with_reducible refine (HG1.out.calls _ _ _ HR1.out _ HS.out).mono ?_
    clear HR1
    cases r1 with
    | fail a =>
      obtain rfl : Res.fail a = r := Option.some.inj hr
      rintro e w3 ⟨rfl, HB1⟩
      exact ⟨rfl, rfl, World.grownBy.trans HB.out HB1⟩
    | ok x i' l' =>
      obtain rfl : Res.ok ⟨4, 0, ⟨#[]⟩, [x]⟩ i' l' = r := Option.some.inj hr
      clear hr
      rintro e w3 ⟨v3, rfl, hx, HB1, HS1⟩
      obtain ⟨A3, c3, rfl⟩ := Kd.R_slice hx
      replace HO := Aside0.mk ((HB1.block _ (blk_lt HO.out) (by intro e; injection e with e; exact hob e)).trans HO.out)
      replace HB := Aside0.mk (World.grownBy.trans HB.out HB1)
      have hx2 := RX.of_post hx hob1 hsz2
      have hl := lit1 (x := x) (by have := HB.out.size; omega) ⟨by have := HB.out.size; omega, by have := blk_lt HO.out; omega⟩ hx2
      have HA := below_alloc (Below.refl w3.heap.size w3) (.cells (cE x (.slice A3 x.f3.length c3)) 24)
      replace HO := Aside0.mk (blk_below HO.out HA)
      replace HB := Aside0.mk (World.grownBy.trans HB.out (grown_of_below HA _))
      replace HS := Aside0.mk (HS1.below HA)
      have HX := Aside0.mk hl
      clear HB1 HS1 hx hx2 hl HA
      have HE := Aside0.mk (Post.laid (x := ⟨4, 0, ⟨#[]⟩, [x]⟩) HS0.out hob1 HB.out HS.out HX.out (.int .i64 4) (.int .i64 0) (.string (⟨#[]⟩ : ByteArray)) (.slice (some ⟨w3.heap.size, 0, none⟩) 1 1))
      have HZ := Aside0.mk (put4_blk HO.out (.int .i64 4) (.int .i64 0) (.string (⟨#[]⟩ : ByteArray)) (.slice (some ⟨w3.heap.size, 0, none⟩) 1 1))
      have o0 := blk_cell HO.out 0
      have o1 := blk_cell HO.out 1
      have o2 := blk_cell HO.out 2
      have o3 := blk_cell HO.out 3
      have f0 := blk_frozen HO.out 0
      have f1 := blk_frozen HO.out 1
      have f2 := blk_frozen HO.out 2
      have f3 := blk_frozen HO.out 3
      simp at o0 o1 o2 o3
      go_wp2_with fail
      refine bodyPost_ret (v := .agg #[.int .i64 4, .int .i64 0, .string (⟨#[]⟩ : ByteArray), .slice (some ⟨w3.heap.size, 0, none⟩) 1 1]) ?_ rfl HE.out
      clear o0 o1 o2 o3 f0 f1 f2 f3
      have o0 := blk_cell HZ.out 0
      have o1 := blk_cell HZ.out 1
      have o2 := blk_cell HZ.out 2
      have o3 := blk_cell HZ.out 3
      simp at o0 o1 o2 o3
      simp [results, Tryd.results104, go_sem, o0, o1, o2, o3]
  · rw [if_neg hw] at hr
    with_reducible refine (take_no (s := bs [110, 111, 116]) HS.out (fun e => absurd (e.trans (bs_list [110, 111, 116])) hw)).mono ?_
    rintro e w2 ⟨rfl, HB1⟩
    replace HO := Aside0.mk (blk_below HO.out HB1)
    have hsz2 : ob < w2.heap.size := blk_lt HO.out
    replace HB := Aside0.mk (World.grownBy.trans HB.out (grown_of_below HB1 _))
    replace HS := Aside0.mk (HS.out.below HB1)
    clear HB1 hw
    have HR := Aside0.mk hr
    clear hr
    go_wp2_with fail
    with_reducible refine (HG2.out.calls _ _ _ HR.out _ HS.out).mono ?_
    clear HR
    cases r with
    | fail a =>
      rintro e w3 ⟨rfl, HB1⟩
      exact ⟨rfl, rfl, World.grownBy.trans HB.out HB1⟩
    | ok x i' l' =>
      rintro e w3 ⟨v3, rfl, hx, HB1, HS1⟩
      obtain ⟨A3, c3, rfl⟩ := Kd.R_slice hx
      replace HO := Aside0.mk ((HB1.block _ (blk_lt HO.out) (by intro e; injection e with e; exact hob e)).trans HO.out)
      replace HB := Aside0.mk (World.grownBy.trans HB.out HB1)
      have HX := Aside0.mk (RX.of_post hx hob1 hsz2)
      replace HS := Aside0.mk HS1
      clear HB1 HS1 hx
      have HE := Aside0.mk (Post.laid (x := x) HS0.out hob1 HB.out HS.out HX.out (.int .i64 x.f0) (.int .i64 x.f1) (.string x.f2) (.slice A3 x.f3.length c3))
      have HZ := Aside0.mk (put4_blk HO.out (.int .i64 x.f0) (.int .i64 x.f1) (.string x.f2) (.slice A3 x.f3.length c3))
      have o0 := blk_cell HO.out 0
      have o1 := blk_cell HO.out 1
      have o2 := blk_cell HO.out 2
      have o3 := blk_cell HO.out 3
      have f0 := blk_frozen HO.out 0
      have f1 := blk_frozen HO.out 1
      have f2 := blk_frozen HO.out 2
      have f3 := blk_frozen HO.out 3
      simp at o0 o1 o2 o3
      go_wp2_with fail
      refine bodyPost_ret (v := .agg #[.int .i64 x.f0, .int .i64 x.f1, .string x.f2, .slice A3 x.f3.length c3]) ?_ rfl HE.out
      clear o0 o1 o2 o3 f0 f1 f2 f3
      have o0 := blk_cell HZ.out 0
      have o1 := blk_cell HZ.out 1
      have o2 := blk_cell HZ.out 2
      have o3 := blk_cell HZ.out 3
      simp at o0 o1 o2 o3
      simp [results, Tryd.results104, go_sem, o0, o1, o2, o3]⟩
theorem compares_f (s : ByteArray) : equation_compares.f s = some (cmpOp s) := by
  unfold equation_compares.f cmpOp
  split
  · rfl
  · split
    · rfl
    · split <;> rfl
theorem cmp_ne {s : ByteArray} (h : cmpOp s ≠ 0) : s.toList ≠ [] := fun e => h (by unfold cmpOp; rw [e]; rfl)
set_option maxRecDepth 100000 in
set_option maxHeartbeats 3000000 in
theorem relation_calls (X : Cx) (opd : Nat → Int → Option Res) (hg : OpdF X 123 opd) : OpdF X 117 (relP X.ts X.en opd) := ⟨fun i l r hr w hs => by
  have HG := Aside0.mk hg
  clear hg
  have HS := Aside0.mk hs
  have HS0 := Aside0.mk hs
  have hplt := hs.lt
  have HR := Aside0.mk hr
  clear hs hr
  have HA := below_alloc (Below.refl w.heap.size w) (.cells zE 24)
  have HO := Aside0.mk (heap_alloc_new w (.cells zE 24))
  replace HS := Aside0.mk (HS.out.below HA)
  have HB := Aside0.mk (grown_of_below HA (some X.pb))
  have hsz : w.heap.size < (w.alloc (.cells zE 24)).heap.size := by simp only [World.size_alloc]; omega
  clear HA
  go_enter Tryd.func117, Tryd.ntmps117
  go_wp2_with fail
  generalize w.alloc (.cells zE 24) = W1 at *
  have hob1 : w.heap.size ≤ w.heap.size := Nat.le_refl _
  obtain ⟨ob, hob'⟩ : ∃ ob, w.heap.size = ob := ⟨_, rfl⟩
  replace hob1 : w.heap.size ≤ ob := by omega
  have hob : ob ≠ X.pb := by omega
  have hsz' : ob < W1.heap.size := by omega
  rw [hob'] at HO ⊢
  clear hsz hob'
  have hr := HR.out
  unfold relP at hr
  clear HR
  obtain ⟨r0, hr0⟩ : ∃ r0, opd i l = some r0 := by
    cases ho : opd i l with
    | none => rw [ho] at hr; cases hr
    | some r0 => exact ⟨r0, rfl⟩
  rw [hr0] at hr
  have HR0 := Aside0.mk hr0
  clear hr0
  with_reducible refine (HG.out.calls _ _ _ HR0.out _ HS.out).mono ?_
  clear HR0
  cases r0 with
  | fail a =>
    obtain rfl : Res.fail a = r := Option.some.inj hr
    rintro e w2 ⟨rfl, HB1⟩
    exact ⟨rfl, rfl, World.grownBy.trans HB.out HB1⟩
  | ok x i l =>
    dsimp only at hr
    rintro e w2 ⟨v3, rfl, hx, HB1, HS1⟩
    obtain ⟨A3, c3, rfl⟩ := Kd.R_slice hx
    replace HO := Aside0.mk ((HB1.block _ (blk_lt HO.out) (by intro e; injection e with e; exact hob e)).trans HO.out)
    have hlo : ob < w2.heap.size := blk_lt HO.out
    replace HB := Aside0.mk (World.grownBy.trans HB.out HB1)
    have HA := below_alloc (Below.refl w2.heap.size w2) (.cells (cE x (.slice A3 x.f3.length c3)) 24)
    have BX := Aside0.mk (heap_alloc_new w2 (.cells (cE x (.slice A3 x.f3.length c3)) 24))
    have hxp : w2.heap.size ≠ X.pb := by have := HS1.lt; omega
    replace HO := Aside0.mk (blk_below HO.out HA)
    replace HB := Aside0.mk (World.grownBy.trans HB.out (grown_of_below HA _))
    have HX : Aside0 (RX (w2.alloc (.cells (cE x (.slice A3 x.f3.length c3)) 24)) w.heap.size (fun k => w.heap.size ≤ k ∧ k ≠ ob ∧ k ≠ w2.heap.size) (.slice A3 x.f3.length c3) x.f3) := ⟨by
      refine RX.grown (pb := X.pb) (RX.weak (ok := fun k => W1.heap.size ≤ k) hx (by omega) ?_) (grown_of_below HA _) (fun k hk => by have := hk.1; omega)
      intro k h1 h2 h3
      exact ⟨by omega, by omega, by omega⟩⟩
    replace HS := Aside0.mk (HS1.below HA)
    clear HB1 HS1 hx HA
    go_wp2_with fail
    generalize w2.alloc (.cells (cE x (.slice A3 x.f3.length c3)) 24) = W2 at *
    generalize w2.heap.size = xb at *
    obtain ⟨tk, ta, tn, tt, hpk⟩ := pk_open X i
    rw [hpk] at hr
    dsimp only at hr
    have HPK := Aside0.mk hpk
    clear hpk
    with_reducible refine (peek_is HPK.out HS.out).mono ?_
    rintro e w3 ⟨rfl, HB1⟩
    replace HS := Aside0.mk (HS.out.below HB1)
    replace BX := Aside0.mk (blk_below BX.out HB1)
    replace HO := Aside0.mk (blk_below HO.out HB1)
    replace HX := Aside0.mk (HX.out.grown (grown_of_below HB1 (some X.pb)) (fun k hk => by have := hk.1; omega))
    replace HB := Aside0.mk (World.grownBy.trans HB.out (grown_of_below HB1 (some X.pb)))
    clear HB1
    have hne := @cmp_ne tt
    have HC := Aside0.mk (equation_compares.calls tt _ w3 (compares_f tt))
    generalize cmpOp tt = o at *
    go_wp2_with fail
    with_reducible refine HC.out.mono ?_
    rintro e w4 ⟨rfl, HD⟩
    have HB1 := HD.below
    replace HS := Aside0.mk (HS.out.below HB1)
    replace BX := Aside0.mk (blk_below BX.out HB1)
    replace HO := Aside0.mk (blk_below HO.out HB1)
    replace HX := Aside0.mk (HX.out.grown (grown_of_below HB1 (some X.pb)) (fun k hk => by have := hk.1; omega))
    replace HB := Aside0.mk (World.grownBy.trans HB.out (grown_of_below HB1 (some X.pb)))
    clear HB1 HD HC
    by_cases ho : o = 0
    · subst ho
      rw [if_pos rfl] at hr
      obtain rfl : Res.ok x i l = r := Option.some.inj hr
      clear hr hne
      replace HX := Aside0.mk (RX.weak (B' := w.heap.size) (ok' := fun k => w.heap.size ≤ k ∧ k ≠ ob) HX.out (Nat.le_refl _) (fun k h1 _ _ => ⟨h1.1, h1.2.1⟩))
      have x0 := blk_cell BX.out 0
      have x1 := blk_cell BX.out 1
      have x2 := blk_cell BX.out 2
      have x3 := blk_cell BX.out 3
      simp at x0 x1 x2 x3
      have HE := Aside0.mk (Post.laid (x := x) HS0.out hob1 HB.out HS.out HX.out (.int .i64 x.f0) (.int .i64 x.f1) (.string x.f2) (.slice A3 x.f3.length c3))
      have HZ := Aside0.mk (put4_blk HO.out (.int .i64 x.f0) (.int .i64 x.f1) (.string x.f2) (.slice A3 x.f3.length c3))
      have o0 := blk_cell HO.out 0
      have o1 := blk_cell HO.out 1
      have o2 := blk_cell HO.out 2
      have o3 := blk_cell HO.out 3
      have f0 := blk_frozen HO.out 0
      have f1 := blk_frozen HO.out 1
      have f2 := blk_frozen HO.out 2
      have f3 := blk_frozen HO.out 3
      simp at o0 o1 o2 o3
      go_wp2_with fail
      refine bodyPost_ret (v := .agg #[.int .i64 x.f0, .int .i64 x.f1, .string x.f2, .slice A3 x.f3.length c3]) ?_ rfl HE.out
      clear o0 o1 o2 o3 f0 f1 f2 f3
      have o0 := blk_cell HZ.out 0
      have o1 := blk_cell HZ.out 1
      have o2 := blk_cell HZ.out 2
      have o3 := blk_cell HZ.out 3
      simp at o0 o1 o2 o3
      simp [results, Tryd.results117, go_sem, o0, o1, o2, o3]
    · rw [if_neg ho] at hr
      have hi1 := HS.out.word (by rw [HPK.out]; exact hne ho)
      have p0 := HS.out.c1
      have p1 := HS.out.fr 1
      have hfew := HS.out.few
      have hle := HS.out.le
      have hgs1 := grown_set w4 X.pb 1 (.int .i64 ((i + 1 : Nat) : Int))
      have HX1 := Aside0.mk (HX.out.grown hgs1 (fun k hk => by have := hk.1; omega))
      have HS1 := Aside0.mk (HS.out.move (i + 1) hi1)
      have HB1 := Aside0.mk (World.grownBy.trans HB.out hgs1)
      have BX1 := Aside0.mk (blk_far (p := ⟨X.pb, 1, none⟩) BX.out hxp (.int .i64 ((i + 1 : Nat) : Int)))
      have HO1 := Aside0.mk (blk_far (p := ⟨X.pb, 1, none⟩) HO.out hob (.int .i64 ((i + 1 : Nat) : Int)))
      clear hgs1 HX HS HB BX HO hne HPK hi1
      go_wp2_with fail
      clear p0 p1
      rw [show ((i : Int) + 1) = ((i + 1 : Nat) : Int) by omega]
      generalize w4.setCell ⟨X.pb, 1, none⟩ (.int .i64 ((i + 1 : Nat) : Int)) = W5 at *
      obtain ⟨r1, hr1⟩ : ∃ r1, opd (i + 1) l = some r1 := by
        cases ho : opd (i + 1) l with
        | none => rw [ho] at hr; cases hr
        | some r1 => exact ⟨r1, rfl⟩
      rw [hr1] at hr
      have HR1 := Aside0.mk hr1
      clear hr1
      cases r1 with
      | fail a =>
        obtain rfl : Res.fail a = r := Option.some.inj hr
        clear hr
        refine GK.plainK (m := 6) (n := 7) (t := 1) (s := 3) (row := some X.pb) (R := fun _ => True) [some 20, some 21, some 22, some 23, some 24, some 25, none] [G.Is (.int .i64 o), G.Is (.agg #[.int .i64 x.f0, .int .i64 x.f1, .string x.f2, .slice A3 x.f3.length c3]), G.Is (ptr X), fun _ _ => False, fun _ _ => False, fun _ _ => False] (by kernel_rfl) (by kernel_rfl) (by kernel_rfl) (by kernel_rfl) (by rfl) (by decide) (G.allB_succ (G.allB_succ (G.allB_succ (G.allB_succ (G.allB_succ (G.allB_succ G.allB_zero ?c0) ?c1) ?c2) (fun h => absurd rfl h)) ?c4) ?c5) ?sp (fun _ _ _ _ => trivial) ⟨G.stays_eq _, G.stays_eq _, G.stays_eq _, GK.stays_false, GK.stays_false, GK.stays_false, trivial⟩ (G.allB_succ (G.allB_succ (G.allB_succ (G.allB_succ (G.allB_succ (G.allB_succ G.allB_zero (.inr fun _ _ _ h => h)) (.inr fun _ _ _ h => h)) (.inr fun _ _ _ h => h)) (.inl (by kernel_rfl))) (.inl (by kernel_rfl))) (.inl (by kernel_rfl))) ?tl
        case c0 =>
          intro his
          refine GK.core_oblK (o := _) (N := some 20) rfl rfl ?_
          intro x' a' ha w' hI hF K hK
          simp only [G.putAll, Act.put, List.setIfInBounds_toArray, List.set_cons_zero, List.set_cons_succ, Nat.reduceAdd] at ha
          subst ha
          refine value_ (w1 := ?_) (v := ?_) (by rfl) rfl ?_ ?_
          rotate_left 2
          · go_simp
            constructor
            · rfl
            · rfl
          refine hK.out _ _ (Below.refl _ _) ?_
          change _ = _
          with_reducible rfl
        case c1 =>
          intro his
          refine GK.core_oblK (o := _) (N := some 21) rfl rfl ?_
          intro x' a' ha w' hI hF K hK
          simp only [G.putAll, Act.put, List.setIfInBounds_toArray, List.set_cons_zero, List.set_cons_succ, Nat.reduceAdd] at ha
          subst ha
          have x0 := cell_grown (blk_cell BX1.out 0) hI hxp
          have x1 := cell_grown (blk_cell BX1.out 1) hI hxp
          have x2 := cell_grown (blk_cell BX1.out 2) hI hxp
          have x3 := cell_grown (blk_cell BX1.out 3) hI hxp
          refine value_ (w1 := ?_) (v := ?_) (by rfl) rfl ?_ ?_
          rotate_left 2
          · go_simp
            constructor
            · rfl
            · rfl
          refine hK.out _ _ (Below.refl _ _) ?_
          change _ = _
          with_reducible rfl
        case c2 =>
          intro his
          refine GK.core_oblK (o := _) (N := some 22) rfl rfl ?_
          intro x' a' ha w' hI hF K hK
          simp only [G.putAll, Act.put, List.setIfInBounds_toArray, List.set_cons_zero, List.set_cons_succ, Nat.reduceAdd] at ha
          subst ha
          refine value_ (w1 := ?_) (v := ?_) (by rfl) rfl ?_ ?_
          rotate_left 2
          · go_simp
            constructor
            · rfl
            · rfl
          refine hK.out _ _ (Below.refl _ _) ?_
          change _ = _
          with_reducible rfl
        case c4 =>
          intro his
          refine GK.core_oblK (o := _) (N := some 24) rfl rfl ?_
          intro x' a' ha w' hI hF K hK
          exact (hF 3 (by kernel_rfl)).elim
        case c5 =>
          intro his
          refine GK.core_oblK (o := _) (N := some 25) rfl rfl ?_
          intro x' a' ha w' hI hF K hK
          exact (hF 4 (by kernel_rfl)).elim
        case sp =>
          refine GK.spec_oblK (o := _) (N := some 23) rfl rfl ?_
          intro x' a' ha w' hI hF K hK
          have s2 : x' 2 = _ := hF 2 (by kernel_rfl)
          simp only [G.putAll, Act.put, List.setIfInBounds_toArray, List.set_cons_zero, List.set_cons_succ, Nat.reduceAdd, s2] at ha
          subst ha
          have eg := eOf 123 Tryd.func123 (by kernel_rfl) rfl
          refine GK.enterK 123 #[ptr X] (by rfl) rfl ?_ ?_
          · go_simp
          · with_reducible refine (HG.out.calls (i + 1) l _ HR1.out _ (HS1.out.below hI)).mono ?_
            rintro e w3 ⟨rfl, HB'⟩
            exact ⟨rfl, rfl, World.grownBy.trans HB1.out (World.grownBy.trans (grown_of_below hI (some X.pb)) HB')⟩
        case tl =>
          intro x' w' hI hR hF
          exact (hF 3 (by omega)).elim
      | ok y i' l' =>
        obtain rfl : Res.ok ⟨o, 0, ⟨#[]⟩, [x, y]⟩ i' l' = r := Option.some.inj hr
        clear hr
        refine GK.plainK (m := 6) (n := 7) (t := 1) (s := 3) (row := some X.pb) (R := fun w' => PS X w' i' l') [some 20, some 21, some 22, some 23, some 24, some 25, none] [G.Is (.int .i64 o), G.Is (.agg #[.int .i64 x.f0, .int .i64 x.f1, .string x.f2, .slice A3 x.f3.length c3]), G.Is (ptr X), AggF w.heap.size (fun k => w.heap.size ≤ k ∧ k ≠ ob ∧ k ≠ xb) y, SlcF w.heap.size (fun k => w.heap.size ≤ k ∧ k ≠ ob ∧ k ≠ xb) [x, y], AggF w.heap.size (fun k => w.heap.size ≤ k ∧ k ≠ ob ∧ k ≠ xb) ⟨o, 0, ⟨#[]⟩, [x, y]⟩] (by kernel_rfl) (by kernel_rfl) (by kernel_rfl) (by kernel_rfl) (by rfl) (by decide) (G.allB_succ (G.allB_succ (G.allB_succ (G.allB_succ (G.allB_succ (G.allB_succ G.allB_zero ?c0) ?c1) ?c2) (fun h => absurd rfl h)) ?c4) ?c5) ?sp (fun _ _ h hb => h.below hb) ⟨G.stays_eq _, G.stays_eq _, G.stays_eq _, stays_agg _ _ _, stays_slc _ _ _, stays_agg _ _ _, trivial⟩ (G.allB_succ (G.allB_succ (G.allB_succ (G.allB_succ (G.allB_succ (G.allB_succ G.allB_zero (.inr fun _ _ _ h => h)) (.inr fun _ _ _ h => h)) (.inr fun _ _ _ h => h)) (.inl (by kernel_rfl))) (.inl (by kernel_rfl))) (.inl (by kernel_rfl))) ?tl
        case c0 =>
          intro his
          refine GK.core_oblK (o := _) (N := some 20) rfl rfl ?_
          intro x' a' ha w' hI hF K hK
          simp only [G.putAll, Act.put, List.setIfInBounds_toArray, List.set_cons_zero, List.set_cons_succ, Nat.reduceAdd] at ha
          subst ha
          refine value_ (w1 := ?_) (v := ?_) (by rfl) rfl ?_ ?_
          rotate_left 2
          · go_simp
            constructor
            · rfl
            · rfl
          refine hK.out _ _ (Below.refl _ _) ?_
          change _ = _
          with_reducible rfl
        case c1 =>
          intro his
          refine GK.core_oblK (o := _) (N := some 21) rfl rfl ?_
          intro x' a' ha w' hI hF K hK
          simp only [G.putAll, Act.put, List.setIfInBounds_toArray, List.set_cons_zero, List.set_cons_succ, Nat.reduceAdd] at ha
          subst ha
          have x0 := cell_grown (blk_cell BX1.out 0) hI hxp
          have x1 := cell_grown (blk_cell BX1.out 1) hI hxp
          have x2 := cell_grown (blk_cell BX1.out 2) hI hxp
          have x3 := cell_grown (blk_cell BX1.out 3) hI hxp
          refine value_ (w1 := ?_) (v := ?_) (by rfl) rfl ?_ ?_
          rotate_left 2
          · go_simp
            constructor
            · rfl
            · rfl
          refine hK.out _ _ (Below.refl _ _) ?_
          change _ = _
          with_reducible rfl
        case c2 =>
          intro his
          refine GK.core_oblK (o := _) (N := some 22) rfl rfl ?_
          intro x' a' ha w' hI hF K hK
          simp only [G.putAll, Act.put, List.setIfInBounds_toArray, List.set_cons_zero, List.set_cons_succ, Nat.reduceAdd] at ha
          subst ha
          refine value_ (w1 := ?_) (v := ?_) (by rfl) rfl ?_ ?_
          rotate_left 2
          · go_simp
            constructor
            · rfl
            · rfl
          refine hK.out _ _ (Below.refl _ _) ?_
          change _ = _
          with_reducible rfl
        case c4 =>
          intro his
          refine GK.core_oblK (o := _) (N := some 24) rfl rfl ?_
          intro x' a' ha w' hI hF K hK
          have s1 : x' 1 = _ := hF 1 (by kernel_rfl)
          obtain ⟨A4, c4, s3, hy⟩ := (hF 3 (by kernel_rfl) : AggF _ _ y (x' 3) w')
          simp only [G.putAll, Act.put, List.setIfInBounds_toArray, List.set_cons_zero, List.set_cons_succ, Nat.reduceAdd, s1, s3] at ha
          subst ha
          refine value_ (w1 := ?_) (v := ?_) (by rfl) rfl ?_ ?_
          rotate_left 2
          · go_simp
            constructor
            · rfl
            · rfl
          refine hK.out _ _ (below_alloc (Below.refl _ _) _) ?_
          exact ⟨_, rfl, lit2 (by have := hI.size; have := HB1.out.size; omega) ⟨by have := hI.size; have := HB1.out.size; omega, by have := hI.size; have := blk_lt HO1.out; omega, by have := hI.size; have := blk_lt BX1.out; omega⟩ (HX1.out.grown hI (fun k hk => by have := hk.1; omega)) hy⟩
        case c5 =>
          intro his
          refine GK.core_oblK (o := _) (N := some 25) rfl rfl ?_
          intro x' a' ha w' hI hF K hK
          have s0 : x' 0 = _ := hF 0 (by kernel_rfl)
          obtain ⟨b4, s4, hz⟩ := (hF 4 (by kernel_rfl) : SlcF _ _ [x, y] (x' 4) w'); rw [s4] at hz
          simp only [G.putAll, Act.put, List.setIfInBounds_toArray, List.set_cons_zero, List.set_cons_succ, Nat.reduceAdd, s0, s4] at ha
          subst ha
          refine value_ (w1 := ?_) (v := ?_) (by rfl) rfl ?_ ?_
          rotate_left 2
          · go_simp
            constructor
            · rfl
            · rfl
          refine hK.out _ _ (Below.refl _ _) ?_
          exact ⟨_, _, rfl, hz⟩
        case sp =>
          refine GK.spec_oblK (o := _) (N := some 23) rfl rfl ?_
          intro x' a' ha w' hI hF K hK
          have s2 : x' 2 = _ := hF 2 (by kernel_rfl)
          simp only [G.putAll, Act.put, List.setIfInBounds_toArray, List.set_cons_zero, List.set_cons_succ, Nat.reduceAdd, s2] at ha
          subst ha
          have eg := eOf 123 Tryd.func123 (by kernel_rfl) rfl
          refine GK.enterK 123 #[ptr X] (by rfl) rfl ?_ ?_
          · go_simp
          · with_reducible refine (HG.out.calls (i + 1) l _ HR1.out _ (HS1.out.below hI)).mono ?_
            rintro e w3 ⟨v3, rfl, hy, HB', HS'⟩
            obtain ⟨A4, c4, rfl⟩ := Kd.R_slice hy
            have hz := hI.size
            have hz2 := HB1.out.size
            refine hK.out _ _ HB' HS' ⟨A4, c4, rfl, RX.weak (ok := fun k => w'.heap.size ≤ k) hy (by omega) (fun k h1 h2 h3 => ⟨by omega, by have := blk_lt HO1.out; omega, by have := blk_lt BX1.out; omega⟩)⟩
        case tl =>
          intro x' w' hI HS5 hF
          have s0 : x' 0 = _ := hF 0 (by omega)
          have s1 : x' 1 = _ := hF 1 (by omega)
          have s2 : x' 2 = _ := hF 2 (by omega)
          obtain ⟨A4, c4, s3, _⟩ := (hF 3 (by omega) : AggF _ _ y (x' 3) w')
          obtain ⟨b4, s4, _⟩ := (hF 4 (by omega) : SlcF _ _ [x, y] (x' 4) w')
          obtain ⟨A5, c5, s5, hz⟩ := (hF 5 (by omega) : AggF _ _ ⟨o, 0, ⟨#[]⟩, [x, y]⟩ (x' 5) w')
          clear hF
          refine G.tail_succ (i := 6) (o := _) (N := none) (by rfl) rfl rfl ?_
          intro a' ha K hK
          simp (decide := true) only [G.putAll, Act.put, List.setIfInBounds_toArray, List.set_cons_zero, List.set_cons_succ, Nat.reduceAdd, G.upd, if_true, if_false, ↓reduceIte, s0, s1, s2, s3, s4, s5] at ha
          subst ha
          have BX2 := Aside0.mk ((hI.block xb (blk_lt BX1.out) (by intro e; injection e with e; exact hxp e)).trans BX1.out)
          have HO2 := Aside0.mk ((hI.block ob (blk_lt HO1.out) (by intro e; injection e with e; exact hob e)).trans HO1.out)
          have x0 := blk_cell BX2.out 0
          have x1 := blk_cell BX2.out 1
          have x2 := blk_cell BX2.out 2
          have x3 := blk_cell BX2.out 3
          simp at x0 x1 x2 x3
          have f0 := blk_frozen BX2.out 0
          have f1 := blk_frozen BX2.out 1
          have f2 := blk_frozen BX2.out 2
          have f3 := blk_frozen BX2.out 3
          refine skip_ (w1 := ?_) (by rfl) rfl ?_ ?_
          rotate_left
          · go_simp
            rfl
          refine hK.out undef _ ?_
          clear hK K x0 x1 x2 x3 f0 f1 f2 f3
          refine G.tail_zero ?_
          intro a' ha
          simp (decide := true) only [G.putAll, Act.put, List.setIfInBounds_toArray, List.set_cons_zero, List.set_cons_succ, Nat.reduceAdd, G.upd, if_true, if_false, ↓reduceIte, s0, s1, s2, s3, s4, s5] at ha
          subst ha
          clear s0 s1 s2 s3 s4 s5
          have hxb1 : w.heap.size ≤ xb := by omega
          have HB2 := Aside0.mk (grown_new (grown_new (grown_new (grown_new (World.grownBy.trans HB1.out hI) hxb1 0 (.int .i64 o)) hxb1 1 (.int .i64 0)) hxb1 2 (.string (⟨#[]⟩ : ByteArray))) hxb1 3 (.slice A5 2 c5))
          have HS2 := Aside0.mk ((((HS5.far HS0.out hxb1 0 (.int .i64 o)).far HS0.out hxb1 1 (.int .i64 0)).far HS0.out hxb1 2 (.string (⟨#[]⟩ : ByteArray))).far HS0.out hxb1 3 (.slice A5 2 c5))
          have HX2 := Aside0.mk (((((show RX w' w.heap.size (fun k => w.heap.size ≤ k ∧ k ≠ ob ∧ k ≠ xb) (.slice A5 2 c5) [x, y] from hz).far (g := xb) (fun k hk => hk.2.2) 0 (.int .i64 o)).far (g := xb) (fun k hk => hk.2.2) 1 (.int .i64 0)).far (g := xb) (fun k hk => hk.2.2) 2 (.string (⟨#[]⟩ : ByteArray))).far (g := xb) (fun k hk => hk.2.2) 3 (.slice A5 2 c5))
          have BX3 := Aside0.mk (put4_blk BX2.out (.int .i64 o) (.int .i64 0) (.string (⟨#[]⟩ : ByteArray)) (.slice A5 2 c5))
          have HO3 := Aside0.mk (blk_far (p := ⟨xb, 3, none⟩) (blk_far (p := ⟨xb, 2, none⟩) (blk_far (p := ⟨xb, 1, none⟩) (blk_far (p := ⟨xb, 0, none⟩) HO2.out (show ob ≠ xb by omega) (.int .i64 o)) (show ob ≠ xb by omega) (.int .i64 0)) (show ob ≠ xb by omega) (.string (⟨#[]⟩ : ByteArray))) (show ob ≠ xb by omega) (.slice A5 2 c5))
          clear HS5 hz BX2 HO2 hI
          simp only [put4] at BX3
          have HX := Aside0.mk (RX.weak (B' := w.heap.size) (ok' := fun k => w.heap.size ≤ k ∧ k ≠ ob) HX2.out (Nat.le_refl _) (fun k h1 _ _ => ⟨h1.1, h1.2.1⟩))
          have HO := Aside0.mk HO3.out
          have HB := Aside0.mk HB2.out
          have HS := Aside0.mk HS2.out
          generalize (((w'.setCell ⟨xb, 0, none⟩ (.int .i64 o)).setCell ⟨xb, 1, none⟩ (.int .i64 0)).setCell ⟨xb, 2, none⟩ (.string (⟨#[]⟩ : ByteArray))).setCell ⟨xb, 3, none⟩ (.slice A5 2 c5) = W6 at *
          have x0 := blk_cell BX3.out 0
          have x1 := blk_cell BX3.out 1
          have x2 := blk_cell BX3.out 2
          have x3 := blk_cell BX3.out 3
          simp at x0 x1 x2 x3
          have HE := Aside0.mk (Post.laid (x := ⟨o, 0, ⟨#[]⟩, [x, y]⟩) HS0.out hob1 HB.out HS.out HX.out (.int .i64 o) (.int .i64 0) (.string (⟨#[]⟩ : ByteArray)) (.slice A5 2 c5))
          have HZ := Aside0.mk (put4_blk HO.out (.int .i64 o) (.int .i64 0) (.string (⟨#[]⟩ : ByteArray)) (.slice A5 2 c5))
          have o0 := blk_cell HO.out 0
          have o1 := blk_cell HO.out 1
          have o2 := blk_cell HO.out 2
          have o3 := blk_cell HO.out 3
          have f0 := blk_frozen HO.out 0
          have f1 := blk_frozen HO.out 1
          have f2 := blk_frozen HO.out 2
          have f3 := blk_frozen HO.out 3
          simp at o0 o1 o2 o3
          go_wp2_with fail
          refine bodyPost_ret (v := .agg #[.int .i64 o, .int .i64 0, .string (⟨#[]⟩ : ByteArray), .slice A5 2 c5]) ?_ rfl HE.out
          clear o0 o1 o2 o3 f0 f1 f2 f3
          have o0 := blk_cell HZ.out 0
          have o1 := blk_cell HZ.out 1
          have o2 := blk_cell HZ.out 2
          have o3 := blk_cell HZ.out 3
          simp at o0 o1 o2 o3
          simp [results, Tryd.results117, go_sem, o0, o1, o2, o3]⟩
end Go.Proofs.YtbbopomecanaoaaDoor.A
namespace Go.Proofs.YtbbopomecanaoaaDoor.A
open Go.RowKit Go.Proofs.YtbbopomecanaoaaDoorW.PrintWords Go.Proofs.YtbbopomecanaoaaDoorW.PrintLast Go.Proofs.YtbbopomecanaoaaDoorW.PrintMore Go.Proofs.YtbbopomecanaoaaDoor.XK
open Go.Proofs.YtbbopomecanaoaaDoor
attribute [local go_sem] max2_int min2_int max_two min_two max_three min_three max_four min_four fld1 fld3
set_option linter.unusedVariables false
set_option linter.unusedSimpArgs false
theorem function_f (s : ByteArray) : equation_function.f 11 s = some (fnOp s) := by
  have step : ∀ k op t, op ≤ 22 → equation_call.f op = some t → equation_function.l0 (k + 1) s op = if t.toList = s.toList then some op else equation_function.l0 k s (wrap64 (op + 1)) := by
    intro k op t h1 h2
    rw [equation_function.l0, if_pos h1, h2]
    rfl
  show equation_function.l0 11 s 13 = _
  unfold fnOp
  rw [step 10 13 (bs [109, 105, 110]) (by decide) rfl, bs_list, show wrap64 (13 + 1) = 14 from by kernel_rfl]
  by_cases h13 : s.toList = [109, 105, 110]
  · rw [if_pos h13.symm, if_pos h13]
  rw [if_neg (fun e => h13 e.symm), if_neg h13]
  rw [step 9 14 (bs [109, 97, 120]) (by decide) rfl, bs_list, show wrap64 (14 + 1) = 15 from by kernel_rfl]
  by_cases h14 : s.toList = [109, 97, 120]
  · rw [if_pos h14.symm, if_pos h14]
  rw [if_neg (fun e => h14 e.symm), if_neg h14]
  rw [step 8 15 (bs [97, 98, 115]) (by decide) rfl, bs_list, show wrap64 (15 + 1) = 16 from by kernel_rfl]
  by_cases h15 : s.toList = [97, 98, 115]
  · rw [if_pos h15.symm, if_pos h15]
  rw [if_neg (fun e => h15 e.symm), if_neg h15]
  rw [step 7 16 (bs [105, 102]) (by decide) rfl, bs_list, show wrap64 (16 + 1) = 17 from by kernel_rfl]
  by_cases h16 : s.toList = [105, 102]
  · rw [if_pos h16.symm, if_pos h16]
  rw [if_neg (fun e => h16 e.symm), if_neg h16]
  rw [step 6 17 (bs [114, 105, 115, 101]) (by decide) rfl, bs_list, show wrap64 (17 + 1) = 18 from by kernel_rfl]
  by_cases h17 : s.toList = [114, 105, 115, 101]
  · rw [if_pos h17.symm, if_pos h17]
  rw [if_neg (fun e => h17 e.symm), if_neg h17]
  rw [step 5 18 (bs [102, 97, 108, 108]) (by decide) rfl, bs_list, show wrap64 (18 + 1) = 19 from by kernel_rfl]
  by_cases h18 : s.toList = [102, 97, 108, 108]
  · rw [if_pos h18.symm, if_pos h18]
  rw [if_neg (fun e => h18 e.symm), if_neg h18]
  rw [step 4 19 (bs [100, 101, 108, 97, 121]) (by decide) rfl, bs_list, show wrap64 (19 + 1) = 20 from by kernel_rfl]
  by_cases h19 : s.toList = [100, 101, 108, 97, 121]
  · rw [if_pos h19.symm, if_pos h19]
  rw [if_neg (fun e => h19 e.symm), if_neg h19]
  rw [step 3 20 (bs [104, 111, 108, 100]) (by decide) rfl, bs_list, show wrap64 (20 + 1) = 21 from by kernel_rfl]
  by_cases h20 : s.toList = [104, 111, 108, 100]
  · rw [if_pos h20.symm, if_pos h20]
  rw [if_neg (fun e => h20 e.symm), if_neg h20]
  rw [step 2 21 (bs [108, 97, 116, 99, 104]) (by decide) rfl, bs_list, show wrap64 (21 + 1) = 22 from by kernel_rfl]
  by_cases h21 : s.toList = [108, 97, 116, 99, 104]
  · rw [if_pos h21.symm, if_pos h21]
  rw [if_neg (fun e => h21 e.symm), if_neg h21]
  rw [step 1 22 (bs [99, 111, 117, 110, 116]) (by decide) rfl, bs_list, show wrap64 (22 + 1) = 23 from by kernel_rfl]
  by_cases h22 : s.toList = [99, 111, 117, 110, 116]
  · rw [if_pos h22.symm, if_pos h22]
  rw [if_neg (fun e => h22 e.symm), if_neg h22]
  rfl
theorem fnOp_range {s : ByteArray} (h : fnOp s ≠ 0) : 13 ≤ fnOp s ∧ fnOp s ≤ 22 := by
  have h0 : ∀ x, fnOp s = x → x = 0 ∨ (13 ≤ x ∧ x ≤ 22) := by
    intro x hx
    unfold fnOp at hx
    repeat' split at hx
    all_goals (subst hx; decide)
  exact (h0 _ rfl).resolve_left h
theorem arity_f {op : Int} (h1 : 13 ≤ op) (h2 : op ≤ 22) : equation_arity.f 3 op = some ((arityN op : Nat) : Int) := by
  have : op = 13 ∨ op = 14 ∨ op = 15 ∨ op = 16 ∨ op = 17 ∨ op = 18 ∨ op = 19 ∨ op = 20 ∨ op = 21 ∨ op = 22 := by omega
  rcases this with rfl | rfl | rfl | rfl | rfl | rfl | rfl | rfl | rfl | rfl <;> rfl
theorem arity_le (op : Int) : arityN op ≤ 3 := by
  unfold arityN
  split
  · decide
  · split <;> decide
theorem infoE : (Tryd.prog.info? 24).map (fun i => (i.zero, i.size, i.bytes)) = some (some (.agg zE), 4, 56) := by kernel_rfl
theorem PS.num {X : Cx} {w : World} {i : Nat} {l : Int} (h : PS X w i l) (h2 : (pk X.ts X.en i).f0 = 2) : i + 1 ≤ X.ts.length := by
  unfold pk at h2
  split at h2
  · omega
  · exact absurd h2 (show ¬ ((0 : Int) = 2) by decide)
theorem PS.keep {X : Cx} {w0 w w1 : World} {i i0 : Nat} {l l0 : Int} (h : PS X w i l) (h0 : PS X w0 i0 l0) (hb : Below w0.heap.size w w1) : PS X w1 i l := by
  have hp := h0.lt
  refine ⟨(hb.block _ hp).trans h.blk, ⟨fun q hq => ?_⟩, h.le, h.few, h.low, h.words⟩
  obtain ⟨ad, e, hb', c0, c1, c2, c3⟩ := h.toks.at_ q hq
  obtain ⟨ad', e', hb2, c0', _⟩ := h0.toks.at_ q hq
  obtain rfl : ad' = ad := Option.some.inj (e'.symm.trans e)
  have hlt := World.block_lt_of_cell? w0 _ c0'
  rw [add_block] at hlt
  have mv : ∀ (a : Addr) (v : Value), a.block = ad'.block → w.cell? a = some v → w1.cell? a = some v := by
    intro a v ha hc
    have := hb.block a.block (by rw [ha]; exact hlt)
    simpa [World.cell?, this] using hc
  exact ⟨ad', e, hb', mv _ _ (add_block _ _) c0, mv _ _ (add_block _ _) c1, mv _ _ (add_block _ _) c2, mv _ _ (add_block _ _) c3⟩
theorem grown_low {w w1 w2 : World} {row : Option Nat} (h : w.grownBy w1 row) (hb : Below w.heap.size w1 w2) : w.grownBy w2 row :=
  ⟨hb.os.trans h.os, hb.tape.trans h.tape, hb.output.trans h.output, Nat.le_trans h.size hb.size, fun k hk hne => (hb.block k hk).trans (h.block k hk hne)⟩
structure St (X : Cx) (w : World) (ob xb : Nat) (x : E) (A : Option Addr) (c : Nat) (i : Nat) (l : Int) (wr : World) : Prop where
  bo : wr.heap[ob]? = some (.cells zE 24 (0, 0))
  bx : wr.heap[xb]? = some (.cells (cE x (.slice A x.f3.length c)) 24 (0, 0))
  rx : RX wr w.heap.size (fun k => w.heap.size ≤ k ∧ k ≠ ob ∧ k ≠ xb) (.slice A x.f3.length c) x.f3
  gb : w.grownBy wr (some X.pb)
  ps : PS X wr i l
  lo : X.pb < w.heap.size
  ho : w.heap.size ≤ ob
  hx : w.heap.size ≤ xb
  ne : ob ≠ xb
section
variable {X : Cx} {w wr w1 : World} {ob xb : Nat} {x : E} {A : Option Addr} {c i : Nat} {l : Int}
theorem St.grown (h : St X w ob xb x A c i l wr) {i' : Nat} {l' : Int} (hg : wr.grownBy w1 (some X.pb)) (hp : PS X w1 i' l') : St X w ob xb x A c i' l' w1 :=
  ⟨(hg.block _ (blk_lt h.bo) (by have := h.lo; have := h.ho; intro e; injection e with e; omega)).trans h.bo, (hg.block _ (blk_lt h.bx) (by have := h.lo; have := h.hx; intro e; injection e with e; omega)).trans h.bx,
   h.rx.grown hg (fun k hk => by have := hk.1; have := h.lo; omega), World.grownBy.trans h.gb hg, hp, h.lo, h.ho, h.hx, h.ne⟩
theorem St.below (h : St X w ob xb x A c i l wr) (hb : Below wr.heap.size wr w1) : St X w ob xb x A c i l w1 :=
  h.grown (grown_of_below hb _) (h.ps.below hb)
theorem St.setN (h : St X w ob xb x A c i l wr) (h0 : ∃ i0 l0, PS X w i0 l0) (n : Int) : St X w ob xb ⟨x.f0, n, x.f2, x.f3⟩ A c i l (wr.setCell ⟨xb, 1, none⟩ (.int .i64 n)) := by
  obtain ⟨i0, l0, h0⟩ := h0
  exact ⟨blk_far (p := ⟨xb, 1, none⟩) h.bo h.ne _, blk_put h.bx 1 _ rfl, h.rx.far (g := xb) (fun k hk => hk.2.2) 1 _, grown_new h.gb h.hx 1 _, h.ps.far h0 h.hx 1 _, h.lo, h.ho, h.hx, h.ne⟩
theorem St.kids (h : St X w ob xb x A c i l wr) (h0 : ∃ i0 l0, PS X w i0 l0) {ys : List E} {A1 : Option Addr} {c1 : Nat} (hr : RX w1 w.heap.size (fun k => w.heap.size ≤ k ∧ k ≠ ob ∧ k ≠ xb) (.slice A1 ys.length c1) ys)
    (hb : Below w.heap.size wr w1) (hg : wr.grownBy w1 (Value.slice A x.f3.length c).ownBlock) : St X w ob xb ⟨x.f0, x.f1, x.f2, ys⟩ A1 c1 i l (w1.setCell ⟨xb, 3, none⟩ (.slice A1 ys.length c1)) := by
  obtain ⟨i0, l0, h0⟩ := h0
  have hob := (hg.block ob (blk_lt h.bo) (fun e => (h.rx.1 ob e.symm).2.1 rfl)).trans h.bo
  have hxb := (hg.block xb (blk_lt h.bx) (fun e => (h.rx.1 xb e.symm).2.2 rfl)).trans h.bx
  exact ⟨blk_far (p := ⟨xb, 3, none⟩) hob h.ne _, blk_put hxb 3 _ rfl, hr.far (g := xb) (fun k hk => hk.2.2) 3 _, grown_new (grown_low h.gb hb) h.hx 3 _, (h.ps.keep h0 hb).far h0 h.hx 3 _, h.lo, h.ho, h.hx, h.ne⟩
theorem St.xcell (h : St X w ob xb x A c i l wr) (j : Nat) : wr.cell? ⟨xb, j, none⟩ = (cE x (.slice A x.f3.length c))[j]? := blk_cell h.bx j
end
set_option maxRecDepth 100000 in
set_option maxHeartbeats 3000000 in
theorem call_calls (X : Cx) (ex : Nat → Int → Option Res) (hg : OpdF X 61 ex) (op : Int) (h1 : 13 ≤ op) (h2 : op ≤ 22) (i : Nat) (l : Int) (r : Res) (hr : callP X.ts X.en ex op i l = some r) (w : World) (hs : PS X w i l) :
    Calls Tryd.prog 131 #[ptr X, .int .i64 op] w fun e w' => Post X w r e w' := by
  have HG := Aside0.mk hg
  have HS0 := Aside0.mk hs
  have HR := Aside0.mk hr
  have hplt := hs.lt
  have HA := Aside0.mk (equation_arity.calls 3 op _ ((w.alloc (.cells zE 24)).alloc (.cells (cE ⟨op, 0, ⟨#[]⟩, []⟩ (.slice none 0 0)) 24)) (arity_f h1 h2))
  have hle := arity_le op
  clear hg hs hr
  have hb1 := below_alloc (Below.refl w.heap.size w) (.cells zE 24)
  have hb2 := below_alloc (Below.refl _ (w.alloc (.cells zE 24))) (.cells (cE ⟨op, 0, ⟨#[]⟩, []⟩ (.slice none 0 0)) 24)
  have HT : Aside0 (St X w w.heap.size (w.heap.size + 1) ⟨op, 0, ⟨#[]⟩, []⟩ none 0 i l ((w.alloc (.cells zE 24)).alloc (.cells (cE ⟨op, 0, ⟨#[]⟩, []⟩ (.slice none 0 0)) 24))) := ⟨by
    have hx := heap_alloc_new (w.alloc (.cells zE 24)) (.cells (cE ⟨op, 0, ⟨#[]⟩, []⟩ (.slice none 0 0)) 24)
    rw [World.size_alloc] at hx
    exact ⟨blk_below (heap_alloc_new w (.cells zE 24)) hb2, hx, Kd.R_nil _ _ _ _ _, World.grownBy.trans (grown_of_below hb1 _) (grown_of_below hb2 _), (HS0.out.below hb1).below hb2, hplt, Nat.le_refl _, by omega, by omega⟩⟩
  have hsz : (w.alloc (.cells zE 24)).heap.size = w.heap.size + 1 := World.size_alloc _ _
  clear hb1 hb2
  go_enter Tryd.func131, Tryd.ntmps131
  go_wp2_with fail
  generalize (w.alloc (.cells zE 24)).alloc (.cells (cE ⟨op, 0, ⟨#[]⟩, []⟩ (.slice none 0 0)) 24) = W1 at *
  generalize (w.alloc (.cells zE 24)).heap.size = xb at *
  subst hsz
  obtain ⟨ob, hob⟩ : ∃ ob, w.heap.size = ob := ⟨_, rfl⟩
  obtain ⟨xb, hxb⟩ : ∃ xb, w.heap.size + 1 = xb := ⟨_, rfl⟩
  replace HT : Aside0 (St X w ob xb ⟨op, 0, ⟨#[]⟩, []⟩ none 0 i l W1) := ⟨by have := HT.out; rw [hxb] at this; rw [hob] at this; exact this⟩
  rw [hxb] at ⊢
  rw [hob] at ⊢
  clear hob hxb hplt
  have hr := HR.out
  unfold callP at hr
  clear HR
  by_cases hw : (pk X.ts X.en i).f3.toList = [40]
  case neg =>
    rw [if_pos hw] at hr
    obtain rfl : Res.fail _ = r := Option.some.inj hr
    with_reducible refine (want_no (s := bs [40]) HT.out.ps (fun e => absurd (e.trans (bs_list [40])) hw)).mono ?_
    rintro e w2 ⟨rfl, HB1⟩
    exact ⟨rfl, rfl, World.grownBy.trans HT.out.gb (grown_of_below HB1 _)⟩
  rw [if_neg (fun h => h hw)] at hr
  with_reducible refine (want_yes (s := bs [40]) HT.out.ps (by rw [bs_list]; decide) (hw.trans (bs_list [40]).symm)).mono ?_
  clear hw
  rintro e w2 ⟨rfl, HB1, HS1⟩
  replace HT := Aside0.mk (HT.out.grown HB1 HS1)
  clear HB1 HS1
  replace HA := Aside0.mk (equation_arity.calls 3 op _ w2 (arity_f h1 h2))
  obtain ⟨rl, hrl⟩ : ∃ rl, argsP X.ts X.en ex (arityN op) 0 [] (i + 1) l = some rl := by
    cases ho : argsP X.ts X.en ex (arityN op) 0 [] (i + 1) l with
    | none => rw [ho] at hr; cases hr
    | some r1 => exact ⟨r1, rfl⟩
  rw [hrl] at hr
  generalize arityN op = n at *
  have HRL := Aside0.mk hrl
  have HR := Aside0.mk hr
  have HN := Aside0.mk hle
  have H12 := Aside0.mk (And.intro h1 h2)
  clear hr hrl h1 h2
  go_wp2_with fail
  with_reducible refine HA.out.mono ?_
  rintro e w3 ⟨rfl, HD⟩
  replace HT := Aside0.mk (HT.out.below HD.below)
  clear HD HA
  go_wp2_with fail
  go_loopg [13] n (fun gk v13 wr => ∃ (j : Nat) (xs : List E) (A : Option Addr) (c i : Nat) (l : Int), v13 = .int .i64 (j : Int) ∧ Aside0 (j + gk = n ∧ xs.length = j) ∧ Aside0 (argsP X.ts X.en ex gk j xs i l = some rl) ∧ Aside0 (St X w ob xb ⟨op, 0, ⟨#[]⟩, xs⟩ A c i l wr))
  case atStart => exact ⟨0, [], none, 0, i + 1, l, rfl, ⟨by omega, rfl⟩, HRL, HT⟩
  case round =>
    clear HRL HT
    obtain ⟨j, xs, A, c, i, l, rfl, HJ, HRL, HT⟩ := hrel
    have HL := Aside0.mk HJ.out.2
    have hrl := HRL.out
    clear HRL
    cases gk with
    | zero =>
      obtain rfl : ResL.ok xs i l = rl := Option.some.inj hrl
      have hr : some (stepsP X.ts X.en op xs i l) = some r := HR.out
      replace hr := Option.some.inj hr
      obtain rfl : j = n := by have := HJ.out.1; omega
      clear HR hrl
      by_cases h19 : op = 19
      · subst h19
        go_wp2_with fail
        unfold stepsP at hr
        rw [if_pos (Or.inl rfl)] at hr
        by_cases hw : (pk X.ts X.en i).f3.toList = [44]
        case neg =>
          rw [if_pos hw] at hr
          subst hr
          with_reducible refine (want_no (s := bs [44]) HT.out.ps (fun e => absurd (e.trans (bs_list [44])) hw)).mono ?_
          rintro e w4 ⟨rfl, HB1⟩
          exact ⟨rfl, rfl, World.grownBy.trans HT.out.gb (grown_of_below HB1 _)⟩
        rw [if_neg (fun h => h hw)] at hr
        with_reducible refine (want_yes (s := bs [44]) HT.out.ps (by rw [bs_list]; decide) (hw.trans (bs_list [44]).symm)).mono ?_
        clear hw
        rintro e w4 ⟨rfl, HB1, HS1⟩
        replace HT := Aside0.mk (HT.out.grown HB1 HS1)
        clear HB1 HS1
        by_cases hk : (pk X.ts X.en (i + 1)).f0 = 2
        case neg =>
          rw [if_pos hk] at hr
          subst hr
          go_wp2_with fail
          with_reducible refine (steps_calls_no HT.out.ps hk).mono ?_
          rintro e w5 ⟨rfl, HB1⟩
          exact ⟨rfl, rfl, World.grownBy.trans HT.out.gb (grown_of_below HB1 _)⟩
        rw [if_neg (fun h => h hk)] at hr
        have HSY := Aside0.mk (steps_calls_yes HT.out.ps hk (PS.num HT.out.ps hk))
        clear hk
        generalize (pk X.ts X.en (i + 1)).f2 = n at *
        generalize longN X.ts X.en (i + 1) l = l' at *
        go_wp2_with fail
        with_reducible refine HSY.out.mono ?_
        clear HSY
        rintro e w5 ⟨rfl, HB1, HS1⟩
        replace HT := Aside0.mk (HT.out.grown HB1 HS1)
        clear HB1 HS1
        have x1 : w5.cell? ⟨xb, 1, none⟩ = some (.int .i64 0) := HT.out.xcell 1
        have f1 : w5.frozen? ⟨xb, 1, none⟩ = false := blk_frozen HT.out.bx 1
        replace HT := Aside0.mk (HT.out.setN ⟨_, _, HS0.out⟩ n)
        by_cases hw : (pk X.ts X.en (i + 2)).f3.toList = [41]
        case neg =>
          rw [if_pos hw] at hr
          subst hr
          go_wp2_with fail
          with_reducible refine (want_no (s := bs [41]) HT.out.ps (fun e => absurd (e.trans (bs_list [41])) hw)).mono ?_
          rintro e w6 ⟨rfl, HB1⟩
          exact ⟨rfl, rfl, World.grownBy.trans HT.out.gb (grown_of_below HB1 _)⟩
        rw [if_neg (fun h => h hw)] at hr
        subst hr
        have HWY := Aside0.mk (want_yes (s := bs [41]) HT.out.ps (by rw [bs_list]; decide) (hw.trans (bs_list [41]).symm))
        clear hw
        go_wp2_with fail
        clear x1 f1
        with_reducible refine HWY.out.mono ?_
        clear HWY
        rintro e w6 ⟨rfl, HB1, HS1⟩
        replace HT := Aside0.mk (HT.out.grown HB1 HS1)
        clear HB1 HS1
        have HO := Aside0.mk HT.out.bo
        have HB := Aside0.mk HT.out.gb
        have HS := Aside0.mk HT.out.ps
        have hob1 := HT.out.ho
        have HX := Aside0.mk (RX.weak (B' := w.heap.size) (ok' := fun k => w.heap.size ≤ k ∧ k ≠ ob) HT.out.rx (Nat.le_refl _) (fun k h1 _ _ => ⟨h1.1, h1.2.1⟩))
        have x0 := HT.out.xcell 0
        have x1 := HT.out.xcell 1
        have x2 := HT.out.xcell 2
        have x3 := HT.out.xcell 3
        simp at x0 x1 x2 x3
        clear HT
        have HE := Aside0.mk (Post.laid (x := ⟨19, n, ⟨#[]⟩, xs⟩) HS0.out hob1 HB.out HS.out HX.out (.int .i64 19) (.int .i64 n) (.string (⟨#[]⟩ : ByteArray)) (.slice A xs.length c))
        have HZ := Aside0.mk (put4_blk HO.out (.int .i64 19) (.int .i64 n) (.string (⟨#[]⟩ : ByteArray)) (.slice A xs.length c))
        have o0 := blk_cell HO.out 0
        have o1 := blk_cell HO.out 1
        have o2 := blk_cell HO.out 2
        have o3 := blk_cell HO.out 3
        have f0 := blk_frozen HO.out 0
        have f1 := blk_frozen HO.out 1
        have f2 := blk_frozen HO.out 2
        have f3 := blk_frozen HO.out 3
        simp at o0 o1 o2 o3
        go_wp2_with fail
        refine bodyPost_ret (v := .agg #[.int .i64 19, .int .i64 n, .string (⟨#[]⟩ : ByteArray), .slice A xs.length c]) ?_ rfl HE.out
        clear o0 o1 o2 o3 f0 f1 f2 f3
        have o0 := blk_cell HZ.out 0
        have o1 := blk_cell HZ.out 1
        have o2 := blk_cell HZ.out 2
        have o3 := blk_cell HZ.out 3
        simp at o0 o1 o2 o3
        simp [results, Tryd.results131, go_sem, o0, o1, o2, o3]
      by_cases h20 : op = 20
      · subst h20
        clear h19
        go_wp2_with fail
        unfold stepsP at hr
        rw [if_pos (Or.inr rfl)] at hr
        by_cases hw : (pk X.ts X.en i).f3.toList = [44]
        case neg =>
          rw [if_pos hw] at hr
          subst hr
          with_reducible refine (want_no (s := bs [44]) HT.out.ps (fun e => absurd (e.trans (bs_list [44])) hw)).mono ?_
          rintro e w4 ⟨rfl, HB1⟩
          exact ⟨rfl, rfl, World.grownBy.trans HT.out.gb (grown_of_below HB1 _)⟩
        rw [if_neg (fun h => h hw)] at hr
        with_reducible refine (want_yes (s := bs [44]) HT.out.ps (by rw [bs_list]; decide) (hw.trans (bs_list [44]).symm)).mono ?_
        clear hw
        rintro e w4 ⟨rfl, HB1, HS1⟩
        replace HT := Aside0.mk (HT.out.grown HB1 HS1)
        clear HB1 HS1
        by_cases hk : (pk X.ts X.en (i + 1)).f0 = 2
        case neg =>
          rw [if_pos hk] at hr
          subst hr
          go_wp2_with fail
          with_reducible refine (steps_calls_no HT.out.ps hk).mono ?_
          rintro e w5 ⟨rfl, HB1⟩
          exact ⟨rfl, rfl, World.grownBy.trans HT.out.gb (grown_of_below HB1 _)⟩
        rw [if_neg (fun h => h hk)] at hr
        have HSY := Aside0.mk (steps_calls_yes HT.out.ps hk (PS.num HT.out.ps hk))
        clear hk
        generalize (pk X.ts X.en (i + 1)).f2 = n at *
        generalize longN X.ts X.en (i + 1) l = l' at *
        go_wp2_with fail
        with_reducible refine HSY.out.mono ?_
        clear HSY
        rintro e w5 ⟨rfl, HB1, HS1⟩
        replace HT := Aside0.mk (HT.out.grown HB1 HS1)
        clear HB1 HS1
        have x1 : w5.cell? ⟨xb, 1, none⟩ = some (.int .i64 0) := HT.out.xcell 1
        have f1 : w5.frozen? ⟨xb, 1, none⟩ = false := blk_frozen HT.out.bx 1
        replace HT := Aside0.mk (HT.out.setN ⟨_, _, HS0.out⟩ n)
        by_cases hw : (pk X.ts X.en (i + 2)).f3.toList = [41]
        case neg =>
          rw [if_pos hw] at hr
          subst hr
          go_wp2_with fail
          with_reducible refine (want_no (s := bs [41]) HT.out.ps (fun e => absurd (e.trans (bs_list [41])) hw)).mono ?_
          rintro e w6 ⟨rfl, HB1⟩
          exact ⟨rfl, rfl, World.grownBy.trans HT.out.gb (grown_of_below HB1 _)⟩
        rw [if_neg (fun h => h hw)] at hr
        subst hr
        have HWY := Aside0.mk (want_yes (s := bs [41]) HT.out.ps (by rw [bs_list]; decide) (hw.trans (bs_list [41]).symm))
        clear hw
        go_wp2_with fail
        clear x1 f1
        with_reducible refine HWY.out.mono ?_
        clear HWY
        rintro e w6 ⟨rfl, HB1, HS1⟩
        replace HT := Aside0.mk (HT.out.grown HB1 HS1)
        clear HB1 HS1
        have HO := Aside0.mk HT.out.bo
        have HB := Aside0.mk HT.out.gb
        have HS := Aside0.mk HT.out.ps
        have hob1 := HT.out.ho
        have HX := Aside0.mk (RX.weak (B' := w.heap.size) (ok' := fun k => w.heap.size ≤ k ∧ k ≠ ob) HT.out.rx (Nat.le_refl _) (fun k h1 _ _ => ⟨h1.1, h1.2.1⟩))
        have x0 := HT.out.xcell 0
        have x1 := HT.out.xcell 1
        have x2 := HT.out.xcell 2
        have x3 := HT.out.xcell 3
        simp at x0 x1 x2 x3
        clear HT
        have HE := Aside0.mk (Post.laid (x := ⟨20, n, ⟨#[]⟩, xs⟩) HS0.out hob1 HB.out HS.out HX.out (.int .i64 20) (.int .i64 n) (.string (⟨#[]⟩ : ByteArray)) (.slice A xs.length c))
        have HZ := Aside0.mk (put4_blk HO.out (.int .i64 20) (.int .i64 n) (.string (⟨#[]⟩ : ByteArray)) (.slice A xs.length c))
        have o0 := blk_cell HO.out 0
        have o1 := blk_cell HO.out 1
        have o2 := blk_cell HO.out 2
        have o3 := blk_cell HO.out 3
        have f0 := blk_frozen HO.out 0
        have f1 := blk_frozen HO.out 1
        have f2 := blk_frozen HO.out 2
        have f3 := blk_frozen HO.out 3
        simp at o0 o1 o2 o3
        go_wp2_with fail
        refine bodyPost_ret (v := .agg #[.int .i64 20, .int .i64 n, .string (⟨#[]⟩ : ByteArray), .slice A xs.length c]) ?_ rfl HE.out
        clear o0 o1 o2 o3 f0 f1 f2 f3
        have o0 := blk_cell HZ.out 0
        have o1 := blk_cell HZ.out 1
        have o2 := blk_cell HZ.out 2
        have o3 := blk_cell HZ.out 3
        simp at o0 o1 o2 o3
        simp [results, Tryd.results131, go_sem, o0, o1, o2, o3]
      have b19 : (op == 19) = false := by simpa using h19
      have b20 : (op == 20) = false := by simpa using h20
      unfold stepsP at hr
      rw [if_neg (fun h => h.elim h19 h20)] at hr
      clear h19 h20
      go_wp2_with fail
      clear b19 b20
      by_cases hw : (pk X.ts X.en i).f3.toList = [41]
      case neg =>
        rw [if_pos hw] at hr
        subst hr
        with_reducible refine (want_no (s := bs [41]) HT.out.ps (fun e => absurd (e.trans (bs_list [41])) hw)).mono ?_
        rintro e w4 ⟨rfl, HB1⟩
        exact ⟨rfl, rfl, World.grownBy.trans HT.out.gb (grown_of_below HB1 _)⟩
      rw [if_neg (fun h => h hw)] at hr
      subst hr
      with_reducible refine (want_yes (s := bs [41]) HT.out.ps (by rw [bs_list]; decide) (hw.trans (bs_list [41]).symm)).mono ?_
      clear hw
      rintro e w4 ⟨rfl, HB1, HS1⟩
      replace HT := Aside0.mk (HT.out.grown HB1 HS1)
      clear HB1 HS1
      have HO := Aside0.mk HT.out.bo
      have HB := Aside0.mk HT.out.gb
      have HS := Aside0.mk HT.out.ps
      have hob1 := HT.out.ho
      have HX := Aside0.mk (RX.weak (B' := w.heap.size) (ok' := fun k => w.heap.size ≤ k ∧ k ≠ ob) HT.out.rx (Nat.le_refl _) (fun k h1 _ _ => ⟨h1.1, h1.2.1⟩))
      have x0 := HT.out.xcell 0
      have x1 := HT.out.xcell 1
      have x2 := HT.out.xcell 2
      have x3 := HT.out.xcell 3
      simp at x0 x1 x2 x3
      clear HT
      have HE := Aside0.mk (Post.laid (x := ⟨op, 0, ⟨#[]⟩, xs⟩) HS0.out hob1 HB.out HS.out HX.out (.int .i64 op) (.int .i64 0) (.string (⟨#[]⟩ : ByteArray)) (.slice A xs.length c))
      have HZ := Aside0.mk (put4_blk HO.out (.int .i64 op) (.int .i64 0) (.string (⟨#[]⟩ : ByteArray)) (.slice A xs.length c))
      have o0 := blk_cell HO.out 0
      have o1 := blk_cell HO.out 1
      have o2 := blk_cell HO.out 2
      have o3 := blk_cell HO.out 3
      have f0 := blk_frozen HO.out 0
      have f1 := blk_frozen HO.out 1
      have f2 := blk_frozen HO.out 2
      have f3 := blk_frozen HO.out 3
      simp at o0 o1 o2 o3
      go_wp2_with fail
      refine bodyPost_ret (v := .agg #[.int .i64 op, .int .i64 0, .string (⟨#[]⟩ : ByteArray), .slice A xs.length c]) ?_ rfl HE.out
      clear o0 o1 o2 o3 f0 f1 f2 f3
      have o0 := blk_cell HZ.out 0
      have o1 := blk_cell HZ.out 1
      have o2 := blk_cell HZ.out 2
      have o3 := blk_cell HZ.out 3
      simp at o0 o1 o2 o3
      simp [results, Tryd.results131, go_sem, o0, o1, o2, o3]
    | succ gk =>
      rw [argsP] at hrl
      have hlt : decide ((j : Int) < (n : Int)) = true := by have := HJ.out.1; simp; omega
      have hn3 := HN.out
      have hj3 := HJ.out.1
      by_cases hj : 0 < j
      · have hjd : decide ((0 : Int) < (j : Int)) = true := by simp; omega
        by_cases hw : (pk X.ts X.en i).f3.toList = [44]
        · rw [if_neg (fun h => h.2 hw), if_pos hj] at hrl
          go_wp2_with fail
          with_reducible refine (want_yes (s := bs [44]) HT.out.ps (by rw [bs_list]; decide) (hw.trans (bs_list [44]).symm)).mono ?_
          clear hw
          rintro e w4 ⟨rfl, HB1, HS1⟩
          replace HT := Aside0.mk (HT.out.grown HB1 HS1)
          clear HB1 HS1
          go_wp2_with fail
          generalize w4 = W5 at *
          obtain ⟨r1, hr1⟩ : ∃ r1, ex (i + 1) l = some r1 := by
            cases ho : ex (i + 1) l with
            | none => rw [ho] at hrl; cases hrl
            | some r1 => exact ⟨r1, rfl⟩
          rw [hr1] at hrl
          have HR1 := Aside0.mk hr1
          clear hr1 hlt hjd
          cases r1 with
          | fail a =>
            obtain rfl : ResL.fail a = rl := Option.some.inj hrl
            obtain rfl : Res.fail a = r := Option.some.inj HR.out
            clear HR hrl
            have BX1 := Aside0.mk HT.out.bx
            have hxp : xb ≠ X.pb := by have := HT.out.lo; have := HT.out.hx; omega
            refine GK.plainK (m := 5) (n := 8) (t := 3) (s := 3) (row := some X.pb) (R := fun _ => True) [some 20, some 21, some 22, some 23, some 24, some 25, some 26, none] [G.Is (.pointer (some ⟨xb, 3, none⟩)), G.Is (.slice A xs.length c), G.Is (ptr X), fun _ _ => False, fun _ _ => False] (by kernel_rfl) (by kernel_rfl) (by kernel_rfl) (by kernel_rfl) (by rfl) (by decide) (G.allB_succ (G.allB_succ (G.allB_succ (G.allB_succ (G.allB_succ G.allB_zero ?c0) ?c1) ?c2) (fun h => absurd rfl h)) ?c4) ?sp (fun _ _ _ _ => trivial) ⟨G.stays_eq _, G.stays_eq _, G.stays_eq _, GK.stays_false, GK.stays_false, trivial⟩ (G.allB_succ (G.allB_succ (G.allB_succ (G.allB_succ (G.allB_succ G.allB_zero (.inr fun _ _ _ h => h)) (.inr fun _ _ _ h => h)) (.inr fun _ _ _ h => h)) (.inl (by kernel_rfl))) (.inl (by kernel_rfl))) ?tl
            case c0 =>
              intro his
              refine GK.core_oblK (o := _) (N := some 20) rfl rfl ?_
              intro x' a' ha w' hI hF K hK
              simp only [G.putAll, Act.put, List.setIfInBounds_toArray, List.set_cons_zero, List.set_cons_succ, Nat.reduceAdd] at ha
              subst ha
              refine value_ (w1 := ?_) (v := ?_) (by rfl) rfl ?_ ?_
              rotate_left 2
              · go_simp
                constructor
                · rfl
                · rfl
              refine hK.out _ _ (Below.refl _ _) ?_
              change _ = _
              with_reducible rfl
            case c1 =>
              intro his
              refine GK.core_oblK (o := _) (N := some 21) rfl rfl ?_
              intro x' a' ha w' hI hF K hK
              have s0 : x' 0 = _ := hF 0 (by kernel_rfl)
              simp only [G.putAll, Act.put, List.setIfInBounds_toArray, List.set_cons_zero, List.set_cons_succ, Nat.reduceAdd, s0] at ha
              subst ha
              have x3 : w'.cell? ⟨xb, 3, none⟩ = some (.slice A xs.length c) := cell_grown (blk_cell BX1.out 3) hI hxp
              refine value_ (w1 := ?_) (v := ?_) (by rfl) rfl ?_ ?_
              rotate_left 2
              · go_simp
                constructor
                · rfl
                · rfl
              refine hK.out _ _ (Below.refl _ _) ?_
              change _ = _
              with_reducible rfl
            case c2 =>
              intro his
              refine GK.core_oblK (o := _) (N := some 22) rfl rfl ?_
              intro x' a' ha w' hI hF K hK
              simp only [G.putAll, Act.put, List.setIfInBounds_toArray, List.set_cons_zero, List.set_cons_succ, Nat.reduceAdd] at ha
              subst ha
              refine value_ (w1 := ?_) (v := ?_) (by rfl) rfl ?_ ?_
              rotate_left 2
              · go_simp
                constructor
                · rfl
                · rfl
              refine hK.out _ _ (Below.refl _ _) ?_
              change _ = _
              with_reducible rfl
            case c4 =>
              intro his
              refine GK.core_oblK (o := _) (N := some 24) rfl rfl ?_
              intro x' a' ha w' hI hF K hK
              exact (hF 3 (by kernel_rfl)).elim
            case sp =>
              refine GK.spec_oblK (o := _) (N := some 23) rfl rfl ?_
              intro x' a' ha w' hI hF K hK
              have s2 : x' 2 = _ := hF 2 (by kernel_rfl)
              simp only [G.putAll, Act.put, List.setIfInBounds_toArray, List.set_cons_zero, List.set_cons_succ, Nat.reduceAdd, s2] at ha
              subst ha
              have eg := eOf 61 Tryd.func61 (by kernel_rfl) rfl
              refine GK.enterK 61 #[ptr X] (by rfl) rfl ?_ ?_
              · go_simp
              · with_reducible refine (HG.out.calls _ l _ HR1.out _ (HT.out.ps.below hI)).mono ?_
                rintro e w3 ⟨rfl, HB'⟩
                exact ⟨rfl, rfl, World.grownBy.trans HT.out.gb (World.grownBy.trans (grown_of_below hI (some X.pb)) HB')⟩
            case tl =>
              intro x' w' hI hR hF
              exact (hF 3 (by omega)).elim
          | ok y i' l' =>
            have HRL : Aside0 (argsP X.ts X.en ex gk (j + 1) (xs ++ [y]) i' l' = some rl) := ⟨hrl⟩
            clear hrl
            have BX1 := Aside0.mk HT.out.bx
            have hxp : xb ≠ X.pb := by have := HT.out.lo; have := HT.out.hx; omega
            refine GK.plainK (m := 5) (n := 8) (t := 3) (s := 3) (row := some X.pb) (R := fun w' => PS X w' i' l') [some 20, some 21, some 22, some 23, some 24, some 25, some 26, none] [G.Is (.pointer (some ⟨xb, 3, none⟩)), G.Is (.slice A xs.length c), G.Is (ptr X), AggF w.heap.size (fun k => W5.heap.size ≤ k) y, SlcF w.heap.size (fun k => W5.heap.size ≤ k) [y]] (by kernel_rfl) (by kernel_rfl) (by kernel_rfl) (by kernel_rfl) (by rfl) (by decide) (G.allB_succ (G.allB_succ (G.allB_succ (G.allB_succ (G.allB_succ G.allB_zero ?c0) ?c1) ?c2) (fun h => absurd rfl h)) ?c4) ?sp (fun _ _ h hb => h.below hb) ⟨G.stays_eq _, G.stays_eq _, G.stays_eq _, stays_agg _ _ _, stays_slc _ _ _, trivial⟩ (G.allB_succ (G.allB_succ (G.allB_succ (G.allB_succ (G.allB_succ G.allB_zero (.inr fun _ _ _ h => h)) (.inr fun _ _ _ h => h)) (.inr fun _ _ _ h => h)) (.inl (by kernel_rfl))) (.inl (by kernel_rfl))) ?tl
            case c0 =>
              intro his
              refine GK.core_oblK (o := _) (N := some 20) rfl rfl ?_
              intro x' a' ha w' hI hF K hK
              simp only [G.putAll, Act.put, List.setIfInBounds_toArray, List.set_cons_zero, List.set_cons_succ, Nat.reduceAdd] at ha
              subst ha
              refine value_ (w1 := ?_) (v := ?_) (by rfl) rfl ?_ ?_
              rotate_left 2
              · go_simp
                constructor
                · rfl
                · rfl
              refine hK.out _ _ (Below.refl _ _) ?_
              change _ = _
              with_reducible rfl
            case c1 =>
              intro his
              refine GK.core_oblK (o := _) (N := some 21) rfl rfl ?_
              intro x' a' ha w' hI hF K hK
              have s0 : x' 0 = _ := hF 0 (by kernel_rfl)
              simp only [G.putAll, Act.put, List.setIfInBounds_toArray, List.set_cons_zero, List.set_cons_succ, Nat.reduceAdd, s0] at ha
              subst ha
              have x3 : w'.cell? ⟨xb, 3, none⟩ = some (.slice A xs.length c) := cell_grown (blk_cell BX1.out 3) hI hxp
              refine value_ (w1 := ?_) (v := ?_) (by rfl) rfl ?_ ?_
              rotate_left 2
              · go_simp
                constructor
                · rfl
                · rfl
              refine hK.out _ _ (Below.refl _ _) ?_
              change _ = _
              with_reducible rfl
            case c2 =>
              intro his
              refine GK.core_oblK (o := _) (N := some 22) rfl rfl ?_
              intro x' a' ha w' hI hF K hK
              simp only [G.putAll, Act.put, List.setIfInBounds_toArray, List.set_cons_zero, List.set_cons_succ, Nat.reduceAdd] at ha
              subst ha
              refine value_ (w1 := ?_) (v := ?_) (by rfl) rfl ?_ ?_
              rotate_left 2
              · go_simp
                constructor
                · rfl
                · rfl
              refine hK.out _ _ (Below.refl _ _) ?_
              change _ = _
              with_reducible rfl
            case c4 =>
              intro his
              refine GK.core_oblK (o := _) (N := some 24) rfl rfl ?_
              intro x' a' ha w' hI hF K hK
              obtain ⟨A4, c4, s3, hy⟩ := (hF 3 (by kernel_rfl) : AggF _ _ y (x' 3) w')
              simp only [G.putAll, Act.put, List.setIfInBounds_toArray, List.set_cons_zero, List.set_cons_succ, Nat.reduceAdd, s3] at ha
              subst ha
              refine value_ (w1 := ?_) (v := ?_) (by rfl) rfl ?_ ?_
              rotate_left 2
              · go_simp
                constructor
                · rfl
                · rfl
              refine hK.out _ _ (below_alloc (Below.refl _ _) _) ?_
              exact ⟨_, rfl, lit1 (by have := hI.size; have := HT.out.gb.size; omega) (by have := hI.size; omega) hy⟩
            case sp =>
              refine GK.spec_oblK (o := _) (N := some 23) rfl rfl ?_
              intro x' a' ha w' hI hF K hK
              have s2 : x' 2 = _ := hF 2 (by kernel_rfl)
              simp only [G.putAll, Act.put, List.setIfInBounds_toArray, List.set_cons_zero, List.set_cons_succ, Nat.reduceAdd, s2] at ha
              subst ha
              have eg := eOf 61 Tryd.func61 (by kernel_rfl) rfl
              refine GK.enterK 61 #[ptr X] (by rfl) rfl ?_ ?_
              · go_simp
              · with_reducible refine (HG.out.calls _ l _ HR1.out _ (HT.out.ps.below hI)).mono ?_
                rintro e w3 ⟨v3, rfl, hy, HB', HS'⟩
                obtain ⟨A4, c4, rfl⟩ := Kd.R_slice hy
                have hz := hI.size
                have hz2 := HT.out.gb.size
                refine hK.out _ _ HB' HS' ⟨A4, c4, rfl, RX.weak (ok := fun k => w'.heap.size ≤ k) hy (by omega) (fun k h1 h2 h3 => by omega)⟩
            case tl =>
              intro x' w' hI HS5 hF
              have s0 : x' 0 = _ := hF 0 (by omega)
              have s1 : x' 1 = _ := hF 1 (by omega)
              have s2 : x' 2 = _ := hF 2 (by omega)
              obtain ⟨A4, c4, s3, _⟩ := (hF 3 (by omega) : AggF _ _ y (x' 3) w')
              obtain ⟨b4, s4, hz⟩ := (hF 4 (by omega) : SlcF _ _ [y] (x' 4) w')
              rw [s4] at hz
              clear hF
              have HT2 := Aside0.mk (HT.out.grown hI HS5)
              obtain ⟨A9, c9, e9, _, hrow⟩ := OwnRow.reads hz.2
              injection e9 with e9 _ e9c
              subst e9
              subst e9c
              have hown := Kd.R_lt HT.out.rx
              have hW5 := HT.out.gb.size
              have hI5 := hI.size
              refine G.tail_succ (i := 5) (o := _) (N := some 25) (by rfl) rfl rfl ?_
              intro a' ha K hK
              simp (decide := true) only [G.putAll, Act.put, List.setIfInBounds_toArray, List.set_cons_zero, List.set_cons_succ, Nat.reduceAdd, G.upd, if_true, if_false, ↓reduceIte, s0, s1, s2, s3, s4] at ha
              subst ha
              refine Kd.R_append_rows_step k24 (w0 := w') w.heap.size (by rfl) (.tmp 21) (.tmp 24) 22 24 (.agg zE) 56 rfl Tryd.underlying22 infoE rfl (by decide) (by decide) _ xs [y] _ 1 1 (fun k => w.heap.size ≤ k ∧ k ≠ ob ∧ k ≠ xb) (fun k => W5.heap.size ≤ k ∧ some k ≠ (Value.slice (some ⟨b4, 0, none⟩) [y].length [y].length).ownBlock) rfl rfl HT2.out.rx hrow (fun _ _ h => h) (fun k hk => ⟨⟨by omega, by have := blk_lt HT.out.bo; omega, by have := blk_lt HT.out.bx; omega⟩, fun e => by have := hown k e.symm; omega⟩) (fun k hk => ⟨by omega, by have := blk_lt HT.out.bo; omega, by have := blk_lt HT.out.bx; omega⟩) (Below.refl _ _) (by omega) (by have := HL.out; simp; omega) ?_
              intro v1 w1 hv1 hb1 hg1 _
              obtain ⟨A1, c1, rfl⟩ := Kd.R_slice hv1
              have HT3 := Aside0.mk (HT2.out.kids ⟨_, _, HS0.out⟩ hv1 hb1 hg1)
              have f3 : w1.frozen? ⟨xb, 3, none⟩ = false := blk_frozen ((hg1.block xb (blk_lt HT2.out.bx) (fun e => (HT2.out.rx.1 xb e.symm).2.2 rfl)).trans HT2.out.bx) 3
              have x3 : w1.cell? ⟨xb, 3, none⟩ = some (.slice A xs.length c) := blk_cell ((hg1.block xb (blk_lt HT2.out.bx) (fun e => (HT2.out.rx.1 xb e.symm).2.2 rfl)).trans HT2.out.bx) 3
              refine hK.out _ _ ?_
              clear hK K
              refine G.tail_succ (i := 6) (o := _) (N := some 26) (by rfl) rfl rfl ?_
              intro a' ha K hK
              simp (decide := true) only [G.putAll, Act.put, List.setIfInBounds_toArray, List.set_cons_zero, List.set_cons_succ, Nat.reduceAdd, G.upd, if_true, if_false, ↓reduceIte, s0, s1, s2, s3, s4] at ha
              subst ha
              refine value_ (w1 := ?_) (v := ?_) (by rfl) rfl ?_ ?_
              rotate_left 2
              · go_simp
                constructor
                · rfl
                · rfl
              refine hK.out _ _ ?_
              clear hK K
              refine G.tail_succ (i := 7) (o := _) (N := none) (by rfl) rfl rfl ?_
              intro a' ha K hK
              simp (decide := true) only [G.putAll, Act.put, List.setIfInBounds_toArray, List.set_cons_zero, List.set_cons_succ, Nat.reduceAdd, G.upd, if_true, if_false, ↓reduceIte, s0, s1, s2, s3, s4] at ha
              subst ha
              refine skip_ (w1 := ?_) (by rfl) rfl ?_ ?_
              rotate_left
              · go_simp
                rfl
              refine hK.out undef _ ?_
              clear hK K x3 f3
              refine G.tail_zero ?_
              intro a' ha
              simp (decide := true) only [G.putAll, Act.put, List.setIfInBounds_toArray, List.set_cons_zero, List.set_cons_succ, Nat.reduceAdd, G.upd, if_true, if_false, ↓reduceIte, s0, s1, s2, s3, s4] at ha
              subst ha
              clear s0 s1 s2 s3 s4 hz hrow hown
              clear HT HT2 hb1 hg1 hv1 HS5 hI BX1
              simp only [List.length_append, List.length_cons, List.length_nil, Nat.zero_add] at HT3
              clear HG HS0
              go_wp2_with fail
              have hj9 := HJ.out.2
              go_roundg gk
              case measure => omega
              case rel => exact ⟨j + 1, xs ++ [y], A1, c1, i', l', by first | rfl | (simp; done), ⟨by omega, by rw [List.length_append, hj9]; rfl⟩, HRL, HT3⟩
        · rw [if_pos ⟨hj, hw⟩] at hrl
          obtain rfl : ResL.fail _ = rl := Option.some.inj hrl
          obtain rfl : Res.fail _ = r := Option.some.inj HR.out
          go_wp2_with fail
          with_reducible refine (want_no (s := bs [44]) HT.out.ps (fun e => absurd (e.trans (bs_list [44])) hw)).mono ?_
          rintro e w4 ⟨rfl, HB1⟩
          exact ⟨rfl, rfl, World.grownBy.trans HT.out.gb (grown_of_below HB1 _)⟩
      · have hjd : decide ((0 : Int) < (j : Int)) = false := by simp; omega
        rw [if_neg (fun h => hj h.1), if_neg hj] at hrl
        go_wp2_with fail
        generalize wr = W5 at *
        obtain ⟨r1, hr1⟩ : ∃ r1, ex i l = some r1 := by
          cases ho : ex i l with
          | none => rw [ho] at hrl; cases hrl
          | some r1 => exact ⟨r1, rfl⟩
        rw [hr1] at hrl
        have HR1 := Aside0.mk hr1
        clear hr1 hlt hjd
        cases r1 with
        | fail a =>
          obtain rfl : ResL.fail a = rl := Option.some.inj hrl
          obtain rfl : Res.fail a = r := Option.some.inj HR.out
          clear HR hrl
          have BX1 := Aside0.mk HT.out.bx
          have hxp : xb ≠ X.pb := by have := HT.out.lo; have := HT.out.hx; omega
          refine GK.plainK (m := 5) (n := 8) (t := 3) (s := 3) (row := some X.pb) (R := fun _ => True) [some 20, some 21, some 22, some 23, some 24, some 25, some 26, none] [G.Is (.pointer (some ⟨xb, 3, none⟩)), G.Is (.slice A xs.length c), G.Is (ptr X), fun _ _ => False, fun _ _ => False] (by kernel_rfl) (by kernel_rfl) (by kernel_rfl) (by kernel_rfl) (by rfl) (by decide) (G.allB_succ (G.allB_succ (G.allB_succ (G.allB_succ (G.allB_succ G.allB_zero ?c0) ?c1) ?c2) (fun h => absurd rfl h)) ?c4) ?sp (fun _ _ _ _ => trivial) ⟨G.stays_eq _, G.stays_eq _, G.stays_eq _, GK.stays_false, GK.stays_false, trivial⟩ (G.allB_succ (G.allB_succ (G.allB_succ (G.allB_succ (G.allB_succ G.allB_zero (.inr fun _ _ _ h => h)) (.inr fun _ _ _ h => h)) (.inr fun _ _ _ h => h)) (.inl (by kernel_rfl))) (.inl (by kernel_rfl))) ?tl
          case c0 =>
            intro his
            refine GK.core_oblK (o := _) (N := some 20) rfl rfl ?_
            intro x' a' ha w' hI hF K hK
            simp only [G.putAll, Act.put, List.setIfInBounds_toArray, List.set_cons_zero, List.set_cons_succ, Nat.reduceAdd] at ha
            subst ha
            refine value_ (w1 := ?_) (v := ?_) (by rfl) rfl ?_ ?_
            rotate_left 2
            · go_simp
              constructor
              · rfl
              · rfl
            refine hK.out _ _ (Below.refl _ _) ?_
            change _ = _
            with_reducible rfl
          case c1 =>
            intro his
            refine GK.core_oblK (o := _) (N := some 21) rfl rfl ?_
            intro x' a' ha w' hI hF K hK
            have s0 : x' 0 = _ := hF 0 (by kernel_rfl)
            simp only [G.putAll, Act.put, List.setIfInBounds_toArray, List.set_cons_zero, List.set_cons_succ, Nat.reduceAdd, s0] at ha
            subst ha
            have x3 : w'.cell? ⟨xb, 3, none⟩ = some (.slice A xs.length c) := cell_grown (blk_cell BX1.out 3) hI hxp
            refine value_ (w1 := ?_) (v := ?_) (by rfl) rfl ?_ ?_
            rotate_left 2
            · go_simp
              constructor
              · rfl
              · rfl
            refine hK.out _ _ (Below.refl _ _) ?_
            change _ = _
            with_reducible rfl
          case c2 =>
            intro his
            refine GK.core_oblK (o := _) (N := some 22) rfl rfl ?_
            intro x' a' ha w' hI hF K hK
            simp only [G.putAll, Act.put, List.setIfInBounds_toArray, List.set_cons_zero, List.set_cons_succ, Nat.reduceAdd] at ha
            subst ha
            refine value_ (w1 := ?_) (v := ?_) (by rfl) rfl ?_ ?_
            rotate_left 2
            · go_simp
              constructor
              · rfl
              · rfl
            refine hK.out _ _ (Below.refl _ _) ?_
            change _ = _
            with_reducible rfl
          case c4 =>
            intro his
            refine GK.core_oblK (o := _) (N := some 24) rfl rfl ?_
            intro x' a' ha w' hI hF K hK
            exact (hF 3 (by kernel_rfl)).elim
          case sp =>
            refine GK.spec_oblK (o := _) (N := some 23) rfl rfl ?_
            intro x' a' ha w' hI hF K hK
            have s2 : x' 2 = _ := hF 2 (by kernel_rfl)
            simp only [G.putAll, Act.put, List.setIfInBounds_toArray, List.set_cons_zero, List.set_cons_succ, Nat.reduceAdd, s2] at ha
            subst ha
            have eg := eOf 61 Tryd.func61 (by kernel_rfl) rfl
            refine GK.enterK 61 #[ptr X] (by rfl) rfl ?_ ?_
            · go_simp
            · with_reducible refine (HG.out.calls _ l _ HR1.out _ (HT.out.ps.below hI)).mono ?_
              rintro e w3 ⟨rfl, HB'⟩
              exact ⟨rfl, rfl, World.grownBy.trans HT.out.gb (World.grownBy.trans (grown_of_below hI (some X.pb)) HB')⟩
          case tl =>
            intro x' w' hI hR hF
            exact (hF 3 (by omega)).elim
        | ok y i' l' =>
          have HRL : Aside0 (argsP X.ts X.en ex gk (j + 1) (xs ++ [y]) i' l' = some rl) := ⟨hrl⟩
          clear hrl
          have BX1 := Aside0.mk HT.out.bx
          have hxp : xb ≠ X.pb := by have := HT.out.lo; have := HT.out.hx; omega
          refine GK.plainK (m := 5) (n := 8) (t := 3) (s := 3) (row := some X.pb) (R := fun w' => PS X w' i' l') [some 20, some 21, some 22, some 23, some 24, some 25, some 26, none] [G.Is (.pointer (some ⟨xb, 3, none⟩)), G.Is (.slice A xs.length c), G.Is (ptr X), AggF w.heap.size (fun k => W5.heap.size ≤ k) y, SlcF w.heap.size (fun k => W5.heap.size ≤ k) [y]] (by kernel_rfl) (by kernel_rfl) (by kernel_rfl) (by kernel_rfl) (by rfl) (by decide) (G.allB_succ (G.allB_succ (G.allB_succ (G.allB_succ (G.allB_succ G.allB_zero ?c0) ?c1) ?c2) (fun h => absurd rfl h)) ?c4) ?sp (fun _ _ h hb => h.below hb) ⟨G.stays_eq _, G.stays_eq _, G.stays_eq _, stays_agg _ _ _, stays_slc _ _ _, trivial⟩ (G.allB_succ (G.allB_succ (G.allB_succ (G.allB_succ (G.allB_succ G.allB_zero (.inr fun _ _ _ h => h)) (.inr fun _ _ _ h => h)) (.inr fun _ _ _ h => h)) (.inl (by kernel_rfl))) (.inl (by kernel_rfl))) ?tl
          case c0 =>
            intro his
            refine GK.core_oblK (o := _) (N := some 20) rfl rfl ?_
            intro x' a' ha w' hI hF K hK
            simp only [G.putAll, Act.put, List.setIfInBounds_toArray, List.set_cons_zero, List.set_cons_succ, Nat.reduceAdd] at ha
            subst ha
            refine value_ (w1 := ?_) (v := ?_) (by rfl) rfl ?_ ?_
            rotate_left 2
            · go_simp
              constructor
              · rfl
              · rfl
            refine hK.out _ _ (Below.refl _ _) ?_
            change _ = _
            with_reducible rfl
          case c1 =>
            intro his
            refine GK.core_oblK (o := _) (N := some 21) rfl rfl ?_
            intro x' a' ha w' hI hF K hK
            have s0 : x' 0 = _ := hF 0 (by kernel_rfl)
            simp only [G.putAll, Act.put, List.setIfInBounds_toArray, List.set_cons_zero, List.set_cons_succ, Nat.reduceAdd, s0] at ha
            subst ha
            have x3 : w'.cell? ⟨xb, 3, none⟩ = some (.slice A xs.length c) := cell_grown (blk_cell BX1.out 3) hI hxp
            refine value_ (w1 := ?_) (v := ?_) (by rfl) rfl ?_ ?_
            rotate_left 2
            · go_simp
              constructor
              · rfl
              · rfl
            refine hK.out _ _ (Below.refl _ _) ?_
            change _ = _
            with_reducible rfl
          case c2 =>
            intro his
            refine GK.core_oblK (o := _) (N := some 22) rfl rfl ?_
            intro x' a' ha w' hI hF K hK
            simp only [G.putAll, Act.put, List.setIfInBounds_toArray, List.set_cons_zero, List.set_cons_succ, Nat.reduceAdd] at ha
            subst ha
            refine value_ (w1 := ?_) (v := ?_) (by rfl) rfl ?_ ?_
            rotate_left 2
            · go_simp
              constructor
              · rfl
              · rfl
            refine hK.out _ _ (Below.refl _ _) ?_
            change _ = _
            with_reducible rfl
          case c4 =>
            intro his
            refine GK.core_oblK (o := _) (N := some 24) rfl rfl ?_
            intro x' a' ha w' hI hF K hK
            obtain ⟨A4, c4, s3, hy⟩ := (hF 3 (by kernel_rfl) : AggF _ _ y (x' 3) w')
            simp only [G.putAll, Act.put, List.setIfInBounds_toArray, List.set_cons_zero, List.set_cons_succ, Nat.reduceAdd, s3] at ha
            subst ha
            refine value_ (w1 := ?_) (v := ?_) (by rfl) rfl ?_ ?_
            rotate_left 2
            · go_simp
              constructor
              · rfl
              · rfl
            refine hK.out _ _ (below_alloc (Below.refl _ _) _) ?_
            exact ⟨_, rfl, lit1 (by have := hI.size; have := HT.out.gb.size; omega) (by have := hI.size; omega) hy⟩
          case sp =>
            refine GK.spec_oblK (o := _) (N := some 23) rfl rfl ?_
            intro x' a' ha w' hI hF K hK
            have s2 : x' 2 = _ := hF 2 (by kernel_rfl)
            simp only [G.putAll, Act.put, List.setIfInBounds_toArray, List.set_cons_zero, List.set_cons_succ, Nat.reduceAdd, s2] at ha
            subst ha
            have eg := eOf 61 Tryd.func61 (by kernel_rfl) rfl
            refine GK.enterK 61 #[ptr X] (by rfl) rfl ?_ ?_
            · go_simp
            · with_reducible refine (HG.out.calls _ l _ HR1.out _ (HT.out.ps.below hI)).mono ?_
              rintro e w3 ⟨v3, rfl, hy, HB', HS'⟩
              obtain ⟨A4, c4, rfl⟩ := Kd.R_slice hy
              have hz := hI.size
              have hz2 := HT.out.gb.size
              refine hK.out _ _ HB' HS' ⟨A4, c4, rfl, RX.weak (ok := fun k => w'.heap.size ≤ k) hy (by omega) (fun k h1 h2 h3 => by omega)⟩
          case tl =>
            intro x' w' hI HS5 hF
            have s0 : x' 0 = _ := hF 0 (by omega)
            have s1 : x' 1 = _ := hF 1 (by omega)
            have s2 : x' 2 = _ := hF 2 (by omega)
            obtain ⟨A4, c4, s3, _⟩ := (hF 3 (by omega) : AggF _ _ y (x' 3) w')
            obtain ⟨b4, s4, hz⟩ := (hF 4 (by omega) : SlcF _ _ [y] (x' 4) w')
            rw [s4] at hz
            clear hF
            have HT2 := Aside0.mk (HT.out.grown hI HS5)
            obtain ⟨A9, c9, e9, _, hrow⟩ := OwnRow.reads hz.2
            injection e9 with e9 _ e9c
            subst e9
            subst e9c
            have hown := Kd.R_lt HT.out.rx
            have hW5 := HT.out.gb.size
            have hI5 := hI.size
            refine G.tail_succ (i := 5) (o := _) (N := some 25) (by rfl) rfl rfl ?_
            intro a' ha K hK
            simp (decide := true) only [G.putAll, Act.put, List.setIfInBounds_toArray, List.set_cons_zero, List.set_cons_succ, Nat.reduceAdd, G.upd, if_true, if_false, ↓reduceIte, s0, s1, s2, s3, s4] at ha
            subst ha
            refine Kd.R_append_rows_step k24 (w0 := w') w.heap.size (by rfl) (.tmp 21) (.tmp 24) 22 24 (.agg zE) 56 rfl Tryd.underlying22 infoE rfl (by decide) (by decide) _ xs [y] _ 1 1 (fun k => w.heap.size ≤ k ∧ k ≠ ob ∧ k ≠ xb) (fun k => W5.heap.size ≤ k ∧ some k ≠ (Value.slice (some ⟨b4, 0, none⟩) [y].length [y].length).ownBlock) rfl rfl HT2.out.rx hrow (fun _ _ h => h) (fun k hk => ⟨⟨by omega, by have := blk_lt HT.out.bo; omega, by have := blk_lt HT.out.bx; omega⟩, fun e => by have := hown k e.symm; omega⟩) (fun k hk => ⟨by omega, by have := blk_lt HT.out.bo; omega, by have := blk_lt HT.out.bx; omega⟩) (Below.refl _ _) (by omega) (by have := HL.out; simp; omega) ?_
            intro v1 w1 hv1 hb1 hg1 _
            obtain ⟨A1, c1, rfl⟩ := Kd.R_slice hv1
            have HT3 := Aside0.mk (HT2.out.kids ⟨_, _, HS0.out⟩ hv1 hb1 hg1)
            have f3 : w1.frozen? ⟨xb, 3, none⟩ = false := blk_frozen ((hg1.block xb (blk_lt HT2.out.bx) (fun e => (HT2.out.rx.1 xb e.symm).2.2 rfl)).trans HT2.out.bx) 3
            have x3 : w1.cell? ⟨xb, 3, none⟩ = some (.slice A xs.length c) := blk_cell ((hg1.block xb (blk_lt HT2.out.bx) (fun e => (HT2.out.rx.1 xb e.symm).2.2 rfl)).trans HT2.out.bx) 3
            refine hK.out _ _ ?_
            clear hK K
            refine G.tail_succ (i := 6) (o := _) (N := some 26) (by rfl) rfl rfl ?_
            intro a' ha K hK
            simp (decide := true) only [G.putAll, Act.put, List.setIfInBounds_toArray, List.set_cons_zero, List.set_cons_succ, Nat.reduceAdd, G.upd, if_true, if_false, ↓reduceIte, s0, s1, s2, s3, s4] at ha
            subst ha
            refine value_ (w1 := ?_) (v := ?_) (by rfl) rfl ?_ ?_
            rotate_left 2
            · go_simp
              constructor
              · rfl
              · rfl
            refine hK.out _ _ ?_
            clear hK K
            refine G.tail_succ (i := 7) (o := _) (N := none) (by rfl) rfl rfl ?_
            intro a' ha K hK
            simp (decide := true) only [G.putAll, Act.put, List.setIfInBounds_toArray, List.set_cons_zero, List.set_cons_succ, Nat.reduceAdd, G.upd, if_true, if_false, ↓reduceIte, s0, s1, s2, s3, s4] at ha
            subst ha
            refine skip_ (w1 := ?_) (by rfl) rfl ?_ ?_
            rotate_left
            · go_simp
              rfl
            refine hK.out undef _ ?_
            clear hK K x3 f3
            refine G.tail_zero ?_
            intro a' ha
            simp (decide := true) only [G.putAll, Act.put, List.setIfInBounds_toArray, List.set_cons_zero, List.set_cons_succ, Nat.reduceAdd, G.upd, if_true, if_false, ↓reduceIte, s0, s1, s2, s3, s4] at ha
            subst ha
            clear s0 s1 s2 s3 s4 hz hrow hown
            clear HT HT2 hb1 hg1 hv1 HS5 hI BX1
            simp only [List.length_append, List.length_cons, List.length_nil, Nat.zero_add] at HT3
            clear HG HS0
            go_wp2_with fail
            have hj9 := HJ.out.2
            go_roundg gk
            case measure => omega
            case rel => exact ⟨j + 1, xs ++ [y], A1, c1, i', l', by first | rfl | (simp; done), ⟨by omega, by rw [List.length_append, hj9]; rfl⟩, HRL, HT3⟩
end Go.Proofs.YtbbopomecanaoaaDoor.A
