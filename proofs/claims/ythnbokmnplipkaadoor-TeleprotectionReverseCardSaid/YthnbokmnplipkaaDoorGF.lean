import Derived.Test.YthnbokmnplipkaaDoorG
/- Regions that draw their order, with floaters: values that reckon alone and may come up behind a store. No condition. -/
namespace Go.Proofs.YthnbokmnplipkaaDoor.G
open Go.RowKit Go.Proofs.YthnbokmnplipkaaDoorW.PrintWords
set_option linter.unusedVariables false
set_option linter.unusedSectionVars false
section
variable {P : Program} {ops : Array Oper} {Q : Exit → Act → World → Prop}
variable {m : Nat} {fl nw : Nat → Bool} {φ : Nat → Value → Prop} {Φ : Nat → Value → World → Prop} {fr : (Nat → Value) → Act} {w0 : World}
abbrev Pures := List (Value → Prop)
@[reducible] def pfact (U : Pures) (i : Nat) : Value → Prop := U.getD i fun _ => True
@[reducible] def PIs (u v : Value) : Prop := v = u
@[reducible] def PAny (_ : Value) : Prop := True
def mrg (fs : List Nat) (m : Nat) (x z : Nat → Value) : Nat → Value := fun j => if (decide (j < m) && fs.contains j) = true then z j else x j
def AllP : Facts → Pures → Prop
  | [], _ => True
  | _, [] => True
  | f :: r, g :: s => (∀ v w, f v w → g v) ∧ AllP r s
theorem allP_at : ∀ {F : Facts} {U : Pures}, AllP F U → F.length = U.length → ∀ j v w, fact F j v w → pfact U j v
  | [], [], _, _, j, v, w, _ => by unfold pfact; simp
  | f :: r, g :: s, h, hl, 0, v, w, hf => by
    simp only [fact, pfact, List.getD_cons_zero] at hf ⊢
    exact h.1 v w hf
  | f :: r, g :: s, h, hl, j + 1, v, w, hf => by
    have := allP_at h.2 (by simpa using hl) j v w (by simpa [fact] using hf)
    simpa [pfact] using this
def FloatObl (P : Program) (ops : Array Oper) (Q : Exit → Act → World → Prop) (U : Pures) (fr : (Nat → Value) → Act) (i : Nat) : Prop :=
  ∀ o, ops[i]? = some o → ∀ x w, (∀ j ∈ deps ops i, pfact U j (x j)) →
    ∀ K : Act → World → Prop, Sh (∀ v, pfact U i v → K ((fr x).put o.dst v) w) →
      if Region.wanted o (yielded ops (fr x).tmps) = true then Oper.wp P o (fr x) w K Q else K ((fr x).put o.dst undef) w
theorem float_obl {U : Pures} {fr : (Nat → Value) → Act} {i : Nat} {o : Oper} {N : Option Tmp} (hi : ops[i]? = some o) (hN : o.dst = N)
    (h : ∀ x a, fr x = a → ∀ w, (∀ j, (deps ops i).contains j = true → pfact U j (x j)) →
      ∀ K : Act → World → Prop, Sh (∀ v, pfact U i v → K (a.put N v) w) →
        if Region.wanted o (yielded ops a.tmps) = true then Oper.wp P o a w K Q else K (a.put N undef) w) : FloatObl P ops Q U fr i := by
  intro o' ho' x w hf K hK
  obtain rfl : o = o' := Option.some.inj (hi.symm.trans ho')
  subst hN
  exact h x _ rfl w (fun j hj => hf j (by simpa using hj)) K hK
def AllFl (p : Nat → Prop) : List Nat → Prop
  | [] => True
  | j :: r => p j ∧ AllFl p r
theorem allFl_mem {p : Nat → Prop} : ∀ {l : List Nat}, AllFl p l → ∀ j ∈ l, p j
  | i :: r, h, j, hj => by
    rcases List.mem_cons.1 hj with rfl | hj
    · exact h.1
    · exact allFl_mem h.2 j hj
theorem mrg_of {fs : List Nat} {x y : Nat → Value} (hy : ∀ j, (j < m ∧ fs.contains j = true) ∨ y j = x j) : y = mrg fs m x y := by
  funext j
  unfold mrg
  split
  · rfl
  · rename_i h
    refine (hy j).resolve_left fun h' => h ?_
    simp only [Bool.and_eq_true, decide_eq_true_eq]
    exact h'
theorem tail_zeroF {U : Pures} {fs : List Nat} {fr : (Nat → Value) → Act} {x : Nat → Value} {w : World} (h : ∀ z a, fr (mrg fs m x z) = a → (∀ j, j < m → pfact U j (mrg fs m x z j)) → Q .normal a w) :
    Tail ops P Q m (fun j => fs.contains j) (pfact U) fr 0 x w := by
  unfold Tail
  intro y hy hf
  have e := mrg_of hy
  rw [e] at hf ⊢
  exact h y _ rfl hf
theorem tail_succF {U : Pures} {fs : List Nat} {fr : (Nat → Value) → Act} {x : Nat → Value} {w : World} {k i : Nat} {o : Oper} {N : Option Tmp} (hn : ops.size - (k + 1) = i) (hi : ops[i]? = some o) (hN : o.dst = N)
    (h : ∀ z a, fr (mrg fs m x z) = a → (∀ j, (deps ops i).contains j = true → j < m → pfact U j (mrg fs m x z j)) → ∀ K : Act → World → Prop, Sh (∀ v w', Tail ops P Q m (fun j => fs.contains j) (pfact U) fr k (upd (mrg fs m x z) i v) w' → K (a.put N v) w') →
      if Region.wanted o (yielded ops a.tmps) = true then Oper.wp P o a w K Q else K (a.put N undef) w) : Tail ops P Q m (fun j => fs.contains j) (pfact U) fr (k + 1) x w := by
  subst hn
  subst hN
  unfold Tail
  intro y hy hf o' ho' K hK
  obtain rfl : o = o' := Option.some.inj (hi.symm.trans ho')
  have e := mrg_of hy
  rw [e] at hf hK ⊢
  exact h y _ rfl (fun j hj hm => hf j (by simpa using hj) hm) K hK
theorem float {id n t : Nat} {a : Act} {w : World} (Ns : List (Option Tmp)) (F : Facts) (U : Pures) (ns fs : List Nat) (hm : P.follows .mixedOrders = true) (hn : ops.size = n) (hNs : (List.range n).map (dst ops) = Ns)
    (hA : (apartB Ns && G.shape ops m (fun j => fs.contains j) && F.length == U.length) = true) (ht : n - m = t) (hc : AllB (fun i => fs.contains i = false → CoreObl P ops Q (fun j => ns.contains j) F (fun x => putAll Ns 0 x a) w i) m)
    (hfl : AllFl (FloatObl P ops Q U (fun x => putAll Ns 0 x a)) fs) (hs : AllF F) (hl : AllN F ns) (hp : AllP F U)
    (hT : ∀ x w', Below w.heap.size w w' → (∀ j, j < m → fs.contains j = false → fact F j (x j) w') → (∀ j k, j < m → k < m → j ≠ k → fs.contains j = false → fs.contains k = false → ns.contains j = true → ns.contains k = true → blk (x j) ≠ blk (x k)) →
      Tail ops P Q m (fun j => fs.contains j) (pfact U) (fun x => putAll Ns 0 x a) t x w')
    (hdep : ((List.range m).all fun i => fs.contains i || (deps ops i).all fun j => !fs.contains j) = true) : (Code.region id ops true).wp P Q a w := by
  simp only [Bool.and_eq_true, beq_iff_eq] at hA
  subst hn
  subst ht
  have hNi : ∀ i, i < ops.size → Ns[i]? = some (dst ops i) := fun i hi => by rw [← hNs]; simp [hi]
  refine region (m := m) (fl := fun j => fs.contains j) (nw := fun j => ns.contains j) (φ := pfact U) (Φ := fact F) (fr := fun x => putAll Ns 0 x a) hm (old a Ns) (putAll_old Ns 0 _ a fun i _ => by rw [Nat.zero_add]) ⟨hA.1.2, ?_, fun j v w' _ _ h => allP_at hp hA.2 j v w' h, ?_, fun j v w' _ _ hn hf => allN_mem hl j (by simpa using hn) v w' hf, ?_, ?_, ?_⟩
  · intro x i v hi
    have := putAll_upd Ns 0 x a i v hA.1.1 (by rw [hNi i hi]; rfl)
    rw [hNi i hi, Nat.zero_add] at this
    exact this
  · intro j v w1 w2 _ _ hf hb
    unfold fact at hf ⊢
    rw [List.getD_eq_getElem?_getD] at hf ⊢
    cases hj : F[j]? with
    | none => trivial
    | some f =>
      rw [hj] at hf
      exact allF_mem hs f (List.mem_of_getElem? hj) v w1 w2 hf hb
  · intro i o hi hfi ho x w' hB hf _ K hK
    refine hc i hi hfi o ho x w' hB (fun j hj => hf j hj ?_) K hK
    have := List.all_eq_true.1 hdep i (by simpa using hi)
    rw [hfi, Bool.false_or] at this
    simpa using List.all_eq_true.1 this j hj
  · intro i o hi hfi ho x w' hf K hK
    exact allFl_mem hfl i (by simpa using hfi) o ho x w' hf K hK
  · intro x w' hB hf hd
    exact hT x w' hB hf hd
end
end Go.Proofs.YthnbokmnplipkaaDoor.G
