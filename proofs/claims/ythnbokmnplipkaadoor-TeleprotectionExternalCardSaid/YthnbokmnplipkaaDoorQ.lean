import Derived.Deep.Quiet
import Derived.Test.YthnbokmnplipkaaDoorWLast
import Derived.Test.YthnbokmnplipkaaDoorWWords
/- A region that draws its order, whose operations read what was there before, and whose calls leave that as it was: one walk, in the order of the text. No condition. -/
namespace Go.Proofs.YthnbokmnplipkaaDoor.Q
open Go.RowKit Go.Proofs.YthnbokmnplipkaaDoorW.PrintWords Go.Proofs.YthnbokmnplipkaaDoorW.PrintLast
section
variable {P : Program} {ops : Array Oper} {C : World → Prop} {Q : Act → Prop}

theorem q_value {o : Oper} {rest : List Oper} {a : Act} {v : Value} {N : Option Tmp} (hN : o.dst = N) (hw : Region.wanted o (yielded ops a.tmps) = true)
    (hy : ∀ w', C w' → (execOp a.eval o).run P w' = .ok (.value v) w') {a' : Act} (ha : a.put N v = a') (h : wpQuiet P ops C Q rest a') : wpQuiet P ops C Q (o :: rest) a := by
  subst hN
  subst ha
  refine wpQuiet_step fun K hK => ?_
  rw [if_pos hw]
  exact ⟨v, fun w' hC => by unfold Oper.quietAt; rw [hy w' hC]; exact ⟨rfl, rfl⟩, hK _ h⟩
theorem q_off {o : Oper} {rest : List Oper} {a : Act} {N : Option Tmp} (hN : o.dst = N) (hw : Region.wanted o (yielded ops a.tmps) = false)
    {a' : Act} (ha : a.put N undef = a') (h : wpQuiet P ops C Q rest a') : wpQuiet P ops C Q (o :: rest) a := by
  subst hN
  subst ha
  refine wpQuiet_step fun K hK => ?_
  rw [if_neg (by rw [hw]; simp)]
  exact hK _ h
theorem q_call {o : Oper} {rest : List Oper} {a : Act} {v : Value} {N : Option Tmp} (f : FuncId) (args : Array Value) (hN : o.dst = N) (hw : Region.wanted o (yielded ops a.tmps) = true)
    {fn : Func} {as : Array Operand} {ts : Array TypeId} (hf : P.funcs[f]? = some fn) (hname : (fn.name == "runtime.NumGoroutine") = false) (hb : fn.body.isSome = true)
    (hop : o.op = .call { callee := .value (.func f), args := as, argTypes := ts }) (hargs : as.map a.eval = args)
    (hy : ∀ w', C w' → Calls P f args w' fun e w'' => e = .returned v ∧ C w'') {a' : Act} (ha : a.put N v = a') (h : wpQuiet P ops C Q rest a') : wpQuiet P ops C Q (o :: rest) a := by
  subst hN
  subst ha
  refine wpQuiet_step fun K hK => ?_
  rw [if_pos hw]
  refine ⟨v, fun w' hC => ?_, hK _ h⟩
  unfold Oper.quietAt
  have he := enters_ hf hname hb args w'
  have hrun : (execOp a.eval o).run P w' = .ok (.enter f args) w' := by
    unfold execOp
    simp [hop, resolve, Deferred.ofValue, invoke, Act.eval, hargs, he]
  rw [hrun]
  exact ⟨rfl, hy w' hC⟩
/-- The region, at the class of worlds in which all that was there is as it was. -/
theorem q_start {id : Nat} {Q' : Exit → Act → World → Prop} {a : Act} {w : World} {l : List Oper} (hm : P.follows .mixedOrders = true) (hB : Region.lexB .any l.toArray = true)
    (h : wpQuiet P l.toArray (fun w' => Below w.heap.size w w') (fun a' => ∀ w', Below w.heap.size w w' → Q' .normal a' w') l a) : (Code.region id l.toArray true).wp P Q' a w :=
  wp_region_quiet (C := fun w' => Below w.heap.size w w') hm hB (below_drew (Below.refl w.heap.size w)) (by simpa using h)
end
/-- A contract that leaves what was there as it was, as a region asks it. -/
theorem q_below {P : Program} {f : FuncId} {args : Array Value} {v : Value} {w : World} (h : ∀ w', Calls P f args w' fun e w'' => e = .returned v ∧ Below w'.heap.size w' w'') :
    ∀ w', Below w.heap.size w w' → Calls P f args w' fun e w'' => e = .returned v ∧ Below w.heap.size w w'' :=
  fun w' hb => (h w').mono fun _ _ ⟨he, hb'⟩ => ⟨he, below_step hb hb'⟩
theorem q_drawn {P : Program} {f : FuncId} {args : Array Value} {v : Value} {w : World} (h : ∀ w', Calls P f args w' fun e w'' => e = .returned v ∧ Drawn0 w' w'') :
    ∀ w', Below w.heap.size w w' → Calls P f args w' fun e w'' => e = .returned v ∧ Below w.heap.size w w'' :=
  fun w' hb => (h w').mono fun _ _ ⟨he, hd⟩ => ⟨he, below_step hb hd.below⟩
end Go.Proofs.YthnbokmnplipkaaDoor.Q
