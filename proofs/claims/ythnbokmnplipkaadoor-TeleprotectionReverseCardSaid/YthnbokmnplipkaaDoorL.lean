import Derived.Test.YthnbokmnplipkaaDoorRows
import Derived.Test.YthnbokmnplipkaaDoorA
import Derived.ProofKit
import Derived.LaidMore
import Derived.OpenShut
import Derived.LaidOnce
import Derived.Stop.Joined
/- The listed table, read off the row's condition: each cell of it. No condition. -/
namespace Go.Proofs.YthnbokmnplipkaaDoor.A
open Go.ChangeShapes Go.WideShapes Go.ChangeAt Go.RowKit
set_option linter.unusedVariables false
theorem gSch : Tryd.prog.globalNamed "substation/teleprotection.schemes" = some 0 := by kernel_rfl
theorem tSch : (Tryd.prog.globals[0]?).map (·.type) = some 54 := by kernel_rfl
abbrev laid1 : List (String × DataW Unit) := [("substation/teleprotection.schemes", Rows.laid_substation_teleprotection_schemes)]
theorem door_met (os : Os) (args : Array Value) : laidMetH Tryd.prog laid1 ((World.doorLaid Tryd.prog 400 os).forCall (fun _ _ => 0) ⟨#[], args, []⟩).memory :=
  laidMetH_of_parts3 (fuel := 8) (laidMet_of_run' 8 (by kernel_rfl) (by kernel_rfl)) (by kernel_rfl) (by kernel_rfl)
section
variable {H : Type} {enc : TypeId × Value → H} {w : World} {base : Nat} {spare : Nat → Bool} {held : Bool}
theorem row3 {fuel : Nat} {ls : List Value} {a b c : Int} {p : List MemPlace} (h : DataW.trod enc Tryd.prog w base spare held fuel 53 ls = some (.agg [.lit (.int .i64 a), .lit (.int .i64 b), .lit (.int .i64 c)], p)) :
    ls = [.int .i64 a, .int .i64 b, .int .i64 c] := by
  obtain ⟨xs, n, _, hx, hl, hlen, hf⟩ := DataW.trod_struct Tryd.underlying53 h
  have c53 : Tryd.prog.cellsOf 53 = 3 := by kernel_rfl
  have c3 : Tryd.prog.cellsOf 3 = 1 := by kernel_rfl
  rw [c53] at hl
  have h0 : DataW.trod enc Tryd.prog w base spare held n 3 ((ls.drop 0).take (Tryd.prog.cellsOf 3)) = xs[0]? := hf 0 _ rfl
  have h1 : DataW.trod enc Tryd.prog w base spare held n 3 ((ls.drop 1).take (Tryd.prog.cellsOf 3)) = xs[1]? := hf 1 _ rfl
  have h2 : DataW.trod enc Tryd.prog w base spare held n 3 ((ls.drop 2).take (Tryd.prog.cellsOf 3)) = xs[2]? := hf 2 _ rfl
  rw [c3] at h0 h1 h2
  match xs, hlen with
  | [x0, x1, x2], _ =>
    match ls, hl with
    | [l0, l1, l2], _ =>
      simp only [List.map_cons, List.map_nil, Prod.mk.injEq, DataW.agg.injEq, List.cons.injEq, and_true] at hx
      obtain ⟨⟨e0, e1, e2⟩, _⟩ := hx
      obtain ⟨n0, i0, j0, _⟩ := DataW.trod_int Tryd.underlying3 (show DataW.trod _ _ _ _ _ _ n 3 [l0] = some x0 from h0)
      obtain ⟨n1, i1, j1, _⟩ := DataW.trod_int Tryd.underlying3 (show DataW.trod _ _ _ _ _ _ n 3 [l1] = some x1 from h1)
      obtain ⟨n2, i2, j2, _⟩ := DataW.trod_int Tryd.underlying3 (show DataW.trod _ _ _ _ _ _ n 3 [l2] = some x2 from h2)
      rw [j0] at e0
      rw [j1] at e1
      rw [j2] at e2
      simp at e0 e1 e2 i0 i1 i2
      rw [i0, i1, i2, ← e0, ← e1, ← e2]
end
theorem three_at {l : List Value} {i : Nat} {a b c : Value} (h : (l.drop i).take 3 = [a, b, c]) : l[i]? = some a ∧ l[i + 1]? = some b ∧ l[i + 2]? = some c := by
  have h0 := congrArg (fun r : List Value => r[0]?) h
  have h1 := congrArg (fun r : List Value => r[1]?) h
  have h2 := congrArg (fun r : List Value => r[2]?) h
  simp only [List.getElem?_take, List.getElem?_drop] at h0 h1 h2
  exact ⟨by simpa using h0, by simpa using h1, by simpa using h2⟩
theorem of_laid {W : World} (h : laidMetH Tryd.prog laid1 W) : Sch W := by
  rw [MakeChecks.laidMetH_plain _ _ _ (by kernel_rfl)] at h
  obtain ⟨ps, ⟨g0, t0, cs0, f0, p0, q0, hg0, ht0, hv0, hd0, _⟩, _, _⟩ := h
  obtain rfl := Option.some.inj (gSch.symm.trans hg0)
  obtain rfl := Option.some.inj (tSch.symm.trans ht0)
  obtain ⟨xs, m1, _, hx, hlen, hn, hel⟩ := DataW.trod_array Tryd.underlying54 hd0
  have c53 : Tryd.prog.cellsOf 53 = 3 := by kernel_rfl
  have e0 := hel 0 (by decide)
  have e1 := hel 1 (by decide)
  have e2 := hel 2 (by decide)
  have e3 := hel 3 (by decide)
  rw [c53] at e0 e1 e2 e3
  match xs, hn with
  | [x0, x1, x2, x3], _ =>
    simp only [Rows.laid_substation_teleprotection_schemes, List.map_cons, List.map_nil, Prod.mk.injEq, DataW.agg.injEq, List.cons.injEq, and_true] at hx
    obtain ⟨⟨d0, d1, d2, d3⟩, _⟩ := hx
    have r0 := row3 (show DataW.trod _ Tryd.prog W 0 _ false m1 53 _ = some (_, x0.2) by rw [d0]; exact e0)
    have r1 := row3 (show DataW.trod _ Tryd.prog W 0 _ false m1 53 _ = some (_, x1.2) by rw [d1]; exact e1)
    have r2 := row3 (show DataW.trod _ Tryd.prog W 0 _ false m1 53 _ = some (_, x2.2) by rw [d2]; exact e2)
    have r3 := row3 (show DataW.trod _ Tryd.prog W 0 _ false m1 53 _ = some (_, x3.2) by rw [d3]; exact e3)
    have cell : ∀ (j : Nat) (v : Value), cs0.toList[j]? = some v → W.cell? ⟨0, j, none⟩ = some v := fun j v hv => by
      rw [World.var?_cell hg0 hv0 j, ← Array.getElem?_toList]
      exact hv
    obtain ⟨a0, a1, a2⟩ := three_at r0
    obtain ⟨a3, a4, a5⟩ := three_at r1
    obtain ⟨a6, a7, a8⟩ := three_at r2
    obtain ⟨a9, a10, a11⟩ := three_at r3
    exact ⟨cell 0 _ a0, cell 1 _ a1, cell 2 _ a2, cell 3 _ a3, cell 4 _ a4, cell 5 _ a5, cell 6 _ a6, cell 7 _ a7, cell 8 _ a8, cell 9 _ a9, cell 10 _ a10, cell 11 _ a11⟩
end Go.Proofs.YthnbokmnplipkaaDoor.A
