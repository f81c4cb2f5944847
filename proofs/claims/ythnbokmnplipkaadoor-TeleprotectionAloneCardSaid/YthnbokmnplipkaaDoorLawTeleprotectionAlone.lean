import Derived.Test.YthnbokmnplipkaaDoorRows
import Derived.Test.YthnbokmnplipkaaDoorH
import Derived.Test.YthnbokmnplipkaaDoorL
import Derived.WalkKit
import Derived.ProofKit
import Derived.OpenShut
import Derived.ShutString
import Derived.ChangeOld
import Derived.Below
import Derived.SizedLaws
import Derived.Laws.IdiomArrays
import Derived.Lib.SmallJoins
import Derived.Deep.Slices
import Derived.Deep.Fields
import Derived.ChangeSame
import Derived.Test.YthnbokmnplipkaaDoorCards
import Derived.Test.YthnbokmnplipkaaDoorTie
import Derived.LaidMore
import Derived.LaidOnce
import Derived.SevenTiedAt
import Derived.Stop.Joined
/- The law TeleprotectionAlone answers true for every input, and each argument reads behind the call as it read before. No condition. -/
namespace Go.Proofs.YthnbokmnplipkaaDoor.teleprotectionAlone
open Go.ChangeShapes Go.WideShapes Go.ChangeAt Go.RowKit Go.Joins Go.Deep
open Go.ChangeMaps (open_string shut_string)
set_option linter.unusedVariables false
theorem own : ownKnob Tryd.prog.godebug = none := by kernel_rfl
theorem laidOut : laidOutB Tryd.prog = true := by kernel_rfl
section
variable {H : Type} {enc : TypeId × Value → H} {P : Program} {w : World} {base : Nat} {spare : Nat → Bool} {held : Bool}
theorem open_st3 {r : Reach} {b0 : Nat} {t : TypeId} {f0 f1 f2 : Field} {v : Value} {d : DataW H} {p : List MemPlace} (hs : P.underlying t = some (.struct #[f0, f1, f2])) (hone : oneCellFields P #[f0, f1, f2] = true) (hC : P.cellsOf t = 3)
    (hv : Value.okWide P w r b0 t v) (h : DataW.Trod enc P w base spare held t v d p) :
    ∃ (v0 v1 v2 : Value) (y0 y1 y2 : DataW H × List MemPlace) (n : Nat), v = .agg #[v0, v1, v2] ∧ d = .agg [y0.1, y1.1, y2.1] ∧ p = y0.2 ++ (y1.2 ++ y2.2) ∧
      DataW.trod enc P w base spare held n f0.type [v0] = some y0 ∧ DataW.trod enc P w base spare held n f1.type [v1] = some y1 ∧ DataW.trod enc P w base spare held n f2.type [v2] = some y2 := by
  obtain ⟨cs, rfl, hsz⟩ := okWide_struct hs hv
  obtain ⟨l⟩ := cs
  match l, hsz.trans hC with
  | [c0, c1, c2], _ =>
    obtain ⟨fuel, hf⟩ := h
    obtain ⟨xs, n, _, hx, _, hlen, hg⟩ := DataW.trod_struct hs hf
    obtain ⟨o0, k0⟩ := hone_of hone 0 f0 rfl
    obtain ⟨o1, k1⟩ := hone_of hone 1 f1 rfl
    obtain ⟨o2, k2⟩ := hone_of hone 2 f2 rfl
    match xs, hlen with
    | [y0, y1, y2], _ =>
      simp only [Prod.mk.injEq] at hx
      exact ⟨c0, c1, c2, y0, y1, y2, n, rfl, by simpa using hx.1, by simpa using hx.2, by simpa [Value.cells, o0, k0, o1, k1, o2, k2] using hg 0 f0 rfl, by simpa [Value.cells, o0, k0, o1, k1, o2, k2] using hg 1 f1 rfl, by simpa [Value.cells, o0, k0, o1, k1, o2, k2] using hg 2 f2 rfl⟩
end
section
variable {H : Type} {enc : TypeId × Value → H} {P : Program} {w : World} {base : Nat} {spare : Nat → Bool} {held : Bool}
theorem open_slice_fields {t e : TypeId} {fs : Array Field} {fuel : Nat} {cs : List Value} {x : DataW H × List MemPlace} (ht : P.underlying t = some (.slice e)) (he : P.underlying e = some (.struct fs))
    (hone : oneCellFields P fs = true) (hC : P.cellsOf e = fs.size) (h : DataW.trod enc P w base spare held fuel t cs = some x) :
    (cs = [.slice none 0 0]) ∨
    ∃ (a : Addr) (len cap : Nat), cs = [.slice (some a) len cap] ∧ len ≤ cap ∧ cap ≤ maxLen ∧
      ∀ i, i < len → ∀ (j : Nat) (f : Field), fs[j]? = some f → ∃ (v : Value) (y : DataW H × List MemPlace) (n : Nat), w.cell? (a.add (i * fs.size + j)) = some v ∧ DataW.trod enc P w base spare held n f.type [v] = some y := by
  rcases open_slice ht h with h0 | ⟨a, len, cap, m, n, D, Pl, hcs, hb, hl, hm, hmm, hx, hi⟩
  · exact .inl h0.1
  · refine .inr ⟨a, len, cap, hcs, hl, hm, fun i hil j f hj => ?_⟩
    have him : i < m := by rw [hmm]; split <;> omega
    obtain ⟨cs', hc, ht'⟩ := hi i him
    rw [hC] at hc
    obtain ⟨ys, n', hn', hy, hlen, hyl, hf⟩ := DataW.trod_struct he ht'
    obtain ⟨_, hcl, hat⟩ := World.cells?_some hc
    obtain ⟨ho, hk⟩ := hone_of hone j f hj
    have hjl : j < fs.size := (Array.getElem?_eq_some_iff.1 hj).1
    have hcell := hat j hjl
    have hv : cs'[j]? = some (cs'[j]'(by omega)) := List.getElem?_eq_getElem (by omega)
    have h1 := hf j f hj
    rw [ho, hk] at h1
    have hone' : (cs'.drop j).take 1 = [cs'[j]'(by omega)] := by
      rw [List.drop_eq_getElem_cons (by omega)]
      rfl
    rw [hone'] at h1
    have hys : ys[j]? = some (ys[j]'(by omega)) := List.getElem?_eq_getElem (by omega)
    refine ⟨_, _, n', ?_, h1.trans hys⟩
    rw [← Go.Deep.add_add, hcell, hv]
end
set_option maxHeartbeats 400000 in
set_option maxRecDepth 100000 in
theorem lifted (os : Os) (started : os.Started) (H : Type) (enc : TypeId × Value → H) :
    ReturnsInHanded {} Tryd.checked os 8 .any (fun w args => (Rows.teleprotectionAloneSpec.pre enc Tryd.prog Tryd.f8 [] false w args ∧ laidMetH Tryd.prog A.laid1 w) ∧ sizedMet enc Tryd.prog Tryd.f8 (OpenSpec.ofChange Rows.teleprotectionAloneSpec) false w args) (Rows.teleprotectionAloneSpec.post enc Tryd.prog Tryd.f8 false true false false) := by
  refine returnsInHanded_of_change_and (C := Tryd.checked) (X := fun w _ => laidMetH Tryd.prog A.laid1 w) (fun _ _ _ hh h => h.of_heap hh) own started (by kernel_rfl) Tryd.func8
    (ChangeSpec.witness_shaped (enc := enc) (C := Tryd.checked) (os := os) (X := fun w _ => laidMetH Tryd.prog A.laid1 w) false (World.doorLaid Tryd.prog 400 os) #[.agg #[.int .i64 0, .int .i64 0, .int .i64 0], .slice none 0 0] 8 rfl (World.shaped_of_RefB (by kernel_rfl) (by kernel_rfl)) (by kernel_rfl) (by kernel_rfl) (by kernel_rfl) (A.door_met os _)) ?_
  intro W base args ds gs before hval0 hW hcnd hsz0 hL _
  have hsz : (DataW.weightsEach Tryd.prog (Tryd.f8.params.toList ++ Rows.teleprotectionAloneSpec.plain.varTypes Tryd.prog) (ds ++ gs)).all (· ≤ reachBytes) = true := hsz0
  have hval : ∀ (j : Nat) t v, Tryd.f8.params[j]? = some t → args[j]? = some v → Value.okWide Tryd.prog W .any base t v := hval0
  have hW' := hW
  obtain ⟨p, q, hA0, hV, rfl, hfz, hnd⟩ := hW
  have hA : DataW.TrodAll enc Tryd.prog W 0 (fun _ => true) true Tryd.f8.params.toList args.toList ds p := hA0
  rw [Tryd.params8] at hA hval hsz
  obtain ⟨v0, vs0, d0, ds0, p0, q0, hargs, rfl, rfl, h0, r0⟩ := trodAll_cons hA
  obtain ⟨v1, vs1, d1, ds1, p1, q1, rfl, rfl, rfl, h1, r1⟩ := trodAll_cons r0
  obtain ⟨rfl, rfl, rfl⟩ := trodAll_nil r1
  obtain rfl : args = #[v0, v1] := by cases args; simp_all
  obtain ⟨rfl, rfl⟩ := trodVars_none hV
  have k0 := h0
  have lt0 : ∀ x ∈ p0, x.block < W.heap.size := by obtain ⟨m, hm⟩ := k0; exact DataW.trod_lt m _ _ _ hm
  obtain ⟨a0_0, a0_1, a0_2, rfl, w0⟩ : ∃ (a0_0 : Int) (a0_1 : Int) (a0_2 : Int), v0 = .agg #[.int .i64 a0_0, .int .i64 a0_1, .int .i64 a0_2] ∧ (Lit.int .i64 a0_0).wf = true ∧ (Lit.int .i64 a0_1).wf = true ∧ (Lit.int .i64 a0_2).wf = true := by
    obtain ⟨v0, v1, v2, y0, y1, y2, n, rfl, _, _, t0, t1, t2⟩ := open_st3 Tryd.underlying33 (by kernel_rfl) (by kernel_rfl) (hval 0 33 v0 rfl rfl) h0
    obtain ⟨x0, e0, _, u0⟩ := DataW.trod_int Tryd.underlying3 t0
    obtain ⟨x1, e1, _, u1⟩ := DataW.trod_int Tryd.underlying3 t1
    obtain ⟨x2, e2, _, u2⟩ := DataW.trod_int Tryd.underlying3 t2
    simp only [List.cons.injEq, and_true] at e0 e1 e2
    subst e0 e1 e2
    exact ⟨_, _, _, rfl, u0, u1, u2⟩
  have k1 := h1
  obtain ⟨a1, len1, cap1, rfl⟩ := okWide_slice Tryd.underlying37 (hval 1 37 v1 rfl rfl)
  have lt1 : ∀ x ∈ p1, x.block < W.heap.size := by obtain ⟨m, hm⟩ := k1; exact DataW.trod_lt m _ _ _ hm
  have w1 : (a1 = none ∧ len1 = 0 ∧ cap1 = 0) ∨ ∃ x, a1 = some x ∧ len1 ≤ cap1 ∧ cap1 ≤ maxLen ∧ ∀ i, i < len1 → ∃ (u0 : Bool) (u1 : Bool) (u2 : Bool) (u3 : Bool), W.cell? (x.add (i * 4 + 0)) = some (.bool u0) ∧ W.cell? (x.add (i * 4 + 1)) = some (.bool u1) ∧ W.cell? (x.add (i * 4 + 2)) = some (.bool u2) ∧ W.cell? (x.add (i * 4 + 3)) = some (.bool u3) := by
    obtain ⟨fuel, hf⟩ := h1
    rcases open_slice_fields Tryd.underlying37 Tryd.underlying29 (by kernel_rfl) (by kernel_rfl) hf with hcs | ⟨x, l, c, hcs, hl, hm, hi⟩
    · simp [Value.cells] at hcs
      exact .inl hcs
    · simp [Value.cells] at hcs
      obtain ⟨rfl, rfl, rfl⟩ := hcs
      refine .inr ⟨_, rfl, hl, hm, fun i hil => ?_⟩
      obtain ⟨v0, y0, n0, c0, t0⟩ := hi i hil 0 _ rfl
      obtain ⟨x0, e0, _⟩ := DataW.trod_bool Tryd.underlying4 t0
      simp only [List.cons.injEq, and_true] at e0
      subst e0
      obtain ⟨v1, y1, n1, c1, t1⟩ := hi i hil 1 _ rfl
      obtain ⟨x1, e1, _⟩ := DataW.trod_bool Tryd.underlying4 t1
      simp only [List.cons.injEq, and_true] at e1
      subst e1
      obtain ⟨v2, y2, n2, c2, t2⟩ := hi i hil 2 _ rfl
      obtain ⟨x2, e2, _⟩ := DataW.trod_bool Tryd.underlying4 t2
      simp only [List.cons.injEq, and_true] at e2
      subst e2
      obtain ⟨v3, y3, n3, c3, t3⟩ := hi i hil 3 _ rfl
      obtain ⟨x3, e3, _⟩ := DataW.trod_bool Tryd.underlying4 t3
      simp only [List.cons.injEq, and_true] at e3
      subst e3
      exact ⟨_, _, _, _, c0, c1, c2, c3⟩
  clear hA0 hval0 hsz0 hsz
  refine (A.TeleprotectionAlone_walk a0_0 a0_1 a0_2 a1 len1 cap1 W (A.of_laid hL) w1).mono fun e W' ⟨he, bel⟩ => ?_
  subst he
  exact ⟨_, rfl, _, _, _, [], _, [], hW', trodAll_mk1 (shut_bool Tryd.underlying4 _), (trodAll_cons_mk (Below.trod laidOut (by kernel_rfl) (of_decide_eq_true (by kernel_rfl)) k0 bel lt0) (trodAll_cons_mk (Below.trod laidOut (by kernel_rfl) (of_decide_eq_true (by kernel_rfl)) k1 bel lt1) trodAll_mk0)), rfl, bel.frame _, fun h => by cases h⟩
theorem over : Rows.teleprotectionAloneRow.holds Tryd.pinned (OpenSpec.ofChange Rows.teleprotectionAloneSpec) :=
  OpenClaim.holds_of_wide 8 Tryd.f8 rfl rfl rfl rfl rfl rfl rfl ⟨rfl, rfl, rfl, rfl, rfl⟩ rfl rfl rfl rfl rfl (by kernel_rfl) Tryd.func8 (by kernel_rfl)
    (of_decide_eq_true (by kernel_rfl)) (by unfold Func.isWrapper; first | (rw [if_pos (by decide +kernel)]; kernel_rfl) | (rw [if_neg (by decide +kernel)]; exact ⟨rfl, rfl⟩))
    (fun os started H enc _ => lifted os started H enc)
theorem proved : Rows.TeleprotectionAloneSaid := over
theorem card : Rows.TeleprotectionAloneCardSaid :=
  Claim7.holds_tied_plain_at .later [] [.data] true (true, "73282d57609185b1dc3ea5e40b2f76e856b473b377efdf605611eec0983cdd40") false
    proved (fun _ h => by cases h) (by kernel_rfl) (fun _ h => by cases h) teleprotectionAlone_row_tie rfl ⟨rfl, rfl⟩ (by kernel_rfl) rfl
    (fun f fn hf hfn => by
      obtain rfl : f = 8 := Option.some.inj ((show Tryd.prog.funcNamed Rows.teleprotectionAloneRow.func = some 8 by kernel_rfl).symm.trans hf) |>.symm
      obtain rfl : fn = Tryd.f8 := (Option.some.inj (Tryd.func8.symm.trans hfn)).symm
      exact ⟨by kernel_rfl, fun j t ht => by
        rw [Tryd.params8] at ht
        have hm : t ∈ ([33, 37] : List Nat) := by simpa using Array.mem_of_getElem? ht
        have hall : (([33, 37] : List Nat).all fun u => !Tryd.prog.wantsStandIn u) = true := by kernel_rfl
        exact (show Tryd.prog.wantsStandIn t = false by simpa using List.all_eq_true.1 hall t hm)⟩)
    (by kernel_rfl)
#print axioms card
end Go.Proofs.YthnbokmnplipkaaDoor.teleprotectionAlone
namespace Go.Proofs.YthnbokmnplipkaaDoor
/-- The row, under a short name, for the claim. -/
theorem teleprotectionAlone_holds : Rows.TeleprotectionAloneCardSaid := teleprotectionAlone.card
end Go.Proofs.YthnbokmnplipkaaDoor

