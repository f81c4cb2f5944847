import Derived.Test.YtbbopomecanaoaaDoorBC9
import Derived.Laws.EntriesVeiled
import Derived.RegionTactic
/- The texts that the law's proof stands on, merged and pruned by program. No condition. -/
namespace Go.Proofs.YtbbopomecanaoaaDoor.A
open Go.RowKit Go.Proofs.YtbbopomecanaoaaDoorW.PrintWords Go.Proofs.YtbbopomecanaoaaDoorW.PrintLast Go.Proofs.YtbbopomecanaoaaDoorW.PrintMore Go.Proofs.YtbbopomecanaoaaDoor.XK
open Go.Proofs.YtbbopomecanaoaaDoor
set_option linter.unusedVariables false
set_option linter.unusedSimpArgs false
theorem lexP_good (s : ByteArray) : ∀ (k : Nat) (l : List Tk) (i : Nat) (ts : List Tk), lexP s k l i = some (.ok ts) → i ≤ s.size → (∀ t ∈ l, t.f3.toList ≠ []) → l.length ≤ i → (∀ t ∈ ts, t.f3.toList ≠ []) ∧ ts.length ≤ s.size
  | 0, l, i, ts, h, _, _, _ => by cases h
  | k + 1, l, i, ts, h, hi, hw, hl => by
    rw [lexP] at h
    split at h
    · rename_i hlt
      split at h
      · exact lexP_good s k l (i + 1) ts h (by omega) hw (by omega)
      · split at h
        · rename_i h0
          obtain ⟨a, b, c⟩ := nextP_end s i hlt h0
          refine lexP_good s k _ _ ts h b ?_ (by rw [List.length_append]; simp; omega)
          intro t ht
          rcases List.mem_append.mp ht with h1 | h1
          · exact hw t h1
          · rw [List.mem_singleton.mp h1, c]
            intro e
            have := (tol_nil _).mp e
            rw [ByteArray.size_extract] at this
            omega
        · cases h
    · cases h
      exact ⟨hw, by omega⟩
def zX : E := ⟨0, 0, ⟨#[]⟩, []⟩
def parseT (s : ByteArray) (ts : List Tk) : E × Int × Int :=
  match P ts s.size (7 * ts.length + 7) .or 0 (-1) with
  | none => (zX, 0, 0)
  | some (.fail a) => (zX, a, 6)
  | some (.ok x i l) => if i < ts.length then (zX, (pk ts s.size i).f1, 6) else if 0 ≤ l then (zX, l, 2) else if validB x = true then (x, 0, 0) else (zX, 0, 17)
def parseP (s : ByteArray) : E × Int × Int :=
  if 120 < s.size then (zX, 0, 4) else
  match lexP s (s.size + 1) [] 0 with
  | none => (zX, 0, 0)
  | some (.bad a e) => (zX, a, e)
  | some (.ok ts) => parseT s ts
theorem parse_lex (s : ByteArray) : ∃ r, lexP s (s.size + 1) [] 0 = some r := lexP_total s _ _ _ (Nat.zero_le _) (by omega)
theorem parse_P (s : ByteArray) (ts : List Tk) : ∃ r, P ts s.size (7 * ts.length + 7) .or 0 (-1) = some r :=
  P_ends ts s.size _ .or 0 (by show 7 * (ts.length - 0) + rank .or < _; have : rank .or ≤ 6 := by decide
                               omega) 0 (-1) (Nat.le_refl _)
end Go.Proofs.YtbbopomecanaoaaDoor.A
namespace Go.Proofs.YtbbopomecanaoaaDoor.A
open Go.RowKit Go.Proofs.YtbbopomecanaoaaDoorW.PrintWords Go.Proofs.YtbbopomecanaoaaDoorW.PrintLast Go.Proofs.YtbbopomecanaoaaDoorW.PrintMore Go.Proofs.YtbbopomecanaoaaDoor.XK
open Go.Proofs.YtbbopomecanaoaaDoor
attribute [local go_sem] max2_int min2_int max_two min_two max_three min_three max_four min_four fld1 fld3
set_option linter.unusedVariables false
set_option linter.unusedSimpArgs false
set_option maxRecDepth 100000 in
set_option maxHeartbeats 4000000 in
theorem valid_calls (x : E) (A : Option Addr) (c : Nat) (w : World) (hC : (k24).C w A x.f3.length x.f3) :
    Calls Tryd.prog 14 #[.agg (cE x (.slice A x.f3.length c))] w fun e w' => e = .returned (.bool (validB x)) ∧ Below w.heap.size w w' := by
  have HC := Aside0.mk hC
  clear hC
  have hmf := makeFunc_run
  have eg := eOf 29 Tryd.func29 (by kernel_rfl) rfl
  obtain ⟨W3, hW3⟩ : ∃ W3, ((w.alloc (.cells (cE x (.slice A x.f3.length c)) 24)).alloc (.cells #[.int .i64 0] 3)).alloc (.cells #[.nilFunc] 25) = W3 := ⟨_, rfl⟩
  have e1 : (w.alloc (.cells (cE x (.slice A x.f3.length c)) 24)).heap.size = w.heap.size + 1 := World.size_alloc _ _
  have e2 : ((w.alloc (.cells (cE x (.slice A x.f3.length c)) 24)).alloc (.cells #[.int .i64 0] 3)).heap.size = w.heap.size + 1 + 1 := by rw [World.size_alloc, e1]
  have b1 := below_alloc (Below.refl w.heap.size w) (.cells (cE x (.slice A x.f3.length c)) 24)
  have b2 := below_alloc b1 (.cells #[.int .i64 0] 3)
  have b3 := below_alloc b2 (.cells #[.nilFunc] 25)
  rw [hW3] at b3
  have c1 := below_alloc (Below.refl _ (w.alloc (.cells (cE x (.slice A x.f3.length c)) 24))) (.cells #[.int .i64 0] 3)
  have c2 := below_alloc (Below.refl _ ((w.alloc (.cells (cE x (.slice A x.f3.length c)) 24)).alloc (.cells #[.int .i64 0] 3))) (.cells #[.nilFunc] 25)
  rw [hW3] at c2
  have BX0 := heap_alloc_new w (.cells (cE x (.slice A x.f3.length c)) 24)
  have BX1 := blk_below (blk_below BX0 c1) c2
  have BS0 := heap_alloc_new (w.alloc (.cells (cE x (.slice A x.f3.length c)) 24)) (.cells #[.int .i64 0] 3)
  rw [e1] at BS0
  have BS1 := blk_below BS0 c2
  have BV0 := heap_alloc_new ((w.alloc (.cells (cE x (.slice A x.f3.length c)) 24)).alloc (.cells #[.int .i64 0] 3)) (.cells #[.nilFunc] 25)
  rw [e2, hW3] at BV0
  have z0 : W3.cell? ⟨w.heap.size + 1 + 1, 0, none⟩ = some .nilFunc := blk_cell BV0 0
  have z1 : W3.frozen? ⟨w.heap.size + 1 + 1, 0, none⟩ = false := blk_frozen BV0 0
  have hs := blk_far (p := ⟨w.heap.size + 1 + 1, 0, none⟩) BS1 (show w.heap.size + 1 ≠ w.heap.size + 1 + 1 by omega) (.func (.func 29) #[] #[.pointer (some ⟨w.heap.size + 1, 0, none⟩), .pointer (some ⟨w.heap.size + 1 + 1, 0, none⟩)])
  have hv := blk_put BV0 0 (.func (.func 29) #[] #[.pointer (some ⟨w.heap.size + 1, 0, none⟩), .pointer (some ⟨w.heap.size + 1 + 1, 0, none⟩)]) rfl
  have hx := blk_far (p := ⟨w.heap.size + 1 + 1, 0, none⟩) BX1 (show w.heap.size ≠ w.heap.size + 1 + 1 by omega) (.func (.func 29) #[] #[.pointer (some ⟨w.heap.size + 1, 0, none⟩), .pointer (some ⟨w.heap.size + 1 + 1, 0, none⟩)])
  have hb := below_set (j := 0) (v := .func (.func 29) #[] #[.pointer (some ⟨w.heap.size + 1, 0, none⟩), .pointer (some ⟨w.heap.size + 1 + 1, 0, none⟩)]) b3 (show w.heap.size ≤ w.heap.size + 1 + 1 by omega)
  have HV : Aside0 (VS w (w.heap.size + 1) (w.heap.size + 1 + 1) 0 (W3.setCell ⟨w.heap.size + 1 + 1, 0, none⟩ (.func (.func 29) #[] #[.pointer (some ⟨w.heap.size + 1, 0, none⟩), .pointer (some ⟨w.heap.size + 1 + 1, 0, none⟩)]))) := ⟨hs, hv, hb, by omega, by omega, by omega⟩
  have v0 := blk_cell hv 0
  have x0 := blk_cell hx 0
  have x1 := blk_cell hx 1
  have x2 := blk_cell hx 2
  have x3 := blk_cell hx 3
  simp at v0 x0 x1 x2 x3
  clear e1 e2 b1 b2 b3 c1 c2 BX0 BX1 BS0 BS1 BV0 hs hv hx hb
  go_enter Tryd.func14, Tryd.ntmps14
  go_wp2_with fail
  with_reducible refine (valid1_calls w (w.heap.size + 1) (w.heap.size + 1 + 1) 16 1 x A c 0 _ (by decide) (by decide) (by decide) (by decide) HC.out HV.out).mono ?_
  rintro e w4 ⟨rfl, HG4, HV4⟩
  have HB := Aside0.mk HV4.bl
  clear HG4 HV4 HV v0 x0 x1 x2 x3 z0 z1
  have hv : (validF 16 1 x 0).1 = validB x := rfl
  rw [hv]
  clear hv
  go_wp2_with fail
  go_ret
  exact ⟨rfl, HB.out⟩
end Go.Proofs.YtbbopomecanaoaaDoor.A
namespace Go.Proofs.YtbbopomecanaoaaDoor.A
open Go.RowKit Go.Proofs.YtbbopomecanaoaaDoorW.PrintWords Go.Proofs.YtbbopomecanaoaaDoorW.PrintLast Go.Proofs.YtbbopomecanaoaaDoorW.PrintMore Go.Proofs.YtbbopomecanaoaaDoor.XK
open Go.Proofs.YtbbopomecanaoaaDoor
attribute [local go_sem] max2_int min2_int max_two min_two max_three min_three max_four min_four fld1 fld3
set_option linter.unusedVariables false
set_option linter.unusedSimpArgs false
theorem below_grown {w0 w w1 : World} {g : Nat} (h : Below w0.heap.size w0 w) (hg : w.grownBy w1 (some g)) (hl : w0.heap.size ≤ g) : Below w0.heap.size w0 w1 :=
  ⟨hg.os.trans h.os, hg.tape.trans h.tape, hg.output.trans h.output, Nat.le_trans h.size hg.size, fun k hk => (hg.block k (Nat.lt_of_lt_of_le hk h.size) (by intro e; cases e; omega)).trans (h.block k hk)⟩
def PPost (w : World) (r : E × Int × Int) (e : Ending) (w' : World) : Prop :=
  ∃ v3, e = .returned (.tuple #[.agg (cE r.1 v3), .int .i64 r.2.1, .int .i64 r.2.2]) ∧ RX w' w.heap.size (fun _ => True) v3 r.1.f3 ∧ Below w.heap.size w w'
theorem put4_below {w0 w : World} {g : Nat} (h : Below w0.heap.size w0 w) (hg : w0.heap.size ≤ g) (a b c d : Value) : Below w0.heap.size w0 (put4 w g a b c d) :=
  below_set (j := 3) (v := d) (below_set (j := 2) (v := c) (below_set (j := 1) (v := b) (below_set (j := 0) (v := a) h hg) hg) hg) hg
theorem put4_far {w : World} {g k t : Nat} {cs : Array Value} (h : w.heap[k]? = some (.cells cs t (0, 0))) (hne : k ≠ g) (a b c d : Value) : (put4 w g a b c d).heap[k]? = some (.cells cs t (0, 0)) :=
  blk_far (p := ⟨g, 3, none⟩) (blk_far (p := ⟨g, 2, none⟩) (blk_far (p := ⟨g, 1, none⟩) (blk_far (p := ⟨g, 0, none⟩) h hne a) hne b) hne c) hne d
theorem put4_RX {w : World} {B : Nat} {ok : Nat → Prop} {v : Value} {xs : List E} (h : RX w B ok v xs) {g : Nat} (hk : ∀ k, ok k → k ≠ g) (a b c d : Value) : RX (put4 w g a b c d) B ok v xs :=
  (((h.far hk 0 a).far hk 1 b).far hk 2 c).far hk 3 d
set_option maxRecDepth 100000 in
set_option maxHeartbeats 4000000 in
theorem parse_long (s : ByteArray) (hs : 120 < s.size) (w : World) : Calls Tryd.prog 18 #[.string s] w fun e w' => PPost w (parseP s) e w' := by
  have HB := Aside0.mk (below_alloc (Below.refl w.heap.size w) (.cells zE 24))
  have BO := Aside0.mk (heap_alloc_new w (.cells zE 24))
  have e : parseP s = (zX, 0, 4) := by unfold parseP; rw [if_pos hs]
  rw [e]
  have g1 : decide ((s.size : Int) > 120) = true := by simp; omega
  have g2 : decide ((120 : Int) < (s.size : Int)) = true := by simp; omega
  clear hs e
  go_enter Tryd.func18, Tryd.ntmps18
  go_wp2_with fail
  have o0 := blk_cell BO.out 0
  have o1 := blk_cell BO.out 1
  have o2 := blk_cell BO.out 2
  have o3 := blk_cell BO.out 3
  simp at o0 o1 o2 o3
  exact bodyPost_ret (v := .tuple #[.agg zE, .int .i64 0, .int .i64 4]) (by simp [results, Tryd.results18, go_sem, o0, o1, o2, o3]) rfl ⟨_, rfl, Kd.R_nil _ _ _ _ _, HB.out⟩
def parseR (s : ByteArray) : LexR → E × Int × Int
  | .bad a e => (zX, (a : Int), e)
  | .ok ts => parseT s ts
def parseS (s : ByteArray) (ts : List Tk) : Res → E × Int × Int
  | .fail a => (zX, a, 6)
  | .ok x i l => if i < ts.length then (zX, (pk ts s.size i).f1, 6) else if 0 ≤ l then (zX, l, 2) else if validB x = true then (x, 0, 0) else (zX, 0, 17)
theorem parseR_ok {s : ByteArray} {ts : List Tk} {rp : Res} (h : P ts s.size (7 * ts.length + 7) .or 0 (-1) = some rp) : parseR s (.ok ts) = parseS s ts rp := by
  show parseT s ts = _
  unfold parseT
  rw [h]
  cases rp <;> rfl
theorem parse_is {s : ByteArray} {r : LexR} (hs : ¬ 120 < s.size) (hr : lexP s (s.size + 1) [] 0 = some r) : parseP s = parseR s r := by
  unfold parseP
  rw [if_neg hs, hr]
  cases r <;> rfl
theorem lexP_bad (s : ByteArray) : ∀ (k : Nat) (l : List Tk) (i a : Nat) (e : Int), lexP s k l i = some (.bad a e) → e ≠ 0
  | 0, l, i, a, e, h => by cases h
  | k + 1, l, i, a, e, h => by
    rw [lexP] at h
    split at h
    · split at h
      · exact lexP_bad s k _ _ _ _ h
      · split at h
        · exact lexP_bad s k _ _ _ _ h
        · rename_i h0
          cases h
          exact h0
    · cases h
theorem toks_of {w : World} {base : Nat} {ok : Nat → Prop} {A : Option Addr} {c : Nat} {ts : List Tk} (h : Kd.R k88 88 w base ok (.slice A ts.length c) ts) (en : Int) (g : Nat) (hg : w.heap.size ≤ g) :
    Toks ⟨g, A, c, ts, en, 0⟩ w := ⟨fun j hj => by
  obtain ⟨h1, h2, h3⟩ := Kd.R_reads' h
  obtain ⟨ad, e, c0, c1, c2, c3⟩ := at_T88 h3 (j : Int) (by omega) (by exact_mod_cast hj)
  rw [Int.toNat_natCast] at c0 c1 c2 c3
  refine ⟨ad, e, ?_, c0, c1, c2, c3⟩
  have := World.block_lt_of_cell? w _ c1
  intro e2
  have e3 : (ad.add (j * 4)).block = ad.block := by unfold Addr.add; split <;> rfl
  rw [show (⟨(ad.add (j * 4)).block, (ad.add (j * 4)).off + 1, none⟩ : Addr).block = (ad.add (j * 4)).block from rfl, e3, e2] at this
  exact absurd this (by show ¬ g < _; omega)⟩
set_option maxRecDepth 100000 in
set_option maxHeartbeats 4000000 in
theorem parse_calls {WW : World → Prop} (AT : AtoiF WW) (s : ByteArray) (w : World) (hw : WW w) : Calls Tryd.prog 18 #[.string s] w fun e w' => PPost w (parseP s) e w' := by
  by_cases hs : 120 < s.size
  · exact parse_long s hs w
  obtain ⟨r, hr⟩ := parse_lex s
  have e := parse_is hs hr
  have HB := Aside0.mk (below_alloc (Below.refl w.heap.size w) (.cells zE 24))
  have BO := Aside0.mk (heap_alloc_new w (.cells zE 24))
  have HW := Aside0.mk (AT.stay _ _ hw HB.out)
  have HL := Aside0.mk (lex_calls AT s (by omega) (s.size + 1) r hr _ HW.out)
  have HBAD := Aside0.mk (lexP_bad s (s.size + 1) [] 0)
  have HGOOD := Aside0.mk (lexP_good s (s.size + 1) [] 0)
  have HR := Aside0.mk hr
  rw [e]
  have HS := Aside0.mk hs
  have g1 : decide ((s.size : Int) > 120) = false := by simp; omega
  have g2 : decide ((120 : Int) < (s.size : Int)) = false := by simp; omega
  clear hs e hr
  go_enter Tryd.func18, Tryd.ntmps18
  go_wp2_with fail
  generalize w.alloc (.cells zE 24) = W1 at *
  obtain ⟨ob, hob⟩ : ∃ ob, w.heap.size = ob := ⟨_, rfl⟩
  have HOB : Aside0 (w.heap.size ≤ ob) := ⟨by omega⟩
  rw [hob] at BO ⊢
  clear hob g1 g2
  have hlt1 := blk_lt BO.out
  have HLT1 := Aside0.mk hlt1
  clear hlt1
  with_reducible refine HL.out.mono ?_
  clear HL
  intro e w2 hpost
  cases r with
  | bad a er =>
    obtain ⟨rfl, HB2⟩ := hpost
    have her : (er != 0) = true := by simpa using HBAD.out _ _ HR.out
    have her2 : (er == 0) = false := by simpa using HBAD.out _ _ HR.out
    replace BO := Aside0.mk (blk_below BO.out (Below.mono HB2 (by omega)))
    replace HB := Aside0.mk (below_step HB.out HB2)
    clear HB2 HBAD HGOOD HR HLT1
    have o0 := blk_cell BO.out 0
    have o1 := blk_cell BO.out 1
    have o2 := blk_cell BO.out 2
    have o3 := blk_cell BO.out 3
    have f0 := blk_frozen BO.out 0
    have f1 := blk_frozen BO.out 1
    have f2 := blk_frozen BO.out 2
    have f3 := blk_frozen BO.out 3
    simp at o0 o1 o2 o3
    go_wp2_with fail
    have hz := put4_blk BO.out (.int .i64 0) (.int .i64 0) (.string (⟨#[]⟩ : ByteArray)) (.slice none 0 0)
    replace HB := Aside0.mk (below_set (j := 3) (v := .slice none 0 0) (below_set (j := 2) (v := .string (⟨#[]⟩ : ByteArray)) (below_set (j := 1) (v := .int .i64 0) (below_set (j := 0) (v := .int .i64 0) HB.out HOB.out) HOB.out) HOB.out) HOB.out)
    clear o0 o1 o2 o3 f0 f1 f2 f3 BO
    have o0 := blk_cell hz 0
    have o1 := blk_cell hz 1
    have o2 := blk_cell hz 2
    have o3 := blk_cell hz 3
    simp at o0 o1 o2 o3
    exact bodyPost_ret (v := .tuple #[.agg zE, .int .i64 a, .int .i64 er]) (by simp [results, Tryd.results18, go_sem, o0, o1, o2, o3]) rfl ⟨_, rfl, Kd.R_nil _ _ _ _ _, HB.out⟩
  | ok ts =>
    obtain ⟨A, c, rfl, hx, HB2⟩ := hpost
    obtain ⟨hw1, hl1⟩ := HGOOD.out ts HR.out (Nat.zero_le _) (by simp) (Nat.zero_le _)
    have hs := HS.out
    replace BO := Aside0.mk (blk_below BO.out (Below.mono HB2 (by omega)))
    replace HB := Aside0.mk (below_step HB.out HB2)
    replace HLT1 := Aside0.mk (Nat.lt_of_lt_of_le HLT1.out HB2.size)
    have HA := Aside0.mk (below_alloc (Below.refl w2.heap.size w2) (.cells #[.slice A ts.length c, .int .i64 0, .int .i64 (s.size : Int), .int .i64 (-1)] 63))
    have HP : Aside0 (PS ⟨w2.heap.size, A, c, ts, s.size, 0⟩ (w2.alloc (.cells #[.slice A ts.length c, .int .i64 0, .int .i64 (s.size : Int), .int .i64 (-1)] 63)) 0 (-1)) :=
      ⟨heap_alloc_new w2 _, (toks_of hx s.size w2.heap.size (Nat.le_refl _)).grown (grown_of_below HA.out _), Nat.zero_le _, by show ts.length ≤ 1000; omega, Nat.zero_le _, fun j hj => by
        have e : ts.getD j z88 = ts[j]'hj := by simp [show j < ts.length from hj]
        show (ts.getD j z88).f3.toList ≠ []
        rw [e]
        exact hw1 _ (List.getElem_mem _)⟩
    obtain ⟨rp, hrp⟩ := parse_P s ts
    have HWH := Aside0.mk (whole_calls ⟨w2.heap.size, A, c, ts, s.size, 0⟩ _ 0 (-1) rp hrp _ HP.out)
    have HT := Aside0.mk (parseR_ok hrp)
    replace BO := Aside0.mk (blk_below BO.out HA.out)
    have HB3 := Aside0.mk (below_step HB.out HA.out)
    clear hw1 hl1 hs hx HB2 HGOOD HBAD HR hrp HB HP HW HA
    go_wp2_with fail
    generalize w2.alloc (.cells #[.slice A ts.length c, .int .i64 0, .int .i64 (s.size : Int), .int .i64 (-1)] 63) = W2 at *
    generalize w2.heap.size = pb at *
    with_reducible refine HWH.out.mono ?_
    clear HWH
    intro e w3 hw
    cases rp with
    | fail a =>
      obtain ⟨rfl, hg⟩ := hw
      have hg : W2.grownBy w3 (some pb) := hg
      replace BO := Aside0.mk ((hg.block ob (blk_lt BO.out) (by intro e; cases e; have := HLT1.out; omega)).trans BO.out)
      replace HB3 := Aside0.mk (below_grown HB3.out hg (by have := HLT1.out; have := HOB.out; omega))
      clear hg
      have o0 := blk_cell BO.out 0
      have o1 := blk_cell BO.out 1
      have o2 := blk_cell BO.out 2
      have o3 := blk_cell BO.out 3
      have f0 := blk_frozen BO.out 0
      have f1 := blk_frozen BO.out 1
      have f2 := blk_frozen BO.out 2
      have f3 := blk_frozen BO.out 3
      simp at o0 o1 o2 o3
      go_wp2_with fail
      have hz := put4_blk (put4_blk BO.out (.int .i64 0) (.int .i64 0) (.string (⟨#[]⟩ : ByteArray)) (.slice none 0 0)) (.int .i64 0) (.int .i64 0) (.string (⟨#[]⟩ : ByteArray)) (.slice none 0 0)
      replace HB3 := Aside0.mk (put4_below (put4_below HB3.out HOB.out (.int .i64 0) (.int .i64 0) (.string (⟨#[]⟩ : ByteArray)) (.slice none 0 0)) HOB.out (.int .i64 0) (.int .i64 0) (.string (⟨#[]⟩ : ByteArray)) (.slice none 0 0))
      clear o0 o1 o2 o3 f0 f1 f2 f3 BO
      have o0 := blk_cell hz 0
      have o1 := blk_cell hz 1
      have o2 := blk_cell hz 2
      have o3 := blk_cell hz 3
      simp at o0 o1 o2 o3
      exact bodyPost_ret (v := .tuple #[.agg zE, .int .i64 a, .int .i64 6]) (by simp [results, Tryd.results18, go_sem, o0, o1, o2, o3]) rfl (by rw [HT.out]; exact ⟨_, rfl, Kd.R_nil _ _ _ _ _, HB3.out⟩)
    | ok x i l =>
      by_cases hi : i < ts.length
      · have hw : (if i < ts.length then _ else _) := hw
        rw [if_pos hi] at hw
        obtain ⟨rfl, hg⟩ := hw
        have HI := Aside0.mk hi
        clear hi
        dsimp only
        generalize hat : (pk ts (s.size : Int) i).f1 = at_ at *
        have HAT := Aside0.mk hat
        clear hat
        have hg : W2.grownBy w3 (some pb) := hg
        replace BO := Aside0.mk ((hg.block ob (blk_lt BO.out) (by intro e; cases e; have := HLT1.out; omega)).trans BO.out)
        replace HB3 := Aside0.mk (below_grown HB3.out hg (by have := HLT1.out; have := HOB.out; omega))
        clear hg
        have o0 := blk_cell BO.out 0
        have o1 := blk_cell BO.out 1
        have o2 := blk_cell BO.out 2
        have o3 := blk_cell BO.out 3
        have f0 := blk_frozen BO.out 0
        have f1 := blk_frozen BO.out 1
        have f2 := blk_frozen BO.out 2
        have f3 := blk_frozen BO.out 3
        simp at o0 o1 o2 o3
        go_wp2_with fail
        have hz := put4_blk (put4_blk BO.out (.int .i64 0) (.int .i64 0) (.string (⟨#[]⟩ : ByteArray)) (.slice none 0 0)) (.int .i64 0) (.int .i64 0) (.string (⟨#[]⟩ : ByteArray)) (.slice none 0 0)
        replace HB3 := Aside0.mk (put4_below (put4_below HB3.out HOB.out (.int .i64 0) (.int .i64 0) (.string (⟨#[]⟩ : ByteArray)) (.slice none 0 0)) HOB.out (.int .i64 0) (.int .i64 0) (.string (⟨#[]⟩ : ByteArray)) (.slice none 0 0))
        clear o0 o1 o2 o3 f0 f1 f2 f3 BO
        have o0 := blk_cell hz 0
        have o1 := blk_cell hz 1
        have o2 := blk_cell hz 2
        have o3 := blk_cell hz 3
        simp at o0 o1 o2 o3
        exact bodyPost_ret (v := .tuple #[.agg zE, .int .i64 at_, .int .i64 6]) (by simp [results, Tryd.results18, go_sem, o0, o1, o2, o3]) rfl (by rw [HT.out]; show PPost w (if i < ts.length then _ else _) _ _; rw [if_pos HI.out, HAT.out]; exact ⟨_, rfl, Kd.R_nil _ _ _ _ _, HB3.out⟩)
      · have hw : (if i < ts.length then _ else _) := hw
        rw [if_neg hi] at hw
        obtain ⟨v3, rfl, hx, hg, hp⟩ := hw
        obtain ⟨A3, c3, rfl⟩ := Kd.R_slice hx
        have hg : W2.grownBy w3 (some pb) := hg
        have hb := hp.blk
        dsimp only at hb
        have hne : ob ≠ pb := by have := HLT1.out; omega
        have hlt : ob < W2.heap.size := blk_lt BO.out
        replace BO := Aside0.mk ((hg.block ob (blk_lt BO.out) (by intro e; cases e; exact hne rfl)).trans BO.out)
        replace HB3 := Aside0.mk (below_grown HB3.out hg (by have := HLT1.out; have := HOB.out; omega))
        have HZ := Aside0.mk (put4_blk BO.out (.int .i64 x.f0) (.int .i64 x.f1) (.string x.f2) (.slice A3 x.f3.length c3))
        have hpb := put4_far hb (Ne.symm hne) (.int .i64 x.f0) (.int .i64 x.f1) (.string x.f2) (.slice A3 x.f3.length c3)
        have HX := Aside0.mk (put4_RX hx (g := ob) (fun k hk => by have hk : W2.heap.size ≤ k := hk; omega) (.int .i64 x.f0) (.int .i64 x.f1) (.string x.f2) (.slice A3 x.f3.length c3))
        have HOLT := Aside0.mk hlt
        have HSZ := Aside0.mk (show w.heap.size ≤ W2.heap.size by have := HOB.out; omega)
        replace HB3 := Aside0.mk (put4_below HB3.out HOB.out (.int .i64 x.f0) (.int .i64 x.f1) (.string x.f2) (.slice A3 x.f3.length c3))
        have HI := Aside0.mk hi
        have HV := Aside0.mk (valid_calls x A3 c3 (put4 w3 ob (.int .i64 x.f0) (.int .i64 x.f1) (.string x.f2) (.slice A3 x.f3.length c3)) (Kd.R_reads' HX.out).2.2)
        have o0 := blk_cell BO.out 0
        have o1 := blk_cell BO.out 1
        have o2 := blk_cell BO.out 2
        have o3 := blk_cell BO.out 3
        have f0 := blk_frozen BO.out 0
        have f1 := blk_frozen BO.out 1
        have f2 := blk_frozen BO.out 2
        have f3 := blk_frozen BO.out 3
        simp at o0 o1 o2 o3
        have z0 := blk_cell HZ.out 0
        have z1 := blk_cell HZ.out 1
        have z2 := blk_cell HZ.out 2
        have z3 := blk_cell HZ.out 3
        have zf0 := blk_frozen HZ.out 0
        have zf1 := blk_frozen HZ.out 1
        have zf2 := blk_frozen HZ.out 2
        have zf3 := blk_frozen HZ.out 3
        have pl := blk_cell hpb 3
        simp [put4] at z0 z1 z2 z3 pl
        clear hw hi hx hg hp hb hne hlt hpb BO
        by_cases hl : 0 ≤ l
        · have g1 : decide (l ≥ 0) = true := by simpa using hl
          have g2 : decide (0 ≤ l) = true := by simpa using hl
          have HL := Aside0.mk hl
          clear hl
          have hn1 : ¬ pb = ob := by have := HLT1.out; omega
          have hn2 : ¬ ob = pb := by have := HLT1.out; omega
          go_wp2_with fail
          go_region
          go_wp2_with fail
          have hz := put4_blk HZ.out (.int .i64 0) (.int .i64 0) (.string (⟨#[]⟩ : ByteArray)) (.slice none 0 0)
          replace HB3 := Aside0.mk (put4_below HB3.out HOB.out (.int .i64 0) (.int .i64 0) (.string (⟨#[]⟩ : ByteArray)) (.slice none 0 0))
          clear o0 o1 o2 o3 f0 f1 f2 f3 z0 z1 z2 z3 zf0 zf1 zf2 zf3 pl hn1 hn2
          have o0 := blk_cell hz 0
          have o1 := blk_cell hz 1
          have o2 := blk_cell hz 2
          have o3 := blk_cell hz 3
          simp at o0 o1 o2 o3
          exact bodyPost_ret (v := .tuple #[.agg zE, .int .i64 l, .int .i64 2]) (by simp [results, Tryd.results18, go_sem, o0, o1, o2, o3]) rfl (by
            rw [HT.out]
            show PPost w (if i < ts.length then _ else if 0 ≤ l then _ else _) _ _
            rw [if_neg HI.out, if_pos HL.out]
            exact ⟨_, rfl, Kd.R_nil _ _ _ _ _, below_drew HB3.out⟩)
        · have g1 : decide (l ≥ 0) = false := by simpa using hl
          have g2 : decide (0 ≤ l) = false := by simpa using hl
          have HL := Aside0.mk hl
          clear hl
          go_wp2_with fail
          clear o0 o1 o2 o3 f0 f1 f2 f3 z0 z1 z2 z3 zf0 zf1 zf2 zf3 pl
          with_reducible refine HV.out.mono ?_
          clear HV
          rintro e w5 ⟨rfl, HB5⟩
          replace HZ := Aside0.mk (blk_below HZ.out HB5)
          replace HX := Aside0.mk (Kd.R_below HX.out HB5)
          replace HB3 := Aside0.mk (below_step HB3.out HB5)
          clear HB5
          have hT : parseR s (.ok ts) = if validB x = true then (x, 0, 0) else (zX, 0, 17) := by
            rw [HT.out]
            show (if i < ts.length then _ else if 0 ≤ l then _ else _) = _
            rw [if_neg HI.out, if_neg (by have := HL.out; omega)]
          replace HT := Aside0.mk hT
          clear hT g1 g2
          have o0 := blk_cell HZ.out 0
          have o1 := blk_cell HZ.out 1
          have o2 := blk_cell HZ.out 2
          have o3 := blk_cell HZ.out 3
          have f0 := blk_frozen HZ.out 0
          have f1 := blk_frozen HZ.out 1
          have f2 := blk_frozen HZ.out 2
          have f3 := blk_frozen HZ.out 3
          simp at o0 o1 o2 o3
          have HVB : Aside0 (validB x = validB x) := ⟨rfl⟩
          generalize hvb : validB x = vb at HT HVB ⊢
          cases vb with
          | true =>
            have hz := put4_blk HZ.out (.int .i64 x.f0) (.int .i64 x.f1) (.string x.f2) (.slice A3 x.f3.length c3)
            replace HB3 := Aside0.mk (put4_below HB3.out HOB.out (.int .i64 x.f0) (.int .i64 x.f1) (.string x.f2) (.slice A3 x.f3.length c3))
            replace HX := Aside0.mk (put4_RX HX.out (g := ob) (fun k hk => by have hk : W2.heap.size ≤ k := hk; have := HOLT.out; omega) (.int .i64 x.f0) (.int .i64 x.f1) (.string x.f2) (.slice A3 x.f3.length c3))
            have q0 := blk_cell hz 0
            have q1 := blk_cell hz 1
            have q2 := blk_cell hz 2
            have q3 := blk_cell hz 3
            simp [put4] at q0 q1 q2 q3
            clear hvb hz
            go_wp2_with fail
            exact bodyPost_ret (v := .tuple #[.agg (cE x (.slice A3 x.f3.length c3)), .int .i64 0, .int .i64 0]) (by simp [results, Tryd.results18, go_sem, q0, q1, q2, q3]) rfl (by
              rw [HT.out, if_pos (by trivial)]
              exact ⟨_, rfl, Kd.R_mono (Kd.R_lower HX.out HSZ.out) (fun _ _ => trivial), HB3.out⟩)
          | false =>
            have hz := put4_blk HZ.out (.int .i64 0) (.int .i64 0) (.string (⟨#[]⟩ : ByteArray)) (.slice none 0 0)
            replace HB3 := Aside0.mk (put4_below HB3.out HOB.out (.int .i64 0) (.int .i64 0) (.string (⟨#[]⟩ : ByteArray)) (.slice none 0 0))
            have q0 := blk_cell hz 0
            have q1 := blk_cell hz 1
            have q2 := blk_cell hz 2
            have q3 := blk_cell hz 3
            simp [put4] at q0 q1 q2 q3
            clear hvb hz
            go_wp2_with fail
            exact bodyPost_ret (v := .tuple #[.agg zE, .int .i64 0, .int .i64 17]) (by simp [results, Tryd.results18, go_sem, q0, q1, q2, q3]) rfl (by
              rw [HT.out, if_neg (by simp)]
              exact ⟨_, rfl, Kd.R_nil _ _ _ _ _, HB3.out⟩)
end Go.Proofs.YtbbopomecanaoaaDoor.A
