import Derived.Test.YthnbokmnplipkaaDoorB
import Derived.Test.YthnbokmnplipkaaDoorG
import Derived.RegionTactic
/- Step. The condition Sch is the contract's own. -/
namespace Go.Proofs.YthnbokmnplipkaaDoor.A
open Go.RowKit Go.Proofs.YthnbokmnplipkaaDoorW.PrintWords Go.Proofs.YthnbokmnplipkaaDoorW.PrintLast Go.Proofs.YthnbokmnplipkaaDoorW.PrintMore
open Go.Proofs.YthnbokmnplipkaaDoor.PTeleprotectionSteps
open Go.Proofs.YthnbokmnplipkaaDoor
attribute [local go_sem] max2_int min2_int max_two min_two max_three min_three max_four min_four
set_option linter.unusedVariables false
set_option linter.unusedSimpArgs false

def gN (rv : Bool) (guard g : Int) : Int := if rv = true then guard + 1 else (if g - 1 < 0 then 0 else g - 1)
def hN (z2 rc kept : Bool) (wait h : Int) : Int := if (z2 && !rc && !kept) = true then (if wait + 1 < h + 1 then wait + 1 else h + 1) else 0
/-- Step: the state, whether it sends, whether it trips. -/
def stepV (s wait guard g h : Int) (z1 z2 rv rc : Bool) : Int × Int × Bool × Bool :=
  if validB s wait guard g h = true ∧ s ≠ 0 then
    (if s = 1 then (gN rv guard g, h, z1, z2 && rc)
     else if s = 2 then (gN rv guard g, h, z2 && !decide (0 < gN rv guard g), z2 && rc && !decide (0 < gN rv guard g))
     else (gN rv guard g, hN z2 rc (decide (0 < gN rv guard g)) wait h, decide (0 < gN rv guard g), decide (wait < hN z2 rc (decide (0 < gN rv guard g)) wait h)))
  else (0, 0, false, false)
abbrev inp (z1 z2 rv rc : Bool) : Value := .agg #[.bool z1, .bool z2, .bool rv, .bool rc]
abbrev outp (a b : Bool) : Value := .agg #[.bool a, .bool b]
theorem valid_bd {s wait guard g h : Int} (hv : validB s wait guard g h = true) : (s = 0 ∨ s = 1 ∨ s = 2 ∨ s = 3) ∧ 0 ≤ wait ∧ wait ≤ 50 ∧ 0 ≤ guard ∧ guard ≤ 50 ∧ 0 ≤ g ∧ g ≤ 51 ∧ 0 ≤ h ∧ h ≤ 51 := by
  unfold validB at hv
  simp only [Bool.and_eq_true, decide_eq_true_eq] at hv
  obtain ⟨⟨hu, h1, h2⟩, h3, h4⟩ := hv
  have := usable_bd hu
  unfold mxG at h2
  unfold mxH at h4
  refine ⟨this.1, this.2.1, this.2.2.1, this.2.2.2.1, this.2.2.2.2, h1, ?_, h3, ?_⟩
  · split at h2 <;> omega
  · split at h4 <;> omega
theorem guarded_f (g h guard : Int) (rv : Bool) (hg : 0 ≤ g ∧ g ≤ 51) (hd : 0 ≤ guard ∧ guard ≤ 50) : teleprotection_guarded.f g h guard rv = some (decide (0 < gN rv guard g), gN rv guard g, h) := by
  unfold teleprotection_guarded.f gN mx
  cases rv
  · rw [if_neg (show ¬ (false = true) by decide), if_neg (show ¬ (false = true) by decide), w64 (by omega) (by omega)]
  · rw [if_pos rfl, if_pos rfl, w64 (by omega) (by omega)]
theorem block_f (g h wait : Int) (z1 z2 rv rc k : Bool) (hh : 0 ≤ h ∧ h ≤ 51) (hw : 0 ≤ wait ∧ wait ≤ 50) : teleprotection_block.f g h wait z1 z2 rv rc k = some (decide (wait < hN z2 rc k wait h), g, hN z2 rc k wait h) := by
  unfold teleprotection_block.f hN mn
  cases z2 <;> cases rc <;> cases k <;> simp [w64 (n := h + 1) (by omega) (by omega), w64 (n := wait + 1) (by omega) (by omega)]

/-- The blocks of a run of Step. -/
structure Bs (B : Nat) (w : World) (a b c d : Nat) (g h : Int) (z1 z2 rv rc : Bool) (x y : Int) (u v : Bool) : Prop where
  ht : w.heap[a]? = some (.cells #[.int .i64 g, .int .i64 h] 23 (0, 0))
  hi : w.heap[b]? = some (.cells #[.bool z1, .bool z2, .bool rv, .bool rc] 29 (0, 0))
  ho : w.heap[c]? = some (.cells #[.int .i64 x, .int .i64 y] 23 (0, 0))
  hq : w.heap[d]? = some (.cells #[.bool u, .bool v] 25 (0, 0))
  ba : b ≠ a
  ca : c ≠ a
  da : d ≠ a
  cd : c ≠ d
  la : B ≤ a
  lc : B ≤ c
  ld : B ≤ d
section
variable {B : Nat} {w w1 : World} {a b c d : Nat} {g h : Int} {z1 z2 rv rc : Bool} {x y : Int} {u v : Bool}
theorem Bs.ht_0 (k : Bs B w a b c d g h z1 z2 rv rc x y u v) : w.cell? ⟨a, 0, none⟩ = some (.int .i64 g) := blk_cell k.ht 0
theorem Bs.ht_1 (k : Bs B w a b c d g h z1 z2 rv rc x y u v) : w.cell? ⟨a, 1, none⟩ = some (.int .i64 h) := blk_cell k.ht 1
theorem Bs.hi_0 (k : Bs B w a b c d g h z1 z2 rv rc x y u v) : w.cell? ⟨b, 0, none⟩ = some (.bool z1) := blk_cell k.hi 0
theorem Bs.hi_1 (k : Bs B w a b c d g h z1 z2 rv rc x y u v) : w.cell? ⟨b, 1, none⟩ = some (.bool z2) := blk_cell k.hi 1
theorem Bs.hi_2 (k : Bs B w a b c d g h z1 z2 rv rc x y u v) : w.cell? ⟨b, 2, none⟩ = some (.bool rv) := blk_cell k.hi 2
theorem Bs.hi_3 (k : Bs B w a b c d g h z1 z2 rv rc x y u v) : w.cell? ⟨b, 3, none⟩ = some (.bool rc) := blk_cell k.hi 3
theorem Bs.ho_0 (k : Bs B w a b c d g h z1 z2 rv rc x y u v) : w.cell? ⟨c, 0, none⟩ = some (.int .i64 x) := blk_cell k.ho 0
theorem Bs.ho_1 (k : Bs B w a b c d g h z1 z2 rv rc x y u v) : w.cell? ⟨c, 1, none⟩ = some (.int .i64 y) := blk_cell k.ho 1
theorem Bs.hq_0 (k : Bs B w a b c d g h z1 z2 rv rc x y u v) : w.cell? ⟨d, 0, none⟩ = some (.bool u) := blk_cell k.hq 0
theorem Bs.hq_1 (k : Bs B w a b c d g h z1 z2 rv rc x y u v) : w.cell? ⟨d, 1, none⟩ = some (.bool v) := blk_cell k.hq 1
theorem Bs.ho_f (k : Bs B w a b c d g h z1 z2 rv rc x y u v) (j : Nat) : w.frozen? ⟨c, j, none⟩ = false := blk_frozen k.ho j
theorem Bs.hq_f (k : Bs B w a b c d g h z1 z2 rv rc x y u v) (j : Nat) : w.frozen? ⟨d, j, none⟩ = false := blk_frozen k.hq j
theorem Bs.below (k : Bs B w a b c d g h z1 z2 rv rc x y u v) (hb : Below w.heap.size w w1) : Bs B w1 a b c d g h z1 z2 rv rc x y u v :=
  ⟨(hb.block _ (blk_lt k.ht)).trans k.ht, (hb.block _ (blk_lt k.hi)).trans k.hi, (hb.block _ (blk_lt k.ho)).trans k.ho, (hb.block _ (blk_lt k.hq)).trans k.hq, k.ba, k.ca, k.da, k.cd, k.la, k.lc, k.ld⟩
theorem Bs.keep {g' h' : Int} {w0 : World} (k : Bs B w a b c d g h z1 z2 rv rc x y u v) (hb : KeepBut w w1 a none) (hs : IsS23 w0 w1 a g' h') : Bs B w1 a b c d g' h' z1 z2 rv rc x y u v :=
  ⟨hs.1, hb.blk k.hi k.ba (by simp), hb.blk k.ho k.ca (by simp), hb.blk k.hq k.da (by simp), k.ba, k.ca, k.da, k.cd, k.la, k.lc, k.ld⟩
theorem Bs.made (w : World) (g h : Int) (z1 z2 rv rc : Bool) : Bs w.heap.size ((((w.alloc (.cells #[.int .i64 g, .int .i64 h] 23)).alloc (.cells #[.bool z1, .bool z2, .bool rv, .bool rc] 29)).alloc (.cells #[.int .i64 0, .int .i64 0] 23)).alloc (.cells #[.bool false, .bool false] 25)) w.heap.size (w.heap.size + 1) (w.heap.size + 1 + 1) (w.heap.size + 1 + 1 + 1) g h z1 z2 rv rc 0 0 false false :=
  ⟨blk_alloc (blk_alloc (blk_alloc (heap_alloc_new w _) _) _) _, blk_alloc (blk_alloc (by have := heap_alloc_new (w.alloc (.cells #[.int .i64 g, .int .i64 h] 23)) (.cells #[.bool z1, .bool z2, .bool rv, .bool rc] 29); rwa [World.size_alloc] at this) _) _,
   blk_alloc (by have := heap_alloc_new ((w.alloc (.cells #[.int .i64 g, .int .i64 h] 23)).alloc (.cells #[.bool z1, .bool z2, .bool rv, .bool rc] 29)) (.cells #[.int .i64 0, .int .i64 0] 23); rwa [World.size_alloc, World.size_alloc] at this) _,
   by have := heap_alloc_new (((w.alloc (.cells #[.int .i64 g, .int .i64 h] 23)).alloc (.cells #[.bool z1, .bool z2, .bool rv, .bool rc] 29)).alloc (.cells #[.int .i64 0, .int .i64 0] 23)) (.cells #[.bool false, .bool false] 25); rwa [World.size_alloc, World.size_alloc, World.size_alloc] at this, by omega, by omega, by omega, by omega, by omega, by omega, by omega⟩
end
theorem below_set {B : Nat} {a w : World} (h : Below B a w) (b : Nat) (hb : B ≤ b) (j : Nat) (u : Value) : Below B a (w.setCell ⟨b, j, none⟩ u) := h.setCell hb u

set_option maxHeartbeats 4000000 in
theorem step_calls (s wait guard g h : Int) (z1 z2 rv rc : Bool) (w : World) (hs : Sch w) :
    Calls Tryd.prog 9 #[.int .i64 s, .int .i64 wait, .int .i64 guard, tele g h, inp z1 z2 rv rc] w fun e w' =>
      e = .returned (.tuple #[tele (stepV s wait guard g h z1 z2 rv rc).1 (stepV s wait guard g h z1 z2 rv rc).2.1, outp (stepV s wait guard g h z1 z2 rv rc).2.2.1 (stepV s wait guard g h z1 z2 rv rc).2.2.2]) ∧ Below w.heap.size w w' := by
  have HS := Aside0.mk hs
  clear hs
  obtain ⟨ok, hok⟩ : ∃ b, validB s wait guard g h = b := ⟨_, rfl⟩
  have HOK := Aside0.mk hok
  clear hok
  obtain ⟨r1, hr1⟩ : ∃ r, (stepV s wait guard g h z1 z2 rv rc).1 = r := ⟨_, rfl⟩
  obtain ⟨r2, hr2⟩ : ∃ r, (stepV s wait guard g h z1 z2 rv rc).2.1 = r := ⟨_, rfl⟩
  obtain ⟨r3, hr3⟩ : ∃ r, (stepV s wait guard g h z1 z2 rv rc).2.2.1 = r := ⟨_, rfl⟩
  obtain ⟨r4, hr4⟩ : ∃ r, (stepV s wait guard g h z1 z2 rv rc).2.2.2 = r := ⟨_, rfl⟩
  rw [hr1, hr2, hr3, hr4]
  have HR : Aside0 (stepV s wait guard g h z1 z2 rv rc = (r1, r2, r3, r4)) := ⟨by rw [← hr1, ← hr2, ← hr3, ← hr4]⟩
  clear hr1 hr2 hr3 hr4
  have SB := Aside0.mk (Bs.made w g h z1 z2 rv rc)
  have HB := Aside0.mk (below_alloc (below_alloc (below_alloc (below_alloc (Below.refl w.heap.size w) (.cells #[.int .i64 g, .int .i64 h] 23)) (.cells #[.bool z1, .bool z2, .bool rv, .bool rc] 29)) (.cells #[.int .i64 0, .int .i64 0] 23)) (.cells #[.bool false, .bool false] 25))
  replace HS := Aside0.mk (HS.out.below HB.out)
  go_enter Tryd.func9, Tryd.ntmps9
  go_wp2_with fail
  with_reducible refine (valid_calls s wait guard g h _ HS.out).mono ?_
  rw [HOK.out]
  rintro e w1 ⟨rfl, HB'⟩
  replace SB := Aside0.mk (SB.out.below HB')
  replace HB := Aside0.mk (below_step HB.out HB')
  clear HB' HS
  generalize w.heap.size + 1 + 1 + 1 = d at SB ⊢
  generalize w.heap.size + 1 + 1 = c at SB ⊢
  generalize w.heap.size + 1 = b at SB ⊢
  obtain ⟨a, ha⟩ : ∃ a, a = w.heap.size := ⟨_, rfl⟩
  rw [← ha] at SB ⊢
  have HA := Aside0.mk ha
  clear ha
  have hne := SB.out.cd
  have hba := SB.out.ba
  have hca := SB.out.ca
  have hda := SB.out.da
  have hbc : b ≠ c := by rintro rfl; have h1 := SB.out.hi; rw [SB.out.ho] at h1; cases h1
  have zero : ok = false ∨ s = 0 → Aside0 (r1 = 0 ∧ r2 = 0 ∧ r3 = false ∧ r4 = false) := fun hz => ⟨by
    have h := HR.out
    unfold stepV at h
    rw [if_neg (by rw [HOK.out]; rintro ⟨h1, h2⟩; rcases hz with rfl | rfl; cases h1; exact h2 rfl)] at h
    simp only [Prod.mk.injEq] at h
    exact ⟨h.1.symm, h.2.1.symm, h.2.2.1.symm, h.2.2.2.symm⟩⟩
  have FIN : ∀ (W : World) (g' h' : Int), Aside0 (Bs a W a b c d g' h' z1 z2 rv rc 0 0 false false) → Aside0 (Below w.heap.size w W) → Aside0 (Below w.heap.size w ((((W.setCell ⟨c, 0, none⟩ (.int .i64 r1)).setCell ⟨c, 1, none⟩ (.int .i64 r2)).setCell ⟨d, 0, none⟩ (.bool r3)).setCell ⟨d, 1, none⟩ (.bool r4))) := fun W g' h' hb hB => ⟨by
    have l1 := hb.out.lc
    have l2 := hb.out.ld
    rw [HA.out] at l1 l2
    exact below_set (below_set (below_set (below_set hB.out _ l1 _ _) _ l1 _ _) _ l2 _ _) _ l2 _ _⟩
  have FIN2 : ∀ (W : World) (g' h' : Int), Aside0 (Bs a W a b c d g' h' z1 z2 rv rc 0 0 false false) → Aside0 (
      (((((W.setCell ⟨c, 0, none⟩ (.int .i64 r1)).setCell ⟨c, 1, none⟩ (.int .i64 r2)).setCell ⟨d, 0, none⟩ (.bool r3)).setCell ⟨d, 1, none⟩ (.bool r4)).heap[c]? = some (.cells #[.int .i64 r1, .int .i64 r2] 23 (0, 0))) ∧
      (((((W.setCell ⟨c, 0, none⟩ (.int .i64 r1)).setCell ⟨c, 1, none⟩ (.int .i64 r2)).setCell ⟨d, 0, none⟩ (.bool r3)).setCell ⟨d, 1, none⟩ (.bool r4)).heap[d]? = some (.cells #[.bool r3, .bool r4] 25 (0, 0)))) := fun W g' h' hb => ⟨by
    refine ⟨blk_far (blk_far (blk_set (blk_set hb.out.ho 0 _) 1 _) hb.out.cd _) hb.out.cd _, blk_set (blk_set (blk_far (blk_far hb.out.hq (Ne.symm hb.out.cd) _) (Ne.symm hb.out.cd) _) 0 _) 1 _⟩⟩
  by_cases hz : ok = false ∨ s = 0
  · have HZ := zero hz
    have HE := FIN _ _ _ SB HB
    have HE2 := FIN2 _ _ _ SB
    clear zero FIN FIN2
    obtain ⟨rfl, rfl, rfl, rfl⟩ := HZ.out
    have q0 := SB.out.ht_0
    have q1 := SB.out.ht_1
    have i0 := SB.out.hi_0
    have i1 := SB.out.hi_1
    have i2 := SB.out.hi_2
    have i3 := SB.out.hi_3
    have x0 := SB.out.ho_0
    have x1 := SB.out.ho_1
    have y0 := SB.out.hq_0
    have y1 := SB.out.hq_1
    have fx0 := SB.out.ho_f 0
    have fx1 := SB.out.ho_f 1
    have fy0 := SB.out.hq_f 0
    have fy1 := SB.out.hq_f 1
    cases ok with
    | false =>
      go_wp2_with fail
      refine bodyPost_ret (v := .tuple #[tele 0 0, outp false false]) ?_ rfl ⟨rfl, HE.out⟩
      have h1 : ((((World.setCell w1 ⟨c, 0, none⟩ (.int .i64 0)).setCell ⟨c, 1, none⟩ (.int .i64 0)).setCell ⟨d, 0, none⟩ (.bool false)).setCell ⟨d, 1, none⟩ (.bool false)).heap[c]? = some (.cells #[.int .i64 0, .int .i64 0] 23 (0, 0)) := HE2.out.1
      have h2 : ((((World.setCell w1 ⟨c, 0, none⟩ (.int .i64 0)).setCell ⟨c, 1, none⟩ (.int .i64 0)).setCell ⟨d, 0, none⟩ (.bool false)).setCell ⟨d, 1, none⟩ (.bool false)).heap[d]? = some (.cells #[.bool false, .bool false] 25 (0, 0)) := HE2.out.2
      clear HE HE2
      generalize (((World.setCell w1 ⟨c, 0, none⟩ (.int .i64 0)).setCell ⟨c, 1, none⟩ (.int .i64 0)).setCell ⟨d, 0, none⟩ (.bool false)).setCell ⟨d, 1, none⟩ (.bool false) = WZ at *
      have z0 : WZ.cell? ⟨c, 0, none⟩ = some (.int .i64 0) := blk_cell h1 0
      have z1' : WZ.cell? ⟨c, 1, none⟩ = some (.int .i64 0) := blk_cell h1 1
      have z2' : WZ.cell? ⟨d, 0, none⟩ = some (.bool false) := blk_cell h2 0
      have z3' : WZ.cell? ⟨d, 1, none⟩ = some (.bool false) := blk_cell h2 1
      simp [results, Tryd.results9, go_sem, z0, z1', z2', z3']
    | true =>
      obtain rfl : s = 0 := hz.resolve_left (by simp)
      go_wp2_with fail
      refine bodyPost_ret (v := .tuple #[tele 0 0, outp false false]) ?_ rfl ⟨rfl, HE.out⟩
      have h1 : ((((World.setCell w1 ⟨c, 0, none⟩ (.int .i64 0)).setCell ⟨c, 1, none⟩ (.int .i64 0)).setCell ⟨d, 0, none⟩ (.bool false)).setCell ⟨d, 1, none⟩ (.bool false)).heap[c]? = some (.cells #[.int .i64 0, .int .i64 0] 23 (0, 0)) := HE2.out.1
      have h2 : ((((World.setCell w1 ⟨c, 0, none⟩ (.int .i64 0)).setCell ⟨c, 1, none⟩ (.int .i64 0)).setCell ⟨d, 0, none⟩ (.bool false)).setCell ⟨d, 1, none⟩ (.bool false)).heap[d]? = some (.cells #[.bool false, .bool false] 25 (0, 0)) := HE2.out.2
      clear HE HE2
      generalize (((World.setCell w1 ⟨c, 0, none⟩ (.int .i64 0)).setCell ⟨c, 1, none⟩ (.int .i64 0)).setCell ⟨d, 0, none⟩ (.bool false)).setCell ⟨d, 1, none⟩ (.bool false) = WZ at *
      have z0 : WZ.cell? ⟨c, 0, none⟩ = some (.int .i64 0) := blk_cell h1 0
      have z1' : WZ.cell? ⟨c, 1, none⟩ = some (.int .i64 0) := blk_cell h1 1
      have z2' : WZ.cell? ⟨d, 0, none⟩ = some (.bool false) := blk_cell h2 0
      have z3' : WZ.cell? ⟨d, 1, none⟩ = some (.bool false) := blk_cell h2 1
      simp [results, Tryd.results9, go_sem, z0, z1', z2', z3']
  · obtain rfl : ok = true := by
      cases ok
      · exact absurd (.inl rfl) hz
      · rfl
    have hs0 : s ≠ 0 := fun h => hz (.inr h)
    clear hz zero
    obtain ⟨hs, hw0, hw1, hd0, hd1, hg0, hg1, hh0, hh1⟩ := valid_bd HOK.out
    have hst : stepV s wait guard g h z1 z2 rv rc = if s = 1 then (gN rv guard g, h, z1, z2 && rc)
     else if s = 2 then (gN rv guard g, h, z2 && !decide (0 < gN rv guard g), z2 && rc && !decide (0 < gN rv guard g))
     else (gN rv guard g, hN z2 rc (decide (0 < gN rv guard g)) wait h, decide (0 < gN rv guard g), decide (wait < hN z2 rc (decide (0 < gN rv guard g)) wait h)) := by
      unfold stepV
      rw [if_pos ⟨HOK.out, hs0⟩]
    rw [HR.out] at hst
    have hgf := guarded_f g h guard rv ⟨hg0, hg1⟩ ⟨hd0, hd1⟩
    have hI : IsS23 w w1 a g h := ⟨SB.out.ht, by rw [HA.out]; exact Nat.le_refl _⟩
    have HGC := Aside0.mk (teleprotection_guarded.calls a g h guard rv _ _ _ w w1 hI HB.out hgf)
    clear hgf hI
    generalize gN rv guard g = g' at *
    obtain ⟨k, hk⟩ : ∃ k, decide (0 < g') = k := ⟨_, rfl⟩
    rw [hk] at HGC hst
    have HK := Aside0.mk hk
    have HST := Aside0.mk hst.symm
    clear hk hst
    have q0 := SB.out.ht_0
    have q1 := SB.out.ht_1
    have i0 := SB.out.hi_0
    have i1 := SB.out.hi_1
    have i2 := SB.out.hi_2
    have i3 := SB.out.hi_3
    have x0 := SB.out.ho_0
    have x1 := SB.out.ho_1
    have y0 := SB.out.hq_0
    have y1 := SB.out.hq_1
    have fx0 := SB.out.ho_f 0
    have fx1 := SB.out.ho_f 1
    have fy0 := SB.out.hq_f 0
    have fy1 := SB.out.hq_f 1
    have hs' : s = 1 ∨ s = 2 ∨ s = 3 := by omega
    clear hs hs0
    rcases hs' with rfl | rfl | rfl
    · go_wp2_with fail
      with_reducible refine HGC.out.mono ?_
      rintro e w2 ⟨rfl, hI', hB', hK'⟩
      replace SB := Aside0.mk (SB.out.keep hK' hI')
      replace HB := Aside0.mk hB'
      clear hI' hB' hK' HGC q0 q1 i0 i1 i2 i3 x0 x1 y0 y1 fx0 fx1 fy0 fy1
      have h' := HST.out
      simp only [Int.reduceEq, if_true, if_false, reduceIte, Prod.mk.injEq] at h'
      obtain ⟨rfl, rfl, rfl, rfl⟩ := h'
      clear HST
      have q0 := SB.out.ht_0
      have q1 := SB.out.ht_1
      have i0 := SB.out.hi_0
      have i1 := SB.out.hi_1
      have i2 := SB.out.hi_2
      have i3 := SB.out.hi_3
      have x0 := SB.out.ho_0
      have x1 := SB.out.ho_1
      have y0 := SB.out.hq_0
      have y1 := SB.out.hq_1
      have fx0 := SB.out.ho_f 0
      have fx1 := SB.out.ho_f 1
      have fy0 := SB.out.hq_f 0
      have fy1 := SB.out.hq_f 1
      cases z2 with
      | false =>
        go_wp2_with fail
        go_region
        all_goals skip
        go_wp2_with fail
        have HE := Aside0.mk (below_drew (FIN _ _ _ SB HB).out)
        have HE2 := FIN2 _ _ _ SB
        clear FIN FIN2
        refine bodyPost_ret (v := .tuple #[tele g' h, outp z1 false]) ?_ rfl ⟨rfl, HE.out⟩
        have h1 : ((((World.setCell w2 ⟨c, 0, none⟩ (.int .i64 g')).setCell ⟨c, 1, none⟩ (.int .i64 h)).setCell ⟨d, 0, none⟩ (.bool z1)).setCell ⟨d, 1, none⟩ (.bool false)).heap[c]? = some (.cells #[.int .i64 g', .int .i64 h] 23 (0, 0)) := HE2.out.1
        have h2 : ((((World.setCell w2 ⟨c, 0, none⟩ (.int .i64 g')).setCell ⟨c, 1, none⟩ (.int .i64 h)).setCell ⟨d, 0, none⟩ (.bool z1)).setCell ⟨d, 1, none⟩ (.bool false)).heap[d]? = some (.cells #[.bool z1, .bool false] 25 (0, 0)) := HE2.out.2
        clear HE HE2
        generalize (((World.setCell w2 ⟨c, 0, none⟩ (.int .i64 g')).setCell ⟨c, 1, none⟩ (.int .i64 h)).setCell ⟨d, 0, none⟩ (.bool z1)).setCell ⟨d, 1, none⟩ (.bool false) = WZ at *
        have z0 : WZ.cell? ⟨c, 0, none⟩ = some (.int .i64 g') := blk_cell h1 0
        have z1' : WZ.cell? ⟨c, 1, none⟩ = some (.int .i64 h) := blk_cell h1 1
        have z2' : WZ.cell? ⟨d, 0, none⟩ = some (.bool z1) := blk_cell h2 0
        have z3' : WZ.cell? ⟨d, 1, none⟩ = some (.bool false) := blk_cell h2 1
        simp [results, Tryd.results9, go_sem, z0, z1', z2', z3']
      | true =>
        go_wp2_with fail
        go_region
        all_goals skip
        go_wp2_with fail
        have HE := Aside0.mk (below_drew (FIN _ _ _ SB HB).out)
        have HE2 := FIN2 _ _ _ SB
        clear FIN FIN2
        refine bodyPost_ret (v := .tuple #[tele g' h, outp z1 rc]) ?_ rfl ⟨rfl, HE.out⟩
        have h1 : ((((World.setCell w2 ⟨c, 0, none⟩ (.int .i64 g')).setCell ⟨c, 1, none⟩ (.int .i64 h)).setCell ⟨d, 0, none⟩ (.bool z1)).setCell ⟨d, 1, none⟩ (.bool rc)).heap[c]? = some (.cells #[.int .i64 g', .int .i64 h] 23 (0, 0)) := HE2.out.1
        have h2 : ((((World.setCell w2 ⟨c, 0, none⟩ (.int .i64 g')).setCell ⟨c, 1, none⟩ (.int .i64 h)).setCell ⟨d, 0, none⟩ (.bool z1)).setCell ⟨d, 1, none⟩ (.bool rc)).heap[d]? = some (.cells #[.bool z1, .bool rc] 25 (0, 0)) := HE2.out.2
        clear HE HE2
        generalize (((World.setCell w2 ⟨c, 0, none⟩ (.int .i64 g')).setCell ⟨c, 1, none⟩ (.int .i64 h)).setCell ⟨d, 0, none⟩ (.bool z1)).setCell ⟨d, 1, none⟩ (.bool rc) = WZ at *
        have z0 : WZ.cell? ⟨c, 0, none⟩ = some (.int .i64 g') := blk_cell h1 0
        have z1' : WZ.cell? ⟨c, 1, none⟩ = some (.int .i64 h) := blk_cell h1 1
        have z2' : WZ.cell? ⟨d, 0, none⟩ = some (.bool z1) := blk_cell h2 0
        have z3' : WZ.cell? ⟨d, 1, none⟩ = some (.bool rc) := blk_cell h2 1
        simp [results, Tryd.results9, go_sem, z0, z1', z2', z3']
    · go_wp2_with fail
      with_reducible refine HGC.out.mono ?_
      rintro e w2 ⟨rfl, hI', hB', hK'⟩
      replace SB := Aside0.mk (SB.out.keep hK' hI')
      replace HB := Aside0.mk hB'
      clear hI' hB' hK' HGC q0 q1 i0 i1 i2 i3 x0 x1 y0 y1 fx0 fx1 fy0 fy1
      have h' := HST.out
      simp only [Int.reduceEq, if_true, if_false, reduceIte, Prod.mk.injEq] at h'
      obtain ⟨rfl, rfl, rfl, rfl⟩ := h'
      clear HST
      have HE := FIN _ _ _ SB HB
      have HE2 := FIN2 _ _ _ SB
      clear FIN FIN2
      have q0 := SB.out.ht_0
      have q1 := SB.out.ht_1
      have i0 := SB.out.hi_0
      have i1 := SB.out.hi_1
      have i2 := SB.out.hi_2
      have i3 := SB.out.hi_3
      have x0 := SB.out.ho_0
      have x1 := SB.out.ho_1
      have y0 := SB.out.hq_0
      have y1 := SB.out.hq_1
      have fx0 := SB.out.ho_f 0
      have fx1 := SB.out.ho_f 1
      have fy0 := SB.out.hq_f 0
      have fy1 := SB.out.hq_f 1
      cases z2 with
      | false =>
        go_wp2_with fail
        refine bodyPost_ret (v := .tuple #[tele g' h, outp false false]) ?_ rfl ⟨rfl, HE.out⟩
        have h1 : ((((World.setCell w2 ⟨c, 0, none⟩ (.int .i64 g')).setCell ⟨c, 1, none⟩ (.int .i64 h)).setCell ⟨d, 0, none⟩ (.bool false)).setCell ⟨d, 1, none⟩ (.bool false)).heap[c]? = some (.cells #[.int .i64 g', .int .i64 h] 23 (0, 0)) := HE2.out.1
        have h2 : ((((World.setCell w2 ⟨c, 0, none⟩ (.int .i64 g')).setCell ⟨c, 1, none⟩ (.int .i64 h)).setCell ⟨d, 0, none⟩ (.bool false)).setCell ⟨d, 1, none⟩ (.bool false)).heap[d]? = some (.cells #[.bool false, .bool false] 25 (0, 0)) := HE2.out.2
        clear HE HE2
        generalize (((World.setCell w2 ⟨c, 0, none⟩ (.int .i64 g')).setCell ⟨c, 1, none⟩ (.int .i64 h)).setCell ⟨d, 0, none⟩ (.bool false)).setCell ⟨d, 1, none⟩ (.bool false) = WZ at *
        have z0 : WZ.cell? ⟨c, 0, none⟩ = some (.int .i64 g') := blk_cell h1 0
        have z1' : WZ.cell? ⟨c, 1, none⟩ = some (.int .i64 h) := blk_cell h1 1
        have z2' : WZ.cell? ⟨d, 0, none⟩ = some (.bool false) := blk_cell h2 0
        have z3' : WZ.cell? ⟨d, 1, none⟩ = some (.bool false) := blk_cell h2 1
        simp [results, Tryd.results9, go_sem, z0, z1', z2', z3']
      | true =>
        cases rc with
        | false =>
          cases k with
          | false =>
            go_wp2_with fail
            refine bodyPost_ret (v := .tuple #[tele g' h, outp true false]) ?_ rfl ⟨rfl, HE.out⟩
            have h1 : ((((World.setCell w2 ⟨c, 0, none⟩ (.int .i64 g')).setCell ⟨c, 1, none⟩ (.int .i64 h)).setCell ⟨d, 0, none⟩ (.bool true)).setCell ⟨d, 1, none⟩ (.bool false)).heap[c]? = some (.cells #[.int .i64 g', .int .i64 h] 23 (0, 0)) := HE2.out.1
            have h2 : ((((World.setCell w2 ⟨c, 0, none⟩ (.int .i64 g')).setCell ⟨c, 1, none⟩ (.int .i64 h)).setCell ⟨d, 0, none⟩ (.bool true)).setCell ⟨d, 1, none⟩ (.bool false)).heap[d]? = some (.cells #[.bool true, .bool false] 25 (0, 0)) := HE2.out.2
            clear HE HE2
            generalize (((World.setCell w2 ⟨c, 0, none⟩ (.int .i64 g')).setCell ⟨c, 1, none⟩ (.int .i64 h)).setCell ⟨d, 0, none⟩ (.bool true)).setCell ⟨d, 1, none⟩ (.bool false) = WZ at *
            have z0 : WZ.cell? ⟨c, 0, none⟩ = some (.int .i64 g') := blk_cell h1 0
            have z1' : WZ.cell? ⟨c, 1, none⟩ = some (.int .i64 h) := blk_cell h1 1
            have z2' : WZ.cell? ⟨d, 0, none⟩ = some (.bool true) := blk_cell h2 0
            have z3' : WZ.cell? ⟨d, 1, none⟩ = some (.bool false) := blk_cell h2 1
            simp [results, Tryd.results9, go_sem, z0, z1', z2', z3']
          | true =>
            go_wp2_with fail
            refine bodyPost_ret (v := .tuple #[tele g' h, outp false false]) ?_ rfl ⟨rfl, HE.out⟩
            have h1 : ((((World.setCell w2 ⟨c, 0, none⟩ (.int .i64 g')).setCell ⟨c, 1, none⟩ (.int .i64 h)).setCell ⟨d, 0, none⟩ (.bool false)).setCell ⟨d, 1, none⟩ (.bool false)).heap[c]? = some (.cells #[.int .i64 g', .int .i64 h] 23 (0, 0)) := HE2.out.1
            have h2 : ((((World.setCell w2 ⟨c, 0, none⟩ (.int .i64 g')).setCell ⟨c, 1, none⟩ (.int .i64 h)).setCell ⟨d, 0, none⟩ (.bool false)).setCell ⟨d, 1, none⟩ (.bool false)).heap[d]? = some (.cells #[.bool false, .bool false] 25 (0, 0)) := HE2.out.2
            clear HE HE2
            generalize (((World.setCell w2 ⟨c, 0, none⟩ (.int .i64 g')).setCell ⟨c, 1, none⟩ (.int .i64 h)).setCell ⟨d, 0, none⟩ (.bool false)).setCell ⟨d, 1, none⟩ (.bool false) = WZ at *
            have z0 : WZ.cell? ⟨c, 0, none⟩ = some (.int .i64 g') := blk_cell h1 0
            have z1' : WZ.cell? ⟨c, 1, none⟩ = some (.int .i64 h) := blk_cell h1 1
            have z2' : WZ.cell? ⟨d, 0, none⟩ = some (.bool false) := blk_cell h2 0
            have z3' : WZ.cell? ⟨d, 1, none⟩ = some (.bool false) := blk_cell h2 1
            simp [results, Tryd.results9, go_sem, z0, z1', z2', z3']
        | true =>
          cases k with
          | false =>
            go_wp2_with fail
            refine bodyPost_ret (v := .tuple #[tele g' h, outp true true]) ?_ rfl ⟨rfl, HE.out⟩
            have h1 : ((((World.setCell w2 ⟨c, 0, none⟩ (.int .i64 g')).setCell ⟨c, 1, none⟩ (.int .i64 h)).setCell ⟨d, 0, none⟩ (.bool true)).setCell ⟨d, 1, none⟩ (.bool true)).heap[c]? = some (.cells #[.int .i64 g', .int .i64 h] 23 (0, 0)) := HE2.out.1
            have h2 : ((((World.setCell w2 ⟨c, 0, none⟩ (.int .i64 g')).setCell ⟨c, 1, none⟩ (.int .i64 h)).setCell ⟨d, 0, none⟩ (.bool true)).setCell ⟨d, 1, none⟩ (.bool true)).heap[d]? = some (.cells #[.bool true, .bool true] 25 (0, 0)) := HE2.out.2
            clear HE HE2
            generalize (((World.setCell w2 ⟨c, 0, none⟩ (.int .i64 g')).setCell ⟨c, 1, none⟩ (.int .i64 h)).setCell ⟨d, 0, none⟩ (.bool true)).setCell ⟨d, 1, none⟩ (.bool true) = WZ at *
            have z0 : WZ.cell? ⟨c, 0, none⟩ = some (.int .i64 g') := blk_cell h1 0
            have z1' : WZ.cell? ⟨c, 1, none⟩ = some (.int .i64 h) := blk_cell h1 1
            have z2' : WZ.cell? ⟨d, 0, none⟩ = some (.bool true) := blk_cell h2 0
            have z3' : WZ.cell? ⟨d, 1, none⟩ = some (.bool true) := blk_cell h2 1
            simp [results, Tryd.results9, go_sem, z0, z1', z2', z3']
          | true =>
            go_wp2_with fail
            refine bodyPost_ret (v := .tuple #[tele g' h, outp false false]) ?_ rfl ⟨rfl, HE.out⟩
            have h1 : ((((World.setCell w2 ⟨c, 0, none⟩ (.int .i64 g')).setCell ⟨c, 1, none⟩ (.int .i64 h)).setCell ⟨d, 0, none⟩ (.bool false)).setCell ⟨d, 1, none⟩ (.bool false)).heap[c]? = some (.cells #[.int .i64 g', .int .i64 h] 23 (0, 0)) := HE2.out.1
            have h2 : ((((World.setCell w2 ⟨c, 0, none⟩ (.int .i64 g')).setCell ⟨c, 1, none⟩ (.int .i64 h)).setCell ⟨d, 0, none⟩ (.bool false)).setCell ⟨d, 1, none⟩ (.bool false)).heap[d]? = some (.cells #[.bool false, .bool false] 25 (0, 0)) := HE2.out.2
            clear HE HE2
            generalize (((World.setCell w2 ⟨c, 0, none⟩ (.int .i64 g')).setCell ⟨c, 1, none⟩ (.int .i64 h)).setCell ⟨d, 0, none⟩ (.bool false)).setCell ⟨d, 1, none⟩ (.bool false) = WZ at *
            have z0 : WZ.cell? ⟨c, 0, none⟩ = some (.int .i64 g') := blk_cell h1 0
            have z1' : WZ.cell? ⟨c, 1, none⟩ = some (.int .i64 h) := blk_cell h1 1
            have z2' : WZ.cell? ⟨d, 0, none⟩ = some (.bool false) := blk_cell h2 0
            have z3' : WZ.cell? ⟨d, 1, none⟩ = some (.bool false) := blk_cell h2 1
            simp [results, Tryd.results9, go_sem, z0, z1', z2', z3']
    · go_wp2_with fail
      with_reducible refine HGC.out.mono ?_
      rintro e w2 ⟨rfl, hI', hB', hK'⟩
      replace SB := Aside0.mk (SB.out.keep hK' hI')
      replace HB := Aside0.mk hB'
      clear hI' hB' hK' HGC q0 q1 i0 i1 i2 i3 x0 x1 y0 y1 fx0 fx1 fy0 fy1
      have h' := HST.out
      simp only [Int.reduceEq, if_true, if_false, reduceIte, Prod.mk.injEq] at h'
      obtain ⟨rfl, rfl, rfl, rfl⟩ := h'
      clear HST
      have hbf := block_f g' h wait z1 z2 rv rc k ⟨hh0, hh1⟩ ⟨hw0, hw1⟩
      have hI : IsS23 w w2 a g' h := ⟨SB.out.ht, by rw [HA.out]; exact Nat.le_refl _⟩
      have HBC := Aside0.mk (teleprotection_block.calls a g' h wait z1 z2 rv rc k _ _ _ w w2 hI HB.out hbf)
      clear hbf hI
      have q0 := SB.out.ht_0
      have q1 := SB.out.ht_1
      have i0 := SB.out.hi_0
      have i1 := SB.out.hi_1
      have i2 := SB.out.hi_2
      have i3 := SB.out.hi_3
      have x0 := SB.out.ho_0
      have x1 := SB.out.ho_1
      have y0 := SB.out.hq_0
      have y1 := SB.out.hq_1
      have fx0 := SB.out.ho_f 0
      have fx1 := SB.out.ho_f 1
      have fy0 := SB.out.hq_f 0
      have fy1 := SB.out.hq_f 1
      cases z2 with
      | false =>
        go_wp2_with fail
        with_reducible refine HBC.out.mono ?_
        rintro e w3 ⟨rfl, hI', hB', hK'⟩
        replace SB := Aside0.mk (SB.out.keep hK' hI')
        replace HB := Aside0.mk hB'
        clear hI' hB' hK' HBC q0 q1 i0 i1 i2 i3 x0 x1 y0 y1 fx0 fx1 fy0 fy1
        have HE := FIN _ _ _ SB HB
        have HE2 := FIN2 _ _ _ SB
        clear FIN FIN2
        have q0 := SB.out.ht_0
        have q1 := SB.out.ht_1
        have i0 := SB.out.hi_0
        have i1 := SB.out.hi_1
        have i2 := SB.out.hi_2
        have i3 := SB.out.hi_3
        have x0 := SB.out.ho_0
        have x1 := SB.out.ho_1
        have y0 := SB.out.hq_0
        have y1 := SB.out.hq_1
        have fx0 := SB.out.ho_f 0
        have fx1 := SB.out.ho_f 1
        have fy0 := SB.out.hq_f 0
        have fy1 := SB.out.hq_f 1
        go_wp2_with fail
        refine bodyPost_ret (v := .tuple #[tele g' (hN false rc k wait h), outp k (decide (wait < hN false rc k wait h))]) ?_ rfl ⟨rfl, HE.out⟩
        have h1 : ((((World.setCell w3 ⟨c, 0, none⟩ (.int .i64 g')).setCell ⟨c, 1, none⟩ (.int .i64 (hN false rc k wait h))).setCell ⟨d, 0, none⟩ (.bool k)).setCell ⟨d, 1, none⟩ (.bool (decide (wait < hN false rc k wait h)))).heap[c]? = some (.cells #[.int .i64 g', .int .i64 (hN false rc k wait h)] 23 (0, 0)) := HE2.out.1
        have h2 : ((((World.setCell w3 ⟨c, 0, none⟩ (.int .i64 g')).setCell ⟨c, 1, none⟩ (.int .i64 (hN false rc k wait h))).setCell ⟨d, 0, none⟩ (.bool k)).setCell ⟨d, 1, none⟩ (.bool (decide (wait < hN false rc k wait h)))).heap[d]? = some (.cells #[.bool k, .bool (decide (wait < hN false rc k wait h))] 25 (0, 0)) := HE2.out.2
        clear HE HE2
        generalize (((World.setCell w3 ⟨c, 0, none⟩ (.int .i64 g')).setCell ⟨c, 1, none⟩ (.int .i64 (hN false rc k wait h))).setCell ⟨d, 0, none⟩ (.bool k)).setCell ⟨d, 1, none⟩ (.bool (decide (wait < hN false rc k wait h))) = WZ at *
        have z0 : WZ.cell? ⟨c, 0, none⟩ = some (.int .i64 g') := blk_cell h1 0
        have z1' : WZ.cell? ⟨c, 1, none⟩ = some (.int .i64 (hN false rc k wait h)) := blk_cell h1 1
        have z2' : WZ.cell? ⟨d, 0, none⟩ = some (.bool k) := blk_cell h2 0
        have z3' : WZ.cell? ⟨d, 1, none⟩ = some (.bool (decide (wait < hN false rc k wait h))) := blk_cell h2 1
        simp [results, Tryd.results9, go_sem, z0, z1', z2', z3']
      | true =>
        go_wp2_with fail
        with_reducible refine HBC.out.mono ?_
        rintro e w3 ⟨rfl, hI', hB', hK'⟩
        replace SB := Aside0.mk (SB.out.keep hK' hI')
        replace HB := Aside0.mk hB'
        clear hI' hB' hK' HBC q0 q1 i0 i1 i2 i3 x0 x1 y0 y1 fx0 fx1 fy0 fy1
        have HE := FIN _ _ _ SB HB
        have HE2 := FIN2 _ _ _ SB
        clear FIN FIN2
        have q0 := SB.out.ht_0
        have q1 := SB.out.ht_1
        have i0 := SB.out.hi_0
        have i1 := SB.out.hi_1
        have i2 := SB.out.hi_2
        have i3 := SB.out.hi_3
        have x0 := SB.out.ho_0
        have x1 := SB.out.ho_1
        have y0 := SB.out.hq_0
        have y1 := SB.out.hq_1
        have fx0 := SB.out.ho_f 0
        have fx1 := SB.out.ho_f 1
        have fy0 := SB.out.hq_f 0
        have fy1 := SB.out.hq_f 1
        go_wp2_with fail
        refine bodyPost_ret (v := .tuple #[tele g' (hN true rc k wait h), outp k (decide (wait < hN true rc k wait h))]) ?_ rfl ⟨rfl, HE.out⟩
        have h1 : ((((World.setCell w3 ⟨c, 0, none⟩ (.int .i64 g')).setCell ⟨c, 1, none⟩ (.int .i64 (hN true rc k wait h))).setCell ⟨d, 0, none⟩ (.bool k)).setCell ⟨d, 1, none⟩ (.bool (decide (wait < hN true rc k wait h)))).heap[c]? = some (.cells #[.int .i64 g', .int .i64 (hN true rc k wait h)] 23 (0, 0)) := HE2.out.1
        have h2 : ((((World.setCell w3 ⟨c, 0, none⟩ (.int .i64 g')).setCell ⟨c, 1, none⟩ (.int .i64 (hN true rc k wait h))).setCell ⟨d, 0, none⟩ (.bool k)).setCell ⟨d, 1, none⟩ (.bool (decide (wait < hN true rc k wait h)))).heap[d]? = some (.cells #[.bool k, .bool (decide (wait < hN true rc k wait h))] 25 (0, 0)) := HE2.out.2
        clear HE HE2
        generalize (((World.setCell w3 ⟨c, 0, none⟩ (.int .i64 g')).setCell ⟨c, 1, none⟩ (.int .i64 (hN true rc k wait h))).setCell ⟨d, 0, none⟩ (.bool k)).setCell ⟨d, 1, none⟩ (.bool (decide (wait < hN true rc k wait h))) = WZ at *
        have z0 : WZ.cell? ⟨c, 0, none⟩ = some (.int .i64 g') := blk_cell h1 0
        have z1' : WZ.cell? ⟨c, 1, none⟩ = some (.int .i64 (hN true rc k wait h)) := blk_cell h1 1
        have z2' : WZ.cell? ⟨d, 0, none⟩ = some (.bool k) := blk_cell h2 0
        have z3' : WZ.cell? ⟨d, 1, none⟩ = some (.bool (decide (wait < hN true rc k wait h))) := blk_cell h2 1
        simp [results, Tryd.results9, go_sem, z0, z1', z2', z3']
end Go.Proofs.YthnbokmnplipkaaDoor.A
