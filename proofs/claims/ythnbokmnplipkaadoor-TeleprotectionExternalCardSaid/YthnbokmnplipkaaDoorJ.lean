import Derived.Test.YthnbokmnplipkaaDoorH
import Derived.Test.YthnbokmnplipkaaDoorGF
/- The walk of pair. The condition Sch is the contract's own. -/
namespace Go.Proofs.YthnbokmnplipkaaDoor.A
open Go.RowKit Go.Proofs.YthnbokmnplipkaaDoorW.PrintWords Go.Proofs.YthnbokmnplipkaaDoorW.PrintLast Go.Proofs.YthnbokmnplipkaaDoorW.PrintMore
open Go.Proofs.YthnbokmnplipkaaDoor.PTeleprotectionSteps
open Go.Proofs.YthnbokmnplipkaaDoor
attribute [local go_sem] max2_int min2_int max_two min_two max_three min_three max_four min_four
set_option linter.unusedVariables false
set_option linter.unusedSimpArgs false

/-- A block of cells, hidden. -/
structure Bk (w : World) (b : Nat) (cs : Array Value) (T : TypeId) : Prop where
  blk : w.heap[b]? = some (.cells cs T (0, 0))
section
variable {w w1 : World} {b : Nat} {cs cs' : Array Value} {T : TypeId}
theorem Bk.c (h : Bk w b cs T) (j : Nat) {v : Value} (hv : cs[j]? = some v) : w.cell? ⟨b, j, none⟩ = some v := (blk_cell h.blk j).trans hv
theorem Bk.fr (h : Bk w b cs T) (j : Nat) : w.frozen? ⟨b, j, none⟩ = false := blk_frozen h.blk j
theorem Bk.lt (h : Bk w b cs T) : b < w.heap.size := blk_lt h.blk
theorem Bk.below (h : Bk w b cs T) (hb : Below w.heap.size w w1) : Bk w1 b cs T := ⟨(hb.block b h.lt).trans h.blk⟩
theorem Bk.alloc (h : Bk w b cs T) (o : Obj) : Bk (w.alloc o) b cs T := ⟨blk_alloc h.blk o⟩
theorem Bk.new (w : World) (cs : Array Value) (T : TypeId) : Bk (w.alloc (.cells cs T)) w.heap.size cs T := ⟨heap_alloc_new w _⟩
theorem Bk.far (h : Bk w b cs T) {g : Nat} (hn : b ≠ g) (j : Nat) (u : Value) : Bk (w.setCell ⟨g, j, none⟩ u) b cs T := ⟨blk_far h.blk hn u⟩
theorem Bk.put (h : Bk w b cs T) (j : Nat) (u : Value) (e : cs.setIfInBounds j u = cs') : Bk (w.setCell ⟨b, j, none⟩ u) b cs' T := ⟨blk_put h.blk j u e⟩
end
/-- What a relay sees in a step: zone 1, zone 2, reverse. -/
abbrev Sees := Bool × Bool × Bool
/-- A slice of n inputs. -/
structure RowB (w : World) (la : Option Addr) (n : Nat) (F : Nat → Sees) : Prop where
  at_ : ∀ i, i < n → ∃ x r, la = some x ∧ w.cell? (x.add (i * 4)) = some (.bool (F i).1) ∧ w.cell? ⟨(x.add (i * 4)).block, (x.add (i * 4)).off + 1, none⟩ = some (.bool (F i).2.1) ∧ w.cell? ⟨(x.add (i * 4)).block, (x.add (i * 4)).off + 2, none⟩ = some (.bool (F i).2.2) ∧ w.cell? ⟨(x.add (i * 4)).block, (x.add (i * 4)).off + 3, none⟩ = some (.bool r)
/-- The two relays: states, first trips, what they sent. -/
structure St where
  g0 : Int
  h0 : Int
  g1 : Int
  h1 : Int
  f0 : Int
  f1 : Int
  s0 : Bool
  s1 : Bool
def firstI (p : Bool) (f i : Int) : Int := if p = true ∧ f < 0 then i else f
def nextSt (s wait guard : Int) (a b : Sees) (i : Int) (x : St) : St :=
  let p := stepV s wait guard x.g0 x.h0 a.1 a.2.1 a.2.2 x.s1
  let q := stepV s wait guard x.g1 x.h1 b.1 b.2.1 b.2.2 x.s0
  ⟨p.1, p.2.1, q.1, q.2.1, firstI p.2.2.2 x.f0 i, firstI q.2.2.2 x.f1 i, p.2.2.1, q.2.2.1⟩
def stN (s wait guard : Int) (A B : Nat → Sees) : Nat → St
  | 0 => ⟨0, 0, 0, 0, -1, -1, false, false⟩
  | i + 1 => nextSt s wait guard (A i) (B i) i (stN s wait guard A B i)
/-- The inner loop. -/
def Mid (k : Nat) (g0 h0 g1 h1 f0 f1 g0' h0' g1' h1' f0' f1' : Int) (n0 n1 : Bool) (G0 H0 G1 H1 F0 F1 : Int) (N0 N1 : Bool) : Prop :=
  (k = 0 ∧ g0 = G0 ∧ h0 = H0 ∧ g1 = G1 ∧ h1 = H1 ∧ f0 = F0 ∧ f1 = F1 ∧ N0 = false ∧ N1 = false) ∨
  (k = 1 ∧ g0' = G0 ∧ h0' = H0 ∧ g1 = G1 ∧ h1 = H1 ∧ f0' = F0 ∧ f1 = F1 ∧ n0 = N0 ∧ N1 = false) ∨
  (k = 2 ∧ g0' = G0 ∧ h0' = H0 ∧ g1' = G1 ∧ h1' = H1 ∧ f0' = F0 ∧ f1' = F1 ∧ n0 = N0 ∧ n1 = N1)
theorem below_set0 {B : Nat} {a w : World} (h : Below B a w) {b : Nat} (hb : B ≤ b) (j : Nat) (u : Value) : Below B a (w.setCell ⟨b, j, none⟩ u) := h.setCell hb u

set_option maxRecDepth 100000 in
set_option maxHeartbeats 6000000 in
theorem pair_calls (s wait guard : Int) (la lb : Option Addr) (n ca cb : Nat) (Fa Fb : Nat → Sees) (w : World) (hs : Sch w) (hn : n ≤ 1000) (ha : RowB w la n Fa) (hb : RowB w lb n Fb) :
    Calls Tryd.prog 14 #[.int .i64 s, .int .i64 wait, .int .i64 guard, .slice la n ca, .slice lb n cb] w fun e w' =>
      e = .returned (.agg #[.int .i64 (stN s wait guard Fa Fb n).f0, .int .i64 (stN s wait guard Fa Fb n).f1]) ∧ Below w.heap.size w w' := by
  have HSW := Aside0.mk hs
  have HA := Aside0.mk ha
  have HBB := Aside0.mk hb
  clear hs ha hb
  have HX : Aside0 (stN s wait guard Fa Fb 0 = ⟨0, 0, 0, 0, -1, -1, false, false⟩) := ⟨rfl⟩
  have BR := Aside0.mk ((((Bk.new w #[.int .i64 0, .int .i64 0] 38).alloc (.cells #[.int .i64 (-1), .int .i64 (-1)] 38)).alloc (.cells #[.int .i64 0, .int .i64 0, .int .i64 0, .int .i64 0] 49)).alloc (.cells #[.bool false, .bool false] 50))
  have BF := Aside0.mk (((Bk.new (w.alloc (.cells #[.int .i64 0, .int .i64 0] 38)) #[.int .i64 (-1), .int .i64 (-1)] 38).alloc (.cells #[.int .i64 0, .int .i64 0, .int .i64 0, .int .i64 0] 49)).alloc (.cells #[.bool false, .bool false] 50))
  have BT := Aside0.mk ((Bk.new ((w.alloc (.cells #[.int .i64 0, .int .i64 0] 38)).alloc (.cells #[.int .i64 (-1), .int .i64 (-1)] 38)) #[.int .i64 0, .int .i64 0, .int .i64 0, .int .i64 0] 49).alloc (.cells #[.bool false, .bool false] 50))
  have BSN := Aside0.mk (Bk.new (((w.alloc (.cells #[.int .i64 0, .int .i64 0] 38)).alloc (.cells #[.int .i64 (-1), .int .i64 (-1)] 38)).alloc (.cells #[.int .i64 0, .int .i64 0, .int .i64 0, .int .i64 0] 49)) #[.bool false, .bool false] 50)
  have HB := Aside0.mk (below_alloc (below_alloc (below_alloc (below_alloc (Below.refl w.heap.size w) (.cells #[.int .i64 0, .int .i64 0] 38)) (.cells #[.int .i64 (-1), .int .i64 (-1)] 38)) (.cells #[.int .i64 0, .int .i64 0, .int .i64 0, .int .i64 0] 49)) (.cells #[.bool false, .bool false] 50))
  simp only [World.size_alloc] at BR BF BT BSN
  go_enter Tryd.func14, Tryd.ntmps14
  go_wp2_with fail
  generalize (((w.alloc (.cells #[.int .i64 0, .int .i64 0] 38)).alloc (.cells #[.int .i64 (-1), .int .i64 (-1)] 38)).alloc (.cells #[.int .i64 0, .int .i64 0, .int .i64 0, .int .i64 0] 49)).alloc (.cells #[.bool false, .bool false] 50) = W0 at *
  have hsb0 : w.heap.size + 1 + 1 < w.heap.size + 1 + 1 + 1 := by omega
  have htb0 : w.heap.size + 1 < w.heap.size + 1 + 1 := by omega
  have hfb0 : w.heap.size < w.heap.size + 1 := by omega
  generalize w.heap.size + 1 + 1 + 1 = sb at *
  generalize w.heap.size + 1 + 1 = tb at *
  generalize w.heap.size + 1 = fb at *
  obtain ⟨rb, hrb⟩ : ∃ rb, w.heap.size = rb := ⟨_, rfl⟩
  have hrb0 : w.heap.size ≤ rb := by omega
  rw [hrb] at BR hfb0 ⊢
  clear hrb
  go_loopw [22] (fun i wr => ∃ k : Nat, k ≤ n ∧ i = .int .i64 k ∧ ∃ g0 h0 g1 h1 f0 f1 v0 v1, Aside0 (stN s wait guard Fa Fb k = ⟨g0, h0, g1, h1, f0, f1, v0, v1⟩) ∧ Aside0 (Bk wr rb #[.int .i64 0, .int .i64 0] 38) ∧ Aside0 (Bk wr fb #[.int .i64 f0, .int .i64 f1] 38) ∧ Aside0 (Bk wr tb #[.int .i64 g0, .int .i64 h0, .int .i64 g1, .int .i64 h1] 49) ∧ Aside0 (Bk wr sb #[.bool v0, .bool v1] 50) ∧ Aside0 (Below w.heap.size w wr))
    (fun i _ => n + 1 - (intOf i).toNat)
  case atStart => exact ⟨0, by omega, rfl, 0, 0, 0, 0, -1, -1, false, false, HX, BR, BF, BT, BSN, HB⟩
  case round =>
    clear BR BF BT BSN HB HX
    obtain ⟨k, hk, rfl, g0, h0, g1, h1, f0, f1, v0, v1, HX, BR, BF, BT, BSN, HB⟩ := hrel
    by_cases hlen : k < n
    · have t1 : decide ((k : Int) < (n : Int)) = true := by simp; omega
      obtain ⟨xa, ra, rfl, c0, c1, c2, c3⟩ := HA.out.at_ k hlen
      obtain ⟨xb, rb', rfl, d0, d1, d2, d3⟩ := HBB.out.at_ k hlen
      replace c0 := pw_cell_below HB.out c0
      replace c1 := pw_cell_below HB.out c1
      replace c2 := pw_cell_below HB.out c2
      replace c3 := pw_cell_below HB.out c3
      replace d0 := pw_cell_below HB.out d0
      replace d1 := pw_cell_below HB.out d1
      replace d2 := pw_cell_below HB.out d2
      replace d3 := pw_cell_below HB.out d3
      go_wp2_with fail
      have hsl := BSN.out.lt
      refine G.plain (m := 10) (n := 11) (t := 1) [some 25, some 26, some 27, some 28, some 29, some 30, some 31, some 32, some 33, some 15, none] [G.Is ?fg104_0, G.Is ?fg104_1, G.Is ?fg104_2, G.Is ?fg104_3, G.Is ?fg104_4, G.Is ?fg104_5, G.Is ?fg104_6, G.Is ?fg104_7, G.Is ?fg104_8, G.New wr #[.bool false, .bool false, .bool false, .bool false, .bool false, .bool false, .bool false, .bool false] 51] [9] (by kernel_rfl) (by kernel_rfl) (by kernel_rfl) (by kernel_rfl) (by rfl) (G.allB_succ (G.allB_succ (G.allB_succ (G.allB_succ (G.allB_succ (G.allB_succ (G.allB_succ (G.allB_succ (G.allB_succ (G.allB_succ G.allB_zero ?cg104_0) ?cg104_1) ?cg104_2) ?cg104_3) ?cg104_4) ?cg104_5) ?cg104_6) ?cg104_7) ?cg104_8) ?cg104_9) ?hsg104_ ?hlg104_ ?hTg104_
      case cg104_0 =>
        refine G.core_obl (o := _) (N := some 25) rfl rfl ?_
        intro x a' ha w' hB hF K hK
        simp only [G.putAll, Act.put, List.setIfInBounds_toArray, List.set_cons_zero, List.set_cons_succ, Nat.reduceAdd] at ha
        subst ha
        refine value_ (w1 := ?_) (v := ?_) (by rfl) rfl ?_ ?_
        rotate_left 2
        · go_simp
          constructor
          · rfl
          · rfl
        refine hK.out _ _ (Below.refl _ _) ?_ (fun h => absurd h (by decide))
        change _ = _
        with_reducible rfl
      case cg104_1 =>
        refine G.core_obl (o := _) (N := some 26) rfl rfl ?_
        intro x a' ha w' hB hF K hK
        simp only [G.putAll, Act.put, List.setIfInBounds_toArray, List.set_cons_zero, List.set_cons_succ, Nat.reduceAdd] at ha
        subst ha
        refine value_ (w1 := ?_) (v := ?_) (by rfl) rfl ?_ ?_
        rotate_left 2
        · go_simp
          constructor
          · rfl
          · rfl
        refine hK.out _ _ (Below.refl _ _) ?_ (fun h => absurd h (by decide))
        change _ = _
        with_reducible rfl
      case cg104_2 =>
        refine G.core_obl (o := _) (N := some 27) rfl rfl ?_
        intro x a' ha w' hB hF K hK
        have s0 : x 0 = _ := hF 0 (by kernel_rfl)
        have s1 : x 1 = _ := hF 1 (by kernel_rfl)
        simp only [G.putAll, Act.put, List.setIfInBounds_toArray, List.set_cons_zero, List.set_cons_succ, Nat.reduceAdd, s0, s1] at ha
        subst ha
        refine value_ (w1 := ?_) (v := ?_) (by rfl) rfl ?_ ?_
        rotate_left 2
        · go_simp
          constructor
          · rfl
          · rfl
        refine hK.out _ _ (Below.refl _ _) ?_ (fun h => absurd h (by decide))
        change _ = _
        with_reducible rfl
      case cg104_3 =>
        refine G.core_obl (o := _) (N := some 28) rfl rfl ?_
        intro x a' ha w' hB hF K hK
        have s2 : x 2 = _ := hF 2 (by kernel_rfl)
        simp only [G.putAll, Act.put, List.setIfInBounds_toArray, List.set_cons_zero, List.set_cons_succ, Nat.reduceAdd, s2] at ha
        subst ha
        have t0 := pw_cell_below hB c0
        have t1 := pw_cell_below hB c1
        have t2 := pw_cell_below hB c2
        have t3 := pw_cell_below hB c3
        refine value_ (w1 := ?_) (v := ?_) (by rfl) rfl ?_ ?_
        rotate_left 2
        · go_simp
          constructor
          · rfl
          · rfl
        refine hK.out _ _ (Below.refl _ _) ?_ (fun h => absurd h (by decide))
        change _ = _
        with_reducible rfl
      case cg104_4 =>
        refine G.core_obl (o := _) (N := some 29) rfl rfl ?_
        intro x a' ha w' hB hF K hK
        simp only [G.putAll, Act.put, List.setIfInBounds_toArray, List.set_cons_zero, List.set_cons_succ, Nat.reduceAdd] at ha
        subst ha
        refine value_ (w1 := ?_) (v := ?_) (by rfl) rfl ?_ ?_
        rotate_left 2
        · go_simp
          constructor
          · rfl
          · rfl
        refine hK.out _ _ (Below.refl _ _) ?_ (fun h => absurd h (by decide))
        change _ = _
        with_reducible rfl
      case cg104_5 =>
        refine G.core_obl (o := _) (N := some 30) rfl rfl ?_
        intro x a' ha w' hB hF K hK
        simp only [G.putAll, Act.put, List.setIfInBounds_toArray, List.set_cons_zero, List.set_cons_succ, Nat.reduceAdd] at ha
        subst ha
        refine value_ (w1 := ?_) (v := ?_) (by rfl) rfl ?_ ?_
        rotate_left 2
        · go_simp
          constructor
          · rfl
          · rfl
        refine hK.out _ _ (Below.refl _ _) ?_ (fun h => absurd h (by decide))
        change _ = _
        with_reducible rfl
      case cg104_6 =>
        refine G.core_obl (o := _) (N := some 31) rfl rfl ?_
        intro x a' ha w' hB hF K hK
        have s4 : x 4 = _ := hF 4 (by kernel_rfl)
        have s5 : x 5 = _ := hF 5 (by kernel_rfl)
        simp only [G.putAll, Act.put, List.setIfInBounds_toArray, List.set_cons_zero, List.set_cons_succ, Nat.reduceAdd, s4, s5] at ha
        subst ha
        refine value_ (w1 := ?_) (v := ?_) (by rfl) rfl ?_ ?_
        rotate_left 2
        · go_simp
          constructor
          · rfl
          · rfl
        refine hK.out _ _ (Below.refl _ _) ?_ (fun h => absurd h (by decide))
        change _ = _
        with_reducible rfl
      case cg104_7 =>
        refine G.core_obl (o := _) (N := some 32) rfl rfl ?_
        intro x a' ha w' hB hF K hK
        have s6 : x 6 = _ := hF 6 (by kernel_rfl)
        simp only [G.putAll, Act.put, List.setIfInBounds_toArray, List.set_cons_zero, List.set_cons_succ, Nat.reduceAdd, s6] at ha
        subst ha
        have t0 := pw_cell_below hB d0
        have t1 := pw_cell_below hB d1
        have t2 := pw_cell_below hB d2
        have t3 := pw_cell_below hB d3
        refine value_ (w1 := ?_) (v := ?_) (by rfl) rfl ?_ ?_
        rotate_left 2
        · go_simp
          constructor
          · rfl
          · rfl
        refine hK.out _ _ (Below.refl _ _) ?_ (fun h => absurd h (by decide))
        change _ = _
        with_reducible rfl
      case cg104_8 =>
        refine G.core_obl (o := _) (N := some 33) rfl rfl ?_
        intro x a' ha w' hB hF K hK
        have s3 : x 3 = _ := hF 3 (by kernel_rfl)
        have s7 : x 7 = _ := hF 7 (by kernel_rfl)
        simp only [G.putAll, Act.put, List.setIfInBounds_toArray, List.set_cons_zero, List.set_cons_succ, Nat.reduceAdd, s3, s7] at ha
        subst ha
        refine value_ (w1 := ?_) (v := ?_) (by rfl) rfl ?_ ?_
        rotate_left 2
        · go_simp
          constructor
          · rfl
          · rfl
        refine hK.out _ _ (Below.refl _ _) ?_ (fun h => absurd h (by decide))
        change _ = _
        with_reducible rfl
      case cg104_9 =>
        refine G.core_obl (o := _) (N := some 15) rfl rfl ?_
        intro x a' ha w' hB hF K hK
        simp only [G.putAll, Act.put, List.setIfInBounds_toArray, List.set_cons_zero, List.set_cons_succ, Nat.reduceAdd] at ha
        subst ha
        refine value_ (w1 := ?_) (v := ?_) (by rfl) rfl ?_ ?_
        rotate_left 2
        · go_simp
          constructor
          · rfl
          · rfl
        exact hK.out _ _ (below_alloc (Below.refl _ _) _) ⟨_, rfl, heap_alloc_new _ _, hB.size⟩ (fun _ => Nat.le_refl _)
      case hsg104_ => exact ⟨G.stays_eq _, G.stays_eq _, G.stays_eq _, G.stays_eq _, G.stays_eq _, G.stays_eq _, G.stays_eq _, G.stays_eq _, G.stays_eq _, G.stays_new _ _ _, trivial⟩
      case hlg104_ => exact ⟨fun v w' h => G.new_low h, trivial⟩
      intro x w' hB hF hD
      have s0 : x 0 = _ := hF 0 (by omega)
      have s1 : x 1 = _ := hF 1 (by omega)
      have s2 : x 2 = _ := hF 2 (by omega)
      have s3 : x 3 = _ := hF 3 (by omega)
      have s4 : x 4 = _ := hF 4 (by omega)
      have s5 : x 5 = _ := hF 5 (by omega)
      have s6 : x 6 = _ := hF 6 (by omega)
      have s7 : x 7 = _ := hF 7 (by omega)
      have s8 : x 8 = _ := hF 8 (by omega)
      obtain ⟨b9, s9, hb9, hl9⟩ := (hF 9 (by omega) : G.New _ _ _ (x 9) w')
      clear hF hD
      replace BR := Aside0.mk (BR.out.below hB)
      replace BF := Aside0.mk (BF.out.below hB)
      replace BT := Aside0.mk (BT.out.below hB)
      replace BSN := Aside0.mk (BSN.out.below hB)
      replace HB := Aside0.mk (below_step HB.out hB)
      clear hB c0 c1 c2 c3 d0 d1 d2 d3
      refine G.tail_succ (i := 10) (o := _) (N := none) (by rfl) rfl rfl ?_
      intro a' ha K hK
      simp (decide := true) only [G.putAll, Act.put, List.setIfInBounds_toArray, List.set_cons_zero, List.set_cons_succ, Nat.reduceAdd, G.upd, if_true, if_false, ↓reduceIte, s0, s1, s2, s3, s4, s5, s6, s7, s8, s9] at ha
      subst ha
      have BI := Aside0.mk (Bk.mk hb9)
      have z0 := BI.out.c 0 (v := .bool false) rfl
      have z1 := BI.out.c 1 (v := .bool false) rfl
      have z2 := BI.out.c 2 (v := .bool false) rfl
      have z3 := BI.out.c 3 (v := .bool false) rfl
      have z4 := BI.out.c 4 (v := .bool false) rfl
      have z5 := BI.out.c 5 (v := .bool false) rfl
      have z6 := BI.out.c 6 (v := .bool false) rfl
      have z7 := BI.out.c 7 (v := .bool false) rfl
      have y0 := BI.out.fr 0
      have y1 := BI.out.fr 1
      have y2 := BI.out.fr 2
      have y3 := BI.out.fr 3
      have y4 := BI.out.fr 4
      have y5 := BI.out.fr 5
      have y6 := BI.out.fr 6
      have y7 := BI.out.fr 7
      refine skip_ (w1 := ?_) (by rfl) rfl ?_ ?_
      rotate_left
      · go_simp
        rfl
      refine hK.out undef _ ?_
      clear hK K
      clear z0 y0 z1 y1 z2 y2 z3 y3 z4 y4 z5 y5 z6 y6 z7 y7
      refine G.tail_zero ?_
      intro a' ha
      simp (decide := true) only [G.putAll, Act.put, List.setIfInBounds_toArray, List.set_cons_zero, List.set_cons_succ, Nat.reduceAdd, G.upd, if_true, if_false, ↓reduceIte, s0, s1, s2, s3, s4, s5, s6, s7, s8, s9] at ha
      subst ha
      clear s0 s1 s2 s3 s4 s5 s6 s7 s8 s9 x
      replace BR := Aside0.mk ((((((((BR.out.far (show rb ≠ b9 by omega) 0 (.bool (Fa k).1)).far (show rb ≠ b9 by omega) 1 (.bool (Fa k).2.1)).far (show rb ≠ b9 by omega) 2 (.bool (Fa k).2.2)).far (show rb ≠ b9 by omega) 3 (.bool ra)).far (show rb ≠ b9 by omega) 4 (.bool (Fb k).1)).far (show rb ≠ b9 by omega) 5 (.bool (Fb k).2.1)).far (show rb ≠ b9 by omega) 6 (.bool (Fb k).2.2)).far (show rb ≠ b9 by omega) 7 (.bool rb'))
      replace BF := Aside0.mk ((((((((BF.out.far (show fb ≠ b9 by omega) 0 (.bool (Fa k).1)).far (show fb ≠ b9 by omega) 1 (.bool (Fa k).2.1)).far (show fb ≠ b9 by omega) 2 (.bool (Fa k).2.2)).far (show fb ≠ b9 by omega) 3 (.bool ra)).far (show fb ≠ b9 by omega) 4 (.bool (Fb k).1)).far (show fb ≠ b9 by omega) 5 (.bool (Fb k).2.1)).far (show fb ≠ b9 by omega) 6 (.bool (Fb k).2.2)).far (show fb ≠ b9 by omega) 7 (.bool rb'))
      replace BT := Aside0.mk ((((((((BT.out.far (show tb ≠ b9 by omega) 0 (.bool (Fa k).1)).far (show tb ≠ b9 by omega) 1 (.bool (Fa k).2.1)).far (show tb ≠ b9 by omega) 2 (.bool (Fa k).2.2)).far (show tb ≠ b9 by omega) 3 (.bool ra)).far (show tb ≠ b9 by omega) 4 (.bool (Fb k).1)).far (show tb ≠ b9 by omega) 5 (.bool (Fb k).2.1)).far (show tb ≠ b9 by omega) 6 (.bool (Fb k).2.2)).far (show tb ≠ b9 by omega) 7 (.bool rb'))
      replace BSN := Aside0.mk ((((((((BSN.out.far (show sb ≠ b9 by omega) 0 (.bool (Fa k).1)).far (show sb ≠ b9 by omega) 1 (.bool (Fa k).2.1)).far (show sb ≠ b9 by omega) 2 (.bool (Fa k).2.2)).far (show sb ≠ b9 by omega) 3 (.bool ra)).far (show sb ≠ b9 by omega) 4 (.bool (Fb k).1)).far (show sb ≠ b9 by omega) 5 (.bool (Fb k).2.1)).far (show sb ≠ b9 by omega) 6 (.bool (Fb k).2.2)).far (show sb ≠ b9 by omega) 7 (.bool rb'))
      replace BI := Aside0.mk ((((((((BI.out.put 0 (.bool (Fa k).1) rfl).put 1 (.bool (Fa k).2.1) rfl).put 2 (.bool (Fa k).2.2) rfl).put 3 (.bool ra) rfl).put 4 (.bool (Fb k).1) rfl).put 5 (.bool (Fb k).2.1) rfl).put 6 (.bool (Fb k).2.2) rfl).put 7 (.bool rb') (cs' := #[.bool (Fa k).1, .bool (Fa k).2.1, .bool (Fa k).2.2, .bool ra, .bool (Fb k).1, .bool (Fb k).2.1, .bool (Fb k).2.2, .bool rb']) rfl)
      replace HB := Aside0.mk (below_set0 (below_set0 (below_set0 (below_set0 (below_set0 (below_set0 (below_set0 (below_set0 HB.out (show w.heap.size ≤ b9 by omega) 0 (.bool (Fa k).1)) (show w.heap.size ≤ b9 by omega) 1 (.bool (Fa k).2.1)) (show w.heap.size ≤ b9 by omega) 2 (.bool (Fa k).2.2)) (show w.heap.size ≤ b9 by omega) 3 (.bool ra)) (show w.heap.size ≤ b9 by omega) 4 (.bool (Fb k).1)) (show w.heap.size ≤ b9 by omega) 5 (.bool (Fb k).2.1)) (show w.heap.size ≤ b9 by omega) 6 (.bool (Fb k).2.2)) (show w.heap.size ≤ b9 by omega) 7 (.bool rb'))
      generalize ((((((((w'.setCell ⟨b9, 0, none⟩ (.bool (Fa k).1)).setCell ⟨b9, 1, none⟩ (.bool (Fa k).2.1)).setCell ⟨b9, 2, none⟩ (.bool (Fa k).2.2)).setCell ⟨b9, 3, none⟩ (.bool ra)).setCell ⟨b9, 4, none⟩ (.bool (Fb k).1)).setCell ⟨b9, 5, none⟩ (.bool (Fb k).2.1)).setCell ⟨b9, 6, none⟩ (.bool (Fb k).2.2)).setCell ⟨b9, 7, none⟩ (.bool rb')) = WA at *
      have hib : sb < b9 := by omega
      clear hl9 hsl hb9
      generalize b9 = ib at *
      replace BR := Aside0.mk (BR.out.alloc (.cells #[.bool false, .bool false] 50))
      replace BF := Aside0.mk (BF.out.alloc (.cells #[.bool false, .bool false] 50))
      replace BT := Aside0.mk (BT.out.alloc (.cells #[.bool false, .bool false] 50))
      replace BSN := Aside0.mk (BSN.out.alloc (.cells #[.bool false, .bool false] 50))
      have hnb := BI.out.lt
      replace BI := Aside0.mk (BI.out.alloc (.cells #[.bool false, .bool false] 50))
      have BN := Aside0.mk (Bk.new WA #[.bool false, .bool false] 50)
      replace HB := Aside0.mk (below_alloc HB.out (.cells #[.bool false, .bool false] 50))
      go_wp2_with fail
      generalize WA.alloc (.cells #[.bool false, .bool false] 50) = WB at *
      generalize WA.heap.size = nb at *
      obtain ⟨g0', h0', n0, p0, HST0⟩ : ∃ g h n p, Aside0 (stepV s wait guard g0 h0 (Fa k).1 (Fa k).2.1 (Fa k).2.2 v1 = (g, h, n, p)) := ⟨_, _, _, _, ⟨rfl⟩⟩
      obtain ⟨g1', h1', n1, p1, HST1⟩ : ∃ g h n p, Aside0 (stepV s wait guard g1 h1 (Fb k).1 (Fb k).2.1 (Fb k).2.2 v0 = (g, h, n, p)) := ⟨_, _, _, _, ⟨rfl⟩⟩
      obtain ⟨f0', HF0⟩ : ∃ f, Aside0 (f = firstI p0 f0 (k : Int)) := ⟨_, ⟨rfl⟩⟩
      obtain ⟨f1', HF1⟩ : ∃ f, Aside0 (f = firstI p1 f1 (k : Int)) := ⟨_, ⟨rfl⟩⟩
      have hnl := Aside0.mk BN.out.lt
      have HX' : Aside0 (stN s wait guard Fa Fb (k + 1) = ⟨g0', h0', g1', h1', f0', f1', n0, n1⟩) := ⟨by rw [stN, HX.out]; unfold nextSt; dsimp only; rw [HST0.out, HST1.out, HF0.out, HF1.out]⟩
      clear HX
      obtain ⟨wo, hwo⟩ : ∃ wo : World, wo = wr := ⟨_, rfl⟩
      clear hwo
      go_loopw [34] (fun i wr => ∃ kk : Nat, kk ≤ 2 ∧ i = .int .i64 kk ∧ ∃ G0 H0 G1 H1 F0 F1 N0 N1 r0 r1, Aside0 (Mid kk g0 h0 g1 h1 f0 f1 g0' h0' g1' h1' f0' f1' n0 n1 G0 H0 G1 H1 F0 F1 N0 N1) ∧ Aside0 (Bk wr rb #[.int .i64 0, .int .i64 0] 38) ∧ Aside0 (Bk wr fb #[.int .i64 F0, .int .i64 F1] 38) ∧ Aside0 (Bk wr tb #[.int .i64 G0, .int .i64 H0, .int .i64 G1, .int .i64 H1] 49) ∧ Aside0 (Bk wr sb #[.bool v0, .bool v1] 50) ∧ Aside0 (Bk wr ib #[.bool (Fa k).1, .bool (Fa k).2.1, .bool (Fa k).2.2, .bool r0, .bool (Fb k).1, .bool (Fb k).2.1, .bool (Fb k).2.2, .bool r1] 51) ∧ Aside0 (Bk wr nb #[.bool N0, .bool N1] 50) ∧ Aside0 (nb < wr.heap.size) ∧ Aside0 (Below w.heap.size w wr))
        (fun i _ => 3 - (intOf i).toNat)
      case atStart => exact ⟨0, by omega, rfl, g0, h0, g1, h1, f0, f1, false, false, ra, rb', Aside0.mk (.inl ⟨rfl, rfl, rfl, rfl, rfl, rfl, rfl, rfl, rfl⟩), BR, BF, BT, BSN, BI, BN, hnl, HB⟩
      case round =>
        clear BR BF BT BSN BI BN hnl HB
        obtain ⟨kk, hkk, rfl, G0, H0, G1, H1, F0, F1, N0, N1, r0, r1, HM, BR, BF, BT, BSN, BI, BN, hnl, HB⟩ := hrel
        rcases HM.out with ⟨rfl, rfl, rfl, rfl, rfl, rfl, rfl, rfl, rfl⟩ | ⟨rfl, rfl, rfl, rfl, rfl, rfl, rfl, rfl, rfl⟩ | ⟨rfl, rfl, rfl, rfl, rfl, rfl, rfl, rfl, rfl⟩
        · clear HM
          have t3 : decide (((0 : Nat) : Int) < 2) = true := by decide
          have q0 := BSN.out.c 1 (v := .bool v1) rfl
          have q1 := BI.out.c 3 (v := .bool r0) rfl
          have q2 := BI.out.fr 3
          go_wp2_with fail
          replace BR := Aside0.mk ((BR.out.far (show rb ≠ ib by omega) 3 (.bool v1)).alloc (.cells #[.bool false, .bool false] 25))
          replace BF := Aside0.mk ((BF.out.far (show fb ≠ ib by omega) 3 (.bool v1)).alloc (.cells #[.bool false, .bool false] 25))
          replace BT := Aside0.mk ((BT.out.far (show tb ≠ ib by omega) 3 (.bool v1)).alloc (.cells #[.bool false, .bool false] 25))
          replace BSN := Aside0.mk ((BSN.out.far (show sb ≠ ib by omega) 3 (.bool v1)).alloc (.cells #[.bool false, .bool false] 25))
          replace BN := Aside0.mk ((BN.out.far (show nb ≠ ib by omega) 3 (.bool v1)).alloc (.cells #[.bool false, .bool false] 25))
          replace BI := Aside0.mk ((BI.out.put 3 (.bool v1) (cs' := #[.bool (Fa k).1, .bool (Fa k).2.1, .bool (Fa k).2.2, .bool v1, .bool (Fb k).1, .bool (Fb k).2.1, .bool (Fb k).2.2, .bool r1]) rfl).alloc (.cells #[.bool false, .bool false] 25))
          have BO := Aside0.mk (Bk.new (wr.setCell ⟨ib, 3, none⟩ (.bool v1)) #[.bool false, .bool false] 25)
          replace HB := Aside0.mk (below_alloc (below_set0 HB.out (show w.heap.size ≤ ib by omega) 3 (.bool v1)) (.cells #[.bool false, .bool false] 25))
          replace HS := Aside0.mk (HSW.out.below HB.out)
          rw [World.size_setCell] at BO
          clear q0 q1 q2
          have hob : nb < wr.heap.size := hnl.out
          generalize (wr.setCell ⟨ib, 3, none⟩ (.bool v1)).alloc (.cells #[.bool false, .bool false] 25) = W1 at *
          generalize wr.heap.size = ob at *
          have q0 := BT.out.c 0 (v := .int .i64 g0) rfl
          have q1 := BT.out.c 1 (v := .int .i64 h0) rfl
          have e0 := BI.out.c 0 (v := .bool ((Fa k).1)) rfl
          have e1 := BI.out.c 1 (v := .bool ((Fa k).2.1)) rfl
          have e2 := BI.out.c 2 (v := .bool ((Fa k).2.2)) rfl
          have e3 := BI.out.c 3 (v := .bool v1) rfl
          refine G.float (m := 14) (n := 17) (t := 3) [some 45, some 46, some 47, some 48, some 49, some 50, some 51, some 52, some 53, some 54, some 55, some 44, some 56, some 57, some 58, none, none] [G.Is ?fg168_0, G.Is ?fg168_1, G.Is ?fg168_2, G.Is ?fg168_3, G.Is ?fg168_4, G.Is ?fg168_5, G.Is ?fg168_6, G.Is ?fg168_7, G.Is ?fg168_8, G.Is ?fg168_9, G.Is (Value.tuple #[tele g0' h0', outp n0 p0]), G.Is ?fg168_11, G.Is ?fg168_12, G.Is ?fg168_13] [G.PIs ?fg168_0, G.PIs ?fg168_1, G.PIs ?fg168_2, G.PIs ?fg168_3, G.PIs ?fg168_4, G.PIs ?fg168_5, G.PIs ?fg168_6, G.PIs ?fg168_7, G.PIs ?fg168_8, G.PIs ?fg168_9, G.PIs (Value.tuple #[tele g0' h0', outp n0 p0]), G.PIs ?fg168_11, G.PIs ?fg168_12, G.PIs ?fg168_13] [] [13] (by kernel_rfl) (by kernel_rfl) (by kernel_rfl) (by kernel_rfl) (by rfl) (G.allB_succ (G.allB_succ (G.allB_succ (G.allB_succ (G.allB_succ (G.allB_succ (G.allB_succ (G.allB_succ (G.allB_succ (G.allB_succ (G.allB_succ (G.allB_succ (G.allB_succ (G.allB_succ G.allB_zero (fun _ => ?cg168_0)) (fun _ => ?cg168_1)) (fun _ => ?cg168_2)) (fun _ => ?cg168_3)) (fun _ => ?cg168_4)) (fun _ => ?cg168_5)) (fun _ => ?cg168_6)) (fun _ => ?cg168_7)) (fun _ => ?cg168_8)) (fun _ => ?cg168_9)) (fun _ => ?cg168_10)) (fun _ => ?cg168_11)) (fun _ => ?cg168_12)) (fun h => by cases h)) ⟨?cg168_13, trivial⟩ ?hsg168_ ?hlg168_ ?hpg168_ ?hTg168_ (by kernel_rfl)
          case cg168_0 =>
            refine G.core_obl (o := _) (N := some 45) rfl rfl ?_
            intro x a' ha w' hB hF K hK
            simp only [G.putAll, Act.put, List.setIfInBounds_toArray, List.set_cons_zero, List.set_cons_succ, Nat.reduceAdd] at ha
            subst ha
            refine value_ (w1 := ?_) (v := ?_) (by rfl) rfl ?_ ?_
            rotate_left 2
            · go_simp
              constructor
              · rfl
              · rfl
            refine hK.out _ _ (Below.refl _ _) ?_ (fun h => absurd h (by decide))
            change _ = _
            with_reducible rfl
          case cg168_1 =>
            refine G.core_obl (o := _) (N := some 46) rfl rfl ?_
            intro x a' ha w' hB hF K hK
            simp only [G.putAll, Act.put, List.setIfInBounds_toArray, List.set_cons_zero, List.set_cons_succ, Nat.reduceAdd] at ha
            subst ha
            refine value_ (w1 := ?_) (v := ?_) (by rfl) rfl ?_ ?_
            rotate_left 2
            · go_simp
              constructor
              · rfl
              · rfl
            refine hK.out _ _ (Below.refl _ _) ?_ (fun h => absurd h (by decide))
            change _ = _
            with_reducible rfl
          case cg168_2 =>
            refine G.core_obl (o := _) (N := some 47) rfl rfl ?_
            intro x a' ha w' hB hF K hK
            simp only [G.putAll, Act.put, List.setIfInBounds_toArray, List.set_cons_zero, List.set_cons_succ, Nat.reduceAdd] at ha
            subst ha
            refine value_ (w1 := ?_) (v := ?_) (by rfl) rfl ?_ ?_
            rotate_left 2
            · go_simp
              constructor
              · rfl
              · rfl
            refine hK.out _ _ (Below.refl _ _) ?_ (fun h => absurd h (by decide))
            change _ = _
            with_reducible rfl
          case cg168_3 =>
            refine G.core_obl (o := _) (N := some 48) rfl rfl ?_
            intro x a' ha w' hB hF K hK
            simp only [G.putAll, Act.put, List.setIfInBounds_toArray, List.set_cons_zero, List.set_cons_succ, Nat.reduceAdd] at ha
            subst ha
            refine value_ (w1 := ?_) (v := ?_) (by rfl) rfl ?_ ?_
            rotate_left 2
            · go_simp
              constructor
              · rfl
              · rfl
            refine hK.out _ _ (Below.refl _ _) ?_ (fun h => absurd h (by decide))
            change _ = _
            with_reducible rfl
          case cg168_4 =>
            refine G.core_obl (o := _) (N := some 49) rfl rfl ?_
            intro x a' ha w' hB hF K hK
            simp only [G.putAll, Act.put, List.setIfInBounds_toArray, List.set_cons_zero, List.set_cons_succ, Nat.reduceAdd] at ha
            subst ha
            refine value_ (w1 := ?_) (v := ?_) (by rfl) rfl ?_ ?_
            rotate_left 2
            · go_simp
              constructor
              · rfl
              · rfl
            refine hK.out _ _ (Below.refl _ _) ?_ (fun h => absurd h (by decide))
            change _ = _
            with_reducible rfl
          case cg168_5 =>
            refine G.core_obl (o := _) (N := some 50) rfl rfl ?_
            intro x a' ha w' hB hF K hK
            have s4 : x 4 = _ := hF 4 (by kernel_rfl)
            simp only [G.putAll, Act.put, List.setIfInBounds_toArray, List.set_cons_zero, List.set_cons_succ, Nat.reduceAdd, s4] at ha
            subst ha
            refine value_ (w1 := ?_) (v := ?_) (by rfl) rfl ?_ ?_
            rotate_left 2
            · go_simp
              constructor
              · rfl
              · rfl
            refine hK.out _ _ (Below.refl _ _) ?_ (fun h => absurd h (by decide))
            change _ = _
            with_reducible rfl
          case cg168_6 =>
            refine G.core_obl (o := _) (N := some 51) rfl rfl ?_
            intro x a' ha w' hB hF K hK
            have s5 : x 5 = _ := hF 5 (by kernel_rfl)
            simp only [G.putAll, Act.put, List.setIfInBounds_toArray, List.set_cons_zero, List.set_cons_succ, Nat.reduceAdd, s5] at ha
            subst ha
            have t0 := pw_cell_below hB q0
            have t1 := pw_cell_below hB q1
            refine value_ (w1 := ?_) (v := ?_) (by rfl) rfl ?_ ?_
            rotate_left 2
            · go_simp
              constructor
              · rfl
              · rfl
            refine hK.out _ _ (Below.refl _ _) ?_ (fun h => absurd h (by decide))
            change _ = _
            with_reducible rfl
          case cg168_7 =>
            refine G.core_obl (o := _) (N := some 52) rfl rfl ?_
            intro x a' ha w' hB hF K hK
            simp only [G.putAll, Act.put, List.setIfInBounds_toArray, List.set_cons_zero, List.set_cons_succ, Nat.reduceAdd] at ha
            subst ha
            refine value_ (w1 := ?_) (v := ?_) (by rfl) rfl ?_ ?_
            rotate_left 2
            · go_simp
              constructor
              · rfl
              · rfl
            refine hK.out _ _ (Below.refl _ _) ?_ (fun h => absurd h (by decide))
            change _ = _
            with_reducible rfl
          case cg168_8 =>
            refine G.core_obl (o := _) (N := some 53) rfl rfl ?_
            intro x a' ha w' hB hF K hK
            have s7 : x 7 = _ := hF 7 (by kernel_rfl)
            simp only [G.putAll, Act.put, List.setIfInBounds_toArray, List.set_cons_zero, List.set_cons_succ, Nat.reduceAdd, s7] at ha
            subst ha
            refine value_ (w1 := ?_) (v := ?_) (by rfl) rfl ?_ ?_
            rotate_left 2
            · go_simp
              constructor
              · rfl
              · rfl
            refine hK.out _ _ (Below.refl _ _) ?_ (fun h => absurd h (by decide))
            change _ = _
            with_reducible rfl
          case cg168_9 =>
            refine G.core_obl (o := _) (N := some 54) rfl rfl ?_
            intro x a' ha w' hB hF K hK
            have s8 : x 8 = _ := hF 8 (by kernel_rfl)
            simp only [G.putAll, Act.put, List.setIfInBounds_toArray, List.set_cons_zero, List.set_cons_succ, Nat.reduceAdd, s8] at ha
            subst ha
            have t0 := pw_cell_below hB e0
            have t1 := pw_cell_below hB e1
            have t2 := pw_cell_below hB e2
            have t3 := pw_cell_below hB e3
            refine value_ (w1 := ?_) (v := ?_) (by rfl) rfl ?_ ?_
            rotate_left 2
            · go_simp
              constructor
              · rfl
              · rfl
            refine hK.out _ _ (Below.refl _ _) ?_ (fun h => absurd h (by decide))
            change _ = _
            with_reducible rfl
          case cg168_10 =>
            refine G.core_obl (o := _) (N := some 55) rfl rfl ?_
            intro x a' ha w' hB hF K hK
            have s1 : x 1 = _ := hF 1 (by kernel_rfl)
            have s2 : x 2 = _ := hF 2 (by kernel_rfl)
            have s3 : x 3 = _ := hF 3 (by kernel_rfl)
            have s6 : x 6 = _ := hF 6 (by kernel_rfl)
            have s9 : x 9 = _ := hF 9 (by kernel_rfl)
            simp only [G.putAll, Act.put, List.setIfInBounds_toArray, List.set_cons_zero, List.set_cons_succ, Nat.reduceAdd, s1, s2, s3, s6, s9] at ha
            subst ha
            refine goes_ Tryd.func9 (by kernel_rfl) rfl #[.int .i64 s, .int .i64 wait, .int .i64 guard, tele g0 h0, inp ((Fa k).1) ((Fa k).2.1) ((Fa k).2.2) v1] (by rfl) rfl rfl (by first | rfl | (simp only [List.map_toArray, List.map_cons, List.map_nil]; done) | (simp only [List.map_toArray, List.map_cons, List.map_nil]; rfl)) ?_
            with_reducible refine (step_is HST0.out _ (HS.out.below hB)).mono ?_
            rintro e w3 ⟨rfl, HB'⟩
            refine ⟨_, rfl, ?_⟩
            exact hK.out _ _ HB' rfl (fun h => absurd h (by decide))
          case cg168_11 =>
            refine G.core_obl (o := _) (N := some 44) rfl rfl ?_
            intro x a' ha w' hB hF K hK
            have s10 : x 10 = _ := hF 10 (by kernel_rfl)
            simp only [G.putAll, Act.put, List.setIfInBounds_toArray, List.set_cons_zero, List.set_cons_succ, Nat.reduceAdd, s10] at ha
            subst ha
            refine value_ (w1 := ?_) (v := ?_) (by rfl) rfl ?_ ?_
            rotate_left 2
            · go_simp
              constructor
              · rfl
              · rfl
            refine hK.out _ _ (Below.refl _ _) ?_ (fun h => absurd h (by decide))
            change _ = _
            with_reducible rfl
          case cg168_12 =>
            refine G.core_obl (o := _) (N := some 56) rfl rfl ?_
            intro x a' ha w' hB hF K hK
            have s11 : x 11 = _ := hF 11 (by kernel_rfl)
            simp only [G.putAll, Act.put, List.setIfInBounds_toArray, List.set_cons_zero, List.set_cons_succ, Nat.reduceAdd, s11] at ha
            subst ha
            refine value_ (w1 := ?_) (v := ?_) (by rfl) rfl ?_ ?_
            rotate_left 2
            · go_simp
              constructor
              · rfl
              · rfl
            refine hK.out _ _ (Below.refl _ _) ?_ (fun h => absurd h (by decide))
            change _ = _
            with_reducible rfl
          case cg168_13 =>
            refine G.float_obl (o := _) (N := some 57) rfl rfl ?_
            intro x a' ha w' hF K hK
            have s11 : x 11 = _ := hF 11 (by kernel_rfl)
            simp only [G.putAll, Act.put, List.setIfInBounds_toArray, List.set_cons_zero, List.set_cons_succ, Nat.reduceAdd, s11] at ha
            subst ha
            refine value_ (w1 := ?_) (v := ?_) (by rfl) rfl ?_ ?_
            rotate_left 2
            · go_simp
              constructor
              · rfl
              · rfl
            refine hK.out _ ?_
            change _ = _
            with_reducible rfl
          case hsg168_ => exact ⟨G.stays_eq _, G.stays_eq _, G.stays_eq _, G.stays_eq _, G.stays_eq _, G.stays_eq _, G.stays_eq _, G.stays_eq _, G.stays_eq _, G.stays_eq _, G.stays_eq _, G.stays_eq _, G.stays_eq _, G.stays_eq _, trivial⟩
          case hlg168_ => exact trivial
          case hpg168_ => exact ⟨fun v w h => h, fun v w h => h, fun v w h => h, fun v w h => h, fun v w h => h, fun v w h => h, fun v w h => h, fun v w h => h, fun v w h => h, fun v w h => h, fun v w h => h, fun v w h => h, fun v w h => h, fun v w h => h, trivial⟩
          intro x w' hB hF hD
          have s0 : x 0 = _ := hF 0 (by omega) (by kernel_rfl)
          have s1 : x 1 = _ := hF 1 (by omega) (by kernel_rfl)
          have s2 : x 2 = _ := hF 2 (by omega) (by kernel_rfl)
          have s3 : x 3 = _ := hF 3 (by omega) (by kernel_rfl)
          have s4 : x 4 = _ := hF 4 (by omega) (by kernel_rfl)
          have s5 : x 5 = _ := hF 5 (by omega) (by kernel_rfl)
          have s6 : x 6 = _ := hF 6 (by omega) (by kernel_rfl)
          have s7 : x 7 = _ := hF 7 (by omega) (by kernel_rfl)
          have s8 : x 8 = _ := hF 8 (by omega) (by kernel_rfl)
          have s9 : x 9 = _ := hF 9 (by omega) (by kernel_rfl)
          have s10 : x 10 = _ := hF 10 (by omega) (by kernel_rfl)
          have s11 : x 11 = _ := hF 11 (by omega) (by kernel_rfl)
          have s12 : x 12 = _ := hF 12 (by omega) (by kernel_rfl)
          clear hF hD
          replace BR := Aside0.mk (BR.out.below hB)
          replace BF := Aside0.mk (BF.out.below hB)
          replace BSN := Aside0.mk (BSN.out.below hB)
          replace BN := Aside0.mk (BN.out.below hB)
          replace BI := Aside0.mk (BI.out.below hB)
          replace BT := Aside0.mk (BT.out.below hB)
          replace BO := Aside0.mk (BO.out.below hB)
          replace HB := Aside0.mk (below_step HB.out hB)
          clear hB HS q0 q1 e0 e1 e2 e3
          refine G.tail_succF (i := 14) (o := _) (N := some 58) (by rfl) rfl rfl ?_
          intro z a' ha hz K hK
          simp (decide := true) only [G.putAll, Act.put, List.setIfInBounds_toArray, List.set_cons_zero, List.set_cons_succ, Nat.reduceAdd, G.upd, if_true, if_false, ↓reduceIte, G.mrg, Bool.and_true, Bool.and_false, decide_true, decide_false, Bool.false_eq_true, s0, s1, s2, s3, s4, s5, s6, s7, s8, s9, s10, s11, s12] at ha
          subst ha
          refine value_ (w1 := ?_) (v := ?_) (by rfl) rfl ?_ ?_
          rotate_left 2
          · go_simp
            constructor
            · rfl
            · rfl
          refine hK.out _ _ ?_
          clear hK K
          clear hz
          refine G.tail_succF (i := 15) (o := _) (N := none) (by rfl) rfl rfl ?_
          intro z a' ha hz K hK
          simp (decide := true) only [G.putAll, Act.put, List.setIfInBounds_toArray, List.set_cons_zero, List.set_cons_succ, Nat.reduceAdd, G.upd, if_true, if_false, ↓reduceIte, G.mrg, Bool.and_true, Bool.and_false, decide_true, decide_false, Bool.false_eq_true, s0, s1, s2, s3, s4, s5, s6, s7, s8, s9, s10, s11, s12] at ha
          subst ha
          have z0 := BT.out.c 0 (v := .int .i64 g0) rfl
          have z1 := BT.out.c 1 (v := .int .i64 h0) rfl
          have y0 := BT.out.fr 0
          have y1 := BT.out.fr 1
          refine skip_ (w1 := ?_) (by rfl) rfl ?_ ?_
          rotate_left
          · go_simp
            rfl
          refine hK.out undef _ ?_
          clear hK K
          clear hz
          clear z0 z1 y0 y1
          replace BR := Aside0.mk ((BR.out.far (show rb ≠ tb by omega) 0 (.int .i64 g0')).far (show rb ≠ tb by omega) 1 (.int .i64 h0'))
          replace BF := Aside0.mk ((BF.out.far (show fb ≠ tb by omega) 0 (.int .i64 g0')).far (show fb ≠ tb by omega) 1 (.int .i64 h0'))
          replace BSN := Aside0.mk ((BSN.out.far (show sb ≠ tb by omega) 0 (.int .i64 g0')).far (show sb ≠ tb by omega) 1 (.int .i64 h0'))
          replace BN := Aside0.mk ((BN.out.far (show nb ≠ tb by omega) 0 (.int .i64 g0')).far (show nb ≠ tb by omega) 1 (.int .i64 h0'))
          replace BI := Aside0.mk ((BI.out.far (show ib ≠ tb by omega) 0 (.int .i64 g0')).far (show ib ≠ tb by omega) 1 (.int .i64 h0'))
          replace BO := Aside0.mk ((BO.out.far (show ob ≠ tb by omega) 0 (.int .i64 g0')).far (show ob ≠ tb by omega) 1 (.int .i64 h0'))
          replace BT := Aside0.mk ((BT.out.put 0 (.int .i64 g0') rfl).put 1 (.int .i64 h0') (cs' := #[.int .i64 g0', .int .i64 h0', .int .i64 g1, .int .i64 h1]) rfl)
          replace HB := Aside0.mk (below_set0 (below_set0 HB.out (show w.heap.size ≤ tb by omega) 0 (.int .i64 g0')) (show w.heap.size ≤ tb by omega) 1 (.int .i64 h0'))
          generalize (World.setCell (World.setCell _ ⟨tb, 0, none⟩ (.int .i64 g0')) ⟨tb, 1, none⟩ (.int .i64 h0')) = W2 at *
          refine G.tail_succF (i := 16) (o := _) (N := none) (by rfl) rfl rfl ?_
          intro z a' ha hz K hK
          have sz13 : z 13 = _ := hz 13 (by kernel_rfl) (by omega)
          simp (decide := true) only [G.putAll, Act.put, List.setIfInBounds_toArray, List.set_cons_zero, List.set_cons_succ, Nat.reduceAdd, G.upd, if_true, if_false, ↓reduceIte, G.mrg, Bool.and_true, Bool.and_false, decide_true, decide_false, Bool.false_eq_true, s0, s1, s2, s3, s4, s5, s6, s7, s8, s9, s10, s11, s12, sz13] at ha
          subst ha
          have z0 := BO.out.c 0 (v := .bool false) rfl
          have z1 := BO.out.c 1 (v := .bool false) rfl
          have y0 := BO.out.fr 0
          have y1 := BO.out.fr 1
          refine skip_ (w1 := ?_) (by rfl) rfl ?_ ?_
          rotate_left
          · go_simp
            rfl
          refine hK.out undef _ ?_
          clear hK K
          clear hz
          clear z0 z1 y0 y1
          replace BR := Aside0.mk ((BR.out.far (show rb ≠ ob by omega) 0 (.bool n0)).far (show rb ≠ ob by omega) 1 (.bool p0))
          replace BF := Aside0.mk ((BF.out.far (show fb ≠ ob by omega) 0 (.bool n0)).far (show fb ≠ ob by omega) 1 (.bool p0))
          replace BSN := Aside0.mk ((BSN.out.far (show sb ≠ ob by omega) 0 (.bool n0)).far (show sb ≠ ob by omega) 1 (.bool p0))
          replace BN := Aside0.mk ((BN.out.far (show nb ≠ ob by omega) 0 (.bool n0)).far (show nb ≠ ob by omega) 1 (.bool p0))
          replace BI := Aside0.mk ((BI.out.far (show ib ≠ ob by omega) 0 (.bool n0)).far (show ib ≠ ob by omega) 1 (.bool p0))
          replace BT := Aside0.mk ((BT.out.far (show tb ≠ ob by omega) 0 (.bool n0)).far (show tb ≠ ob by omega) 1 (.bool p0))
          replace BO := Aside0.mk ((BO.out.put 0 (.bool n0) rfl).put 1 (.bool p0) (cs' := #[.bool n0, .bool p0]) rfl)
          replace HB := Aside0.mk (below_set0 (below_set0 HB.out (show w.heap.size ≤ ob by omega) 0 (.bool n0)) (show w.heap.size ≤ ob by omega) 1 (.bool p0))
          generalize (World.setCell (World.setCell _ ⟨ob, 0, none⟩ (.bool n0)) ⟨ob, 1, none⟩ (.bool p0)) = W3 at *
          clear sz13
          refine G.tail_zeroF ?_
          intro z a' ha hz
          have sz13 : z 13 = _ := hz 13 (by omega)
          simp (decide := true) only [G.putAll, Act.put, List.setIfInBounds_toArray, List.set_cons_zero, List.set_cons_succ, Nat.reduceAdd, G.upd, if_true, if_false, ↓reduceIte, G.mrg, Bool.and_true, Bool.and_false, decide_true, decide_false, Bool.false_eq_true, s0, s1, s2, s3, s4, s5, s6, s7, s8, s9, s10, s11, s12, sz13] at ha
          subst ha
          clear s0 s1 s2 s3 s4 s5 s6 s7 s8 s9 s10 s11 s12 hz sz13 x z
          have q0 := BO.out.c 0 (v := .bool n0) rfl
          have q1 := BN.out.c 0 (v := .bool false) rfl
          have q2 := BN.out.fr 0
          have q3 := (BO.out.far (show ob ≠ nb by omega) 0 (.bool n0)).c 1 (v := .bool p0) rfl
          have q4 := (BF.out.far (show fb ≠ nb by omega) 0 (.bool n0)).c 0 (v := .int .i64 f0) rfl
          have q5 := (BF.out.far (show fb ≠ nb by omega) 0 (.bool n0)).fr 0
          replace BR := Aside0.mk (BR.out.far (show rb ≠ nb by omega) 0 (.bool n0))
          replace BF := Aside0.mk (BF.out.far (show fb ≠ nb by omega) 0 (.bool n0))
          replace BSN := Aside0.mk (BSN.out.far (show sb ≠ nb by omega) 0 (.bool n0))
          replace BI := Aside0.mk (BI.out.far (show ib ≠ nb by omega) 0 (.bool n0))
          replace BT := Aside0.mk (BT.out.far (show tb ≠ nb by omega) 0 (.bool n0))
          replace BO := Aside0.mk (BO.out.far (show ob ≠ nb by omega) 0 (.bool n0))
          replace BN := Aside0.mk (BN.out.put 0 (.bool n0) (cs' := #[.bool n0, .bool false]) rfl)
          replace HB := Aside0.mk (below_set0 HB.out (show w.heap.size ≤ nb by omega) 0 (.bool n0))
          cases p0 with
          | false =>
            obtain rfl : f0' = f0 := HF0.out
            have hnl := Aside0.mk BN.out.lt
            go_wp2_with fail
            go_roundw
            case rel => exact ⟨1, by omega, by go_num, g0', h0', g1, h1, f0', f1, n0, false, v1, r1, Aside0.mk (.inr (.inl ⟨rfl, rfl, rfl, rfl, rfl, rfl, rfl, rfl, rfl⟩)), BR, BF, BT, BSN, BI, BN, hnl, HB⟩
            case measure => simp [intOf]
          | true =>
            by_cases hf : f0 < 0
            · have t4 : decide (f0 < 0) = true := by simpa using hf
              have hfe : f0' = (k : Int) := by rw [HF0.out]; unfold firstI; rw [if_pos ⟨rfl, hf⟩]
              replace BR := Aside0.mk (BR.out.far (show rb ≠ fb by omega) 0 (.int .i64 (k : Int)))
              replace BSN := Aside0.mk (BSN.out.far (show sb ≠ fb by omega) 0 (.int .i64 (k : Int)))
              replace BI := Aside0.mk (BI.out.far (show ib ≠ fb by omega) 0 (.int .i64 (k : Int)))
              replace BT := Aside0.mk (BT.out.far (show tb ≠ fb by omega) 0 (.int .i64 (k : Int)))
              replace BO := Aside0.mk (BO.out.far (show ob ≠ fb by omega) 0 (.int .i64 (k : Int)))
              replace BN := Aside0.mk (BN.out.far (show nb ≠ fb by omega) 0 (.int .i64 (k : Int)))
              replace BF := Aside0.mk (BF.out.put 0 (.int .i64 (k : Int)) (cs' := #[.int .i64 f0', .int .i64 f1]) (by rw [hfe]; rfl))
              replace HB := Aside0.mk (below_set0 HB.out (show w.heap.size ≤ fb by omega) 0 (.int .i64 (k : Int)))
              clear hfe
              have hnl := Aside0.mk BN.out.lt
              go_wp2_with fail
              go_roundw
              case rel => exact ⟨1, by omega, by go_num, g0', h0', g1, h1, f0', f1, n0, false, v1, r1, Aside0.mk (.inr (.inl ⟨rfl, rfl, rfl, rfl, rfl, rfl, rfl, rfl, rfl⟩)), BR, BF, BT, BSN, BI, BN, hnl, HB⟩
              case measure => simp [intOf]
            · have t4 : decide (f0 < 0) = false := by simpa using hf
              obtain rfl : f0' = f0 := by rw [HF0.out]; unfold firstI; rw [if_neg (fun h => hf h.2)]
              have hnl := Aside0.mk BN.out.lt
              go_wp2_with fail
              go_roundw
              case rel => exact ⟨1, by omega, by go_num, g0', h0', g1, h1, f0', f1, n0, false, v1, r1, Aside0.mk (.inr (.inl ⟨rfl, rfl, rfl, rfl, rfl, rfl, rfl, rfl, rfl⟩)), BR, BF, BT, BSN, BI, BN, hnl, HB⟩
              case measure => simp [intOf]
        · clear HM
          have t3 : decide (((1 : Nat) : Int) < 2) = true := by decide
          have q0 := BSN.out.c 0 (v := .bool v0) rfl
          have q1 := BI.out.c 7 (v := .bool r1) rfl
          have q2 := BI.out.fr 7
          go_wp2_with fail
          replace BR := Aside0.mk ((BR.out.far (show rb ≠ ib by omega) 7 (.bool v0)).alloc (.cells #[.bool false, .bool false] 25))
          replace BF := Aside0.mk ((BF.out.far (show fb ≠ ib by omega) 7 (.bool v0)).alloc (.cells #[.bool false, .bool false] 25))
          replace BT := Aside0.mk ((BT.out.far (show tb ≠ ib by omega) 7 (.bool v0)).alloc (.cells #[.bool false, .bool false] 25))
          replace BSN := Aside0.mk ((BSN.out.far (show sb ≠ ib by omega) 7 (.bool v0)).alloc (.cells #[.bool false, .bool false] 25))
          replace BN := Aside0.mk ((BN.out.far (show nb ≠ ib by omega) 7 (.bool v0)).alloc (.cells #[.bool false, .bool false] 25))
          replace BI := Aside0.mk ((BI.out.put 7 (.bool v0) (cs' := #[.bool (Fa k).1, .bool (Fa k).2.1, .bool (Fa k).2.2, .bool r0, .bool (Fb k).1, .bool (Fb k).2.1, .bool (Fb k).2.2, .bool v0]) rfl).alloc (.cells #[.bool false, .bool false] 25))
          have BO := Aside0.mk (Bk.new (wr.setCell ⟨ib, 7, none⟩ (.bool v0)) #[.bool false, .bool false] 25)
          replace HB := Aside0.mk (below_alloc (below_set0 HB.out (show w.heap.size ≤ ib by omega) 7 (.bool v0)) (.cells #[.bool false, .bool false] 25))
          replace HS := Aside0.mk (HSW.out.below HB.out)
          rw [World.size_setCell] at BO
          clear q0 q1 q2
          have hob : nb < wr.heap.size := hnl.out
          generalize (wr.setCell ⟨ib, 7, none⟩ (.bool v0)).alloc (.cells #[.bool false, .bool false] 25) = W1 at *
          generalize wr.heap.size = ob at *
          have q0 := BT.out.c 2 (v := .int .i64 g1) rfl
          have q1 := BT.out.c 3 (v := .int .i64 h1) rfl
          have e0 := BI.out.c 4 (v := .bool ((Fb k).1)) rfl
          have e1 := BI.out.c 5 (v := .bool ((Fb k).2.1)) rfl
          have e2 := BI.out.c 6 (v := .bool ((Fb k).2.2)) rfl
          have e3 := BI.out.c 7 (v := .bool v0) rfl
          refine G.float (m := 14) (n := 17) (t := 3) [some 45, some 46, some 47, some 48, some 49, some 50, some 51, some 52, some 53, some 54, some 55, some 44, some 56, some 57, some 58, none, none] [G.Is ?fg242_0, G.Is ?fg242_1, G.Is ?fg242_2, G.Is ?fg242_3, G.Is ?fg242_4, G.Is ?fg242_5, G.Is ?fg242_6, G.Is ?fg242_7, G.Is ?fg242_8, G.Is ?fg242_9, G.Is (Value.tuple #[tele g1' h1', outp n1 p1]), G.Is ?fg242_11, G.Is ?fg242_12, G.Is ?fg242_13] [G.PIs ?fg242_0, G.PIs ?fg242_1, G.PIs ?fg242_2, G.PIs ?fg242_3, G.PIs ?fg242_4, G.PIs ?fg242_5, G.PIs ?fg242_6, G.PIs ?fg242_7, G.PIs ?fg242_8, G.PIs ?fg242_9, G.PIs (Value.tuple #[tele g1' h1', outp n1 p1]), G.PIs ?fg242_11, G.PIs ?fg242_12, G.PIs ?fg242_13] [] [13] (by kernel_rfl) (by kernel_rfl) (by kernel_rfl) (by kernel_rfl) (by rfl) (G.allB_succ (G.allB_succ (G.allB_succ (G.allB_succ (G.allB_succ (G.allB_succ (G.allB_succ (G.allB_succ (G.allB_succ (G.allB_succ (G.allB_succ (G.allB_succ (G.allB_succ (G.allB_succ G.allB_zero (fun _ => ?cg242_0)) (fun _ => ?cg242_1)) (fun _ => ?cg242_2)) (fun _ => ?cg242_3)) (fun _ => ?cg242_4)) (fun _ => ?cg242_5)) (fun _ => ?cg242_6)) (fun _ => ?cg242_7)) (fun _ => ?cg242_8)) (fun _ => ?cg242_9)) (fun _ => ?cg242_10)) (fun _ => ?cg242_11)) (fun _ => ?cg242_12)) (fun h => by cases h)) ⟨?cg242_13, trivial⟩ ?hsg242_ ?hlg242_ ?hpg242_ ?hTg242_ (by kernel_rfl)
          case cg242_0 =>
            refine G.core_obl (o := _) (N := some 45) rfl rfl ?_
            intro x a' ha w' hB hF K hK
            simp only [G.putAll, Act.put, List.setIfInBounds_toArray, List.set_cons_zero, List.set_cons_succ, Nat.reduceAdd] at ha
            subst ha
            refine value_ (w1 := ?_) (v := ?_) (by rfl) rfl ?_ ?_
            rotate_left 2
            · go_simp
              constructor
              · rfl
              · rfl
            refine hK.out _ _ (Below.refl _ _) ?_ (fun h => absurd h (by decide))
            change _ = _
            with_reducible rfl
          case cg242_1 =>
            refine G.core_obl (o := _) (N := some 46) rfl rfl ?_
            intro x a' ha w' hB hF K hK
            simp only [G.putAll, Act.put, List.setIfInBounds_toArray, List.set_cons_zero, List.set_cons_succ, Nat.reduceAdd] at ha
            subst ha
            refine value_ (w1 := ?_) (v := ?_) (by rfl) rfl ?_ ?_
            rotate_left 2
            · go_simp
              constructor
              · rfl
              · rfl
            refine hK.out _ _ (Below.refl _ _) ?_ (fun h => absurd h (by decide))
            change _ = _
            with_reducible rfl
          case cg242_2 =>
            refine G.core_obl (o := _) (N := some 47) rfl rfl ?_
            intro x a' ha w' hB hF K hK
            simp only [G.putAll, Act.put, List.setIfInBounds_toArray, List.set_cons_zero, List.set_cons_succ, Nat.reduceAdd] at ha
            subst ha
            refine value_ (w1 := ?_) (v := ?_) (by rfl) rfl ?_ ?_
            rotate_left 2
            · go_simp
              constructor
              · rfl
              · rfl
            refine hK.out _ _ (Below.refl _ _) ?_ (fun h => absurd h (by decide))
            change _ = _
            with_reducible rfl
          case cg242_3 =>
            refine G.core_obl (o := _) (N := some 48) rfl rfl ?_
            intro x a' ha w' hB hF K hK
            simp only [G.putAll, Act.put, List.setIfInBounds_toArray, List.set_cons_zero, List.set_cons_succ, Nat.reduceAdd] at ha
            subst ha
            refine value_ (w1 := ?_) (v := ?_) (by rfl) rfl ?_ ?_
            rotate_left 2
            · go_simp
              constructor
              · rfl
              · rfl
            refine hK.out _ _ (Below.refl _ _) ?_ (fun h => absurd h (by decide))
            change _ = _
            with_reducible rfl
          case cg242_4 =>
            refine G.core_obl (o := _) (N := some 49) rfl rfl ?_
            intro x a' ha w' hB hF K hK
            simp only [G.putAll, Act.put, List.setIfInBounds_toArray, List.set_cons_zero, List.set_cons_succ, Nat.reduceAdd] at ha
            subst ha
            refine value_ (w1 := ?_) (v := ?_) (by rfl) rfl ?_ ?_
            rotate_left 2
            · go_simp
              constructor
              · rfl
              · rfl
            refine hK.out _ _ (Below.refl _ _) ?_ (fun h => absurd h (by decide))
            change _ = _
            with_reducible rfl
          case cg242_5 =>
            refine G.core_obl (o := _) (N := some 50) rfl rfl ?_
            intro x a' ha w' hB hF K hK
            have s4 : x 4 = _ := hF 4 (by kernel_rfl)
            simp only [G.putAll, Act.put, List.setIfInBounds_toArray, List.set_cons_zero, List.set_cons_succ, Nat.reduceAdd, s4] at ha
            subst ha
            refine value_ (w1 := ?_) (v := ?_) (by rfl) rfl ?_ ?_
            rotate_left 2
            · go_simp
              constructor
              · rfl
              · rfl
            refine hK.out _ _ (Below.refl _ _) ?_ (fun h => absurd h (by decide))
            change _ = _
            with_reducible rfl
          case cg242_6 =>
            refine G.core_obl (o := _) (N := some 51) rfl rfl ?_
            intro x a' ha w' hB hF K hK
            have s5 : x 5 = _ := hF 5 (by kernel_rfl)
            simp only [G.putAll, Act.put, List.setIfInBounds_toArray, List.set_cons_zero, List.set_cons_succ, Nat.reduceAdd, s5] at ha
            subst ha
            have t0 := pw_cell_below hB q0
            have t1 := pw_cell_below hB q1
            refine value_ (w1 := ?_) (v := ?_) (by rfl) rfl ?_ ?_
            rotate_left 2
            · go_simp
              constructor
              · rfl
              · rfl
            refine hK.out _ _ (Below.refl _ _) ?_ (fun h => absurd h (by decide))
            change _ = _
            with_reducible rfl
          case cg242_7 =>
            refine G.core_obl (o := _) (N := some 52) rfl rfl ?_
            intro x a' ha w' hB hF K hK
            simp only [G.putAll, Act.put, List.setIfInBounds_toArray, List.set_cons_zero, List.set_cons_succ, Nat.reduceAdd] at ha
            subst ha
            refine value_ (w1 := ?_) (v := ?_) (by rfl) rfl ?_ ?_
            rotate_left 2
            · go_simp
              constructor
              · rfl
              · rfl
            refine hK.out _ _ (Below.refl _ _) ?_ (fun h => absurd h (by decide))
            change _ = _
            with_reducible rfl
          case cg242_8 =>
            refine G.core_obl (o := _) (N := some 53) rfl rfl ?_
            intro x a' ha w' hB hF K hK
            have s7 : x 7 = _ := hF 7 (by kernel_rfl)
            simp only [G.putAll, Act.put, List.setIfInBounds_toArray, List.set_cons_zero, List.set_cons_succ, Nat.reduceAdd, s7] at ha
            subst ha
            refine value_ (w1 := ?_) (v := ?_) (by rfl) rfl ?_ ?_
            rotate_left 2
            · go_simp
              constructor
              · rfl
              · rfl
            refine hK.out _ _ (Below.refl _ _) ?_ (fun h => absurd h (by decide))
            change _ = _
            with_reducible rfl
          case cg242_9 =>
            refine G.core_obl (o := _) (N := some 54) rfl rfl ?_
            intro x a' ha w' hB hF K hK
            have s8 : x 8 = _ := hF 8 (by kernel_rfl)
            simp only [G.putAll, Act.put, List.setIfInBounds_toArray, List.set_cons_zero, List.set_cons_succ, Nat.reduceAdd, s8] at ha
            subst ha
            have t0 := pw_cell_below hB e0
            have t1 := pw_cell_below hB e1
            have t2 := pw_cell_below hB e2
            have t3 := pw_cell_below hB e3
            refine value_ (w1 := ?_) (v := ?_) (by rfl) rfl ?_ ?_
            rotate_left 2
            · go_simp
              constructor
              · rfl
              · rfl
            refine hK.out _ _ (Below.refl _ _) ?_ (fun h => absurd h (by decide))
            change _ = _
            with_reducible rfl
          case cg242_10 =>
            refine G.core_obl (o := _) (N := some 55) rfl rfl ?_
            intro x a' ha w' hB hF K hK
            have s1 : x 1 = _ := hF 1 (by kernel_rfl)
            have s2 : x 2 = _ := hF 2 (by kernel_rfl)
            have s3 : x 3 = _ := hF 3 (by kernel_rfl)
            have s6 : x 6 = _ := hF 6 (by kernel_rfl)
            have s9 : x 9 = _ := hF 9 (by kernel_rfl)
            simp only [G.putAll, Act.put, List.setIfInBounds_toArray, List.set_cons_zero, List.set_cons_succ, Nat.reduceAdd, s1, s2, s3, s6, s9] at ha
            subst ha
            refine goes_ Tryd.func9 (by kernel_rfl) rfl #[.int .i64 s, .int .i64 wait, .int .i64 guard, tele g1 h1, inp ((Fb k).1) ((Fb k).2.1) ((Fb k).2.2) v0] (by rfl) rfl rfl (by first | rfl | (simp only [List.map_toArray, List.map_cons, List.map_nil]; done) | (simp only [List.map_toArray, List.map_cons, List.map_nil]; rfl)) ?_
            with_reducible refine (step_is HST1.out _ (HS.out.below hB)).mono ?_
            rintro e w3 ⟨rfl, HB'⟩
            refine ⟨_, rfl, ?_⟩
            exact hK.out _ _ HB' rfl (fun h => absurd h (by decide))
          case cg242_11 =>
            refine G.core_obl (o := _) (N := some 44) rfl rfl ?_
            intro x a' ha w' hB hF K hK
            have s10 : x 10 = _ := hF 10 (by kernel_rfl)
            simp only [G.putAll, Act.put, List.setIfInBounds_toArray, List.set_cons_zero, List.set_cons_succ, Nat.reduceAdd, s10] at ha
            subst ha
            refine value_ (w1 := ?_) (v := ?_) (by rfl) rfl ?_ ?_
            rotate_left 2
            · go_simp
              constructor
              · rfl
              · rfl
            refine hK.out _ _ (Below.refl _ _) ?_ (fun h => absurd h (by decide))
            change _ = _
            with_reducible rfl
          case cg242_12 =>
            refine G.core_obl (o := _) (N := some 56) rfl rfl ?_
            intro x a' ha w' hB hF K hK
            have s11 : x 11 = _ := hF 11 (by kernel_rfl)
            simp only [G.putAll, Act.put, List.setIfInBounds_toArray, List.set_cons_zero, List.set_cons_succ, Nat.reduceAdd, s11] at ha
            subst ha
            refine value_ (w1 := ?_) (v := ?_) (by rfl) rfl ?_ ?_
            rotate_left 2
            · go_simp
              constructor
              · rfl
              · rfl
            refine hK.out _ _ (Below.refl _ _) ?_ (fun h => absurd h (by decide))
            change _ = _
            with_reducible rfl
          case cg242_13 =>
            refine G.float_obl (o := _) (N := some 57) rfl rfl ?_
            intro x a' ha w' hF K hK
            have s11 : x 11 = _ := hF 11 (by kernel_rfl)
            simp only [G.putAll, Act.put, List.setIfInBounds_toArray, List.set_cons_zero, List.set_cons_succ, Nat.reduceAdd, s11] at ha
            subst ha
            refine value_ (w1 := ?_) (v := ?_) (by rfl) rfl ?_ ?_
            rotate_left 2
            · go_simp
              constructor
              · rfl
              · rfl
            refine hK.out _ ?_
            change _ = _
            with_reducible rfl
          case hsg242_ => exact ⟨G.stays_eq _, G.stays_eq _, G.stays_eq _, G.stays_eq _, G.stays_eq _, G.stays_eq _, G.stays_eq _, G.stays_eq _, G.stays_eq _, G.stays_eq _, G.stays_eq _, G.stays_eq _, G.stays_eq _, G.stays_eq _, trivial⟩
          case hlg242_ => exact trivial
          case hpg242_ => exact ⟨fun v w h => h, fun v w h => h, fun v w h => h, fun v w h => h, fun v w h => h, fun v w h => h, fun v w h => h, fun v w h => h, fun v w h => h, fun v w h => h, fun v w h => h, fun v w h => h, fun v w h => h, fun v w h => h, trivial⟩
          intro x w' hB hF hD
          have s0 : x 0 = _ := hF 0 (by omega) (by kernel_rfl)
          have s1 : x 1 = _ := hF 1 (by omega) (by kernel_rfl)
          have s2 : x 2 = _ := hF 2 (by omega) (by kernel_rfl)
          have s3 : x 3 = _ := hF 3 (by omega) (by kernel_rfl)
          have s4 : x 4 = _ := hF 4 (by omega) (by kernel_rfl)
          have s5 : x 5 = _ := hF 5 (by omega) (by kernel_rfl)
          have s6 : x 6 = _ := hF 6 (by omega) (by kernel_rfl)
          have s7 : x 7 = _ := hF 7 (by omega) (by kernel_rfl)
          have s8 : x 8 = _ := hF 8 (by omega) (by kernel_rfl)
          have s9 : x 9 = _ := hF 9 (by omega) (by kernel_rfl)
          have s10 : x 10 = _ := hF 10 (by omega) (by kernel_rfl)
          have s11 : x 11 = _ := hF 11 (by omega) (by kernel_rfl)
          have s12 : x 12 = _ := hF 12 (by omega) (by kernel_rfl)
          clear hF hD
          replace BR := Aside0.mk (BR.out.below hB)
          replace BF := Aside0.mk (BF.out.below hB)
          replace BSN := Aside0.mk (BSN.out.below hB)
          replace BN := Aside0.mk (BN.out.below hB)
          replace BI := Aside0.mk (BI.out.below hB)
          replace BT := Aside0.mk (BT.out.below hB)
          replace BO := Aside0.mk (BO.out.below hB)
          replace HB := Aside0.mk (below_step HB.out hB)
          clear hB HS q0 q1 e0 e1 e2 e3
          refine G.tail_succF (i := 14) (o := _) (N := some 58) (by rfl) rfl rfl ?_
          intro z a' ha hz K hK
          simp (decide := true) only [G.putAll, Act.put, List.setIfInBounds_toArray, List.set_cons_zero, List.set_cons_succ, Nat.reduceAdd, G.upd, if_true, if_false, ↓reduceIte, G.mrg, Bool.and_true, Bool.and_false, decide_true, decide_false, Bool.false_eq_true, s0, s1, s2, s3, s4, s5, s6, s7, s8, s9, s10, s11, s12] at ha
          subst ha
          refine value_ (w1 := ?_) (v := ?_) (by rfl) rfl ?_ ?_
          rotate_left 2
          · go_simp
            constructor
            · rfl
            · rfl
          refine hK.out _ _ ?_
          clear hK K
          clear hz
          refine G.tail_succF (i := 15) (o := _) (N := none) (by rfl) rfl rfl ?_
          intro z a' ha hz K hK
          simp (decide := true) only [G.putAll, Act.put, List.setIfInBounds_toArray, List.set_cons_zero, List.set_cons_succ, Nat.reduceAdd, G.upd, if_true, if_false, ↓reduceIte, G.mrg, Bool.and_true, Bool.and_false, decide_true, decide_false, Bool.false_eq_true, s0, s1, s2, s3, s4, s5, s6, s7, s8, s9, s10, s11, s12] at ha
          subst ha
          have z0 := BT.out.c 2 (v := .int .i64 g1) rfl
          have z1 := BT.out.c 3 (v := .int .i64 h1) rfl
          have y0 := BT.out.fr 2
          have y1 := BT.out.fr 3
          refine skip_ (w1 := ?_) (by rfl) rfl ?_ ?_
          rotate_left
          · go_simp
            rfl
          refine hK.out undef _ ?_
          clear hK K
          clear hz
          clear z0 z1 y0 y1
          replace BR := Aside0.mk ((BR.out.far (show rb ≠ tb by omega) 2 (.int .i64 g1')).far (show rb ≠ tb by omega) 3 (.int .i64 h1'))
          replace BF := Aside0.mk ((BF.out.far (show fb ≠ tb by omega) 2 (.int .i64 g1')).far (show fb ≠ tb by omega) 3 (.int .i64 h1'))
          replace BSN := Aside0.mk ((BSN.out.far (show sb ≠ tb by omega) 2 (.int .i64 g1')).far (show sb ≠ tb by omega) 3 (.int .i64 h1'))
          replace BN := Aside0.mk ((BN.out.far (show nb ≠ tb by omega) 2 (.int .i64 g1')).far (show nb ≠ tb by omega) 3 (.int .i64 h1'))
          replace BI := Aside0.mk ((BI.out.far (show ib ≠ tb by omega) 2 (.int .i64 g1')).far (show ib ≠ tb by omega) 3 (.int .i64 h1'))
          replace BO := Aside0.mk ((BO.out.far (show ob ≠ tb by omega) 2 (.int .i64 g1')).far (show ob ≠ tb by omega) 3 (.int .i64 h1'))
          replace BT := Aside0.mk ((BT.out.put 2 (.int .i64 g1') rfl).put 3 (.int .i64 h1') (cs' := #[.int .i64 g0', .int .i64 h0', .int .i64 g1', .int .i64 h1']) rfl)
          replace HB := Aside0.mk (below_set0 (below_set0 HB.out (show w.heap.size ≤ tb by omega) 2 (.int .i64 g1')) (show w.heap.size ≤ tb by omega) 3 (.int .i64 h1'))
          generalize (World.setCell (World.setCell _ ⟨tb, 2, none⟩ (.int .i64 g1')) ⟨tb, 3, none⟩ (.int .i64 h1')) = W2 at *
          refine G.tail_succF (i := 16) (o := _) (N := none) (by rfl) rfl rfl ?_
          intro z a' ha hz K hK
          have sz13 : z 13 = _ := hz 13 (by kernel_rfl) (by omega)
          simp (decide := true) only [G.putAll, Act.put, List.setIfInBounds_toArray, List.set_cons_zero, List.set_cons_succ, Nat.reduceAdd, G.upd, if_true, if_false, ↓reduceIte, G.mrg, Bool.and_true, Bool.and_false, decide_true, decide_false, Bool.false_eq_true, s0, s1, s2, s3, s4, s5, s6, s7, s8, s9, s10, s11, s12, sz13] at ha
          subst ha
          have z0 := BO.out.c 0 (v := .bool false) rfl
          have z1 := BO.out.c 1 (v := .bool false) rfl
          have y0 := BO.out.fr 0
          have y1 := BO.out.fr 1
          refine skip_ (w1 := ?_) (by rfl) rfl ?_ ?_
          rotate_left
          · go_simp
            rfl
          refine hK.out undef _ ?_
          clear hK K
          clear hz
          clear z0 z1 y0 y1
          replace BR := Aside0.mk ((BR.out.far (show rb ≠ ob by omega) 0 (.bool n1)).far (show rb ≠ ob by omega) 1 (.bool p1))
          replace BF := Aside0.mk ((BF.out.far (show fb ≠ ob by omega) 0 (.bool n1)).far (show fb ≠ ob by omega) 1 (.bool p1))
          replace BSN := Aside0.mk ((BSN.out.far (show sb ≠ ob by omega) 0 (.bool n1)).far (show sb ≠ ob by omega) 1 (.bool p1))
          replace BN := Aside0.mk ((BN.out.far (show nb ≠ ob by omega) 0 (.bool n1)).far (show nb ≠ ob by omega) 1 (.bool p1))
          replace BI := Aside0.mk ((BI.out.far (show ib ≠ ob by omega) 0 (.bool n1)).far (show ib ≠ ob by omega) 1 (.bool p1))
          replace BT := Aside0.mk ((BT.out.far (show tb ≠ ob by omega) 0 (.bool n1)).far (show tb ≠ ob by omega) 1 (.bool p1))
          replace BO := Aside0.mk ((BO.out.put 0 (.bool n1) rfl).put 1 (.bool p1) (cs' := #[.bool n1, .bool p1]) rfl)
          replace HB := Aside0.mk (below_set0 (below_set0 HB.out (show w.heap.size ≤ ob by omega) 0 (.bool n1)) (show w.heap.size ≤ ob by omega) 1 (.bool p1))
          generalize (World.setCell (World.setCell _ ⟨ob, 0, none⟩ (.bool n1)) ⟨ob, 1, none⟩ (.bool p1)) = W3 at *
          clear sz13
          refine G.tail_zeroF ?_
          intro z a' ha hz
          have sz13 : z 13 = _ := hz 13 (by omega)
          simp (decide := true) only [G.putAll, Act.put, List.setIfInBounds_toArray, List.set_cons_zero, List.set_cons_succ, Nat.reduceAdd, G.upd, if_true, if_false, ↓reduceIte, G.mrg, Bool.and_true, Bool.and_false, decide_true, decide_false, Bool.false_eq_true, s0, s1, s2, s3, s4, s5, s6, s7, s8, s9, s10, s11, s12, sz13] at ha
          subst ha
          clear s0 s1 s2 s3 s4 s5 s6 s7 s8 s9 s10 s11 s12 hz sz13 x z
          have q0 := BO.out.c 0 (v := .bool n1) rfl
          have q1 := BN.out.c 1 (v := .bool false) rfl
          have q2 := BN.out.fr 1
          have q3 := (BO.out.far (show ob ≠ nb by omega) 1 (.bool n1)).c 1 (v := .bool p1) rfl
          have q4 := (BF.out.far (show fb ≠ nb by omega) 1 (.bool n1)).c 1 (v := .int .i64 f1) rfl
          have q5 := (BF.out.far (show fb ≠ nb by omega) 1 (.bool n1)).fr 1
          replace BR := Aside0.mk (BR.out.far (show rb ≠ nb by omega) 1 (.bool n1))
          replace BF := Aside0.mk (BF.out.far (show fb ≠ nb by omega) 1 (.bool n1))
          replace BSN := Aside0.mk (BSN.out.far (show sb ≠ nb by omega) 1 (.bool n1))
          replace BI := Aside0.mk (BI.out.far (show ib ≠ nb by omega) 1 (.bool n1))
          replace BT := Aside0.mk (BT.out.far (show tb ≠ nb by omega) 1 (.bool n1))
          replace BO := Aside0.mk (BO.out.far (show ob ≠ nb by omega) 1 (.bool n1))
          replace BN := Aside0.mk (BN.out.put 1 (.bool n1) (cs' := #[.bool n0, .bool n1]) rfl)
          replace HB := Aside0.mk (below_set0 HB.out (show w.heap.size ≤ nb by omega) 1 (.bool n1))
          cases p1 with
          | false =>
            obtain rfl : f1' = f1 := HF1.out
            have hnl := Aside0.mk BN.out.lt
            go_wp2_with fail
            go_roundw
            case rel => exact ⟨2, by omega, by go_num, g0', h0', g1', h1', f0', f1', n0, n1, r0, v0, Aside0.mk (.inr (.inr ⟨rfl, rfl, rfl, rfl, rfl, rfl, rfl, rfl, rfl⟩)), BR, BF, BT, BSN, BI, BN, hnl, HB⟩
            case measure => simp [intOf]
          | true =>
            by_cases hf : f1 < 0
            · have t4 : decide (f1 < 0) = true := by simpa using hf
              have hfe : f1' = (k : Int) := by rw [HF1.out]; unfold firstI; rw [if_pos ⟨rfl, hf⟩]
              replace BR := Aside0.mk (BR.out.far (show rb ≠ fb by omega) 1 (.int .i64 (k : Int)))
              replace BSN := Aside0.mk (BSN.out.far (show sb ≠ fb by omega) 1 (.int .i64 (k : Int)))
              replace BI := Aside0.mk (BI.out.far (show ib ≠ fb by omega) 1 (.int .i64 (k : Int)))
              replace BT := Aside0.mk (BT.out.far (show tb ≠ fb by omega) 1 (.int .i64 (k : Int)))
              replace BO := Aside0.mk (BO.out.far (show ob ≠ fb by omega) 1 (.int .i64 (k : Int)))
              replace BN := Aside0.mk (BN.out.far (show nb ≠ fb by omega) 1 (.int .i64 (k : Int)))
              replace BF := Aside0.mk (BF.out.put 1 (.int .i64 (k : Int)) (cs' := #[.int .i64 f0', .int .i64 f1']) (by rw [hfe]; rfl))
              replace HB := Aside0.mk (below_set0 HB.out (show w.heap.size ≤ fb by omega) 1 (.int .i64 (k : Int)))
              clear hfe
              have hnl := Aside0.mk BN.out.lt
              go_wp2_with fail
              go_roundw
              case rel => exact ⟨2, by omega, by go_num, g0', h0', g1', h1', f0', f1', n0, n1, r0, v0, Aside0.mk (.inr (.inr ⟨rfl, rfl, rfl, rfl, rfl, rfl, rfl, rfl, rfl⟩)), BR, BF, BT, BSN, BI, BN, hnl, HB⟩
              case measure => simp [intOf]
            · have t4 : decide (f1 < 0) = false := by simpa using hf
              obtain rfl : f1' = f1 := by rw [HF1.out]; unfold firstI; rw [if_neg (fun h => hf h.2)]
              have hnl := Aside0.mk BN.out.lt
              go_wp2_with fail
              go_roundw
              case rel => exact ⟨2, by omega, by go_num, g0', h0', g1', h1', f0', f1', n0, n1, r0, v0, Aside0.mk (.inr (.inr ⟨rfl, rfl, rfl, rfl, rfl, rfl, rfl, rfl, rfl⟩)), BR, BF, BT, BSN, BI, BN, hnl, HB⟩
              case measure => simp [intOf]
        · clear HM
          have q0 := BN.out.c 0 (v := .bool n0) rfl
          have q1 := BN.out.c 1 (v := .bool n1) rfl
          have q2 := BSN.out.c 0 (v := .bool v0) rfl
          have q3 := BSN.out.c 1 (v := .bool v1) rfl
          have q4 := BSN.out.fr 0
          have q5 := BSN.out.fr 1
          have t3 : decide (((2 : Nat) : Int) < 2) = false := by decide
          replace BR := Aside0.mk ((BR.out.far (show rb ≠ sb by omega) 0 (.bool n0)).far (show rb ≠ sb by omega) 1 (.bool n1))
          replace BF := Aside0.mk ((BF.out.far (show fb ≠ sb by omega) 0 (.bool n0)).far (show fb ≠ sb by omega) 1 (.bool n1))
          replace BT := Aside0.mk ((BT.out.far (show tb ≠ sb by omega) 0 (.bool n0)).far (show tb ≠ sb by omega) 1 (.bool n1))
          replace BSN := Aside0.mk ((BSN.out.put 0 (.bool n0) rfl).put 1 (.bool n1) (cs' := #[.bool n0, .bool n1]) rfl)
          replace HB := Aside0.mk (below_set0 (below_set0 HB.out (show w.heap.size ≤ sb by omega) 0 (.bool n0)) (show w.heap.size ≤ sb by omega) 1 (.bool n1))
          go_wp2_with fail
          go_roundw
          case rel => exact ⟨k + 1, by omega, by go_num, g0', h0', g1', h1', f0', f1', n0, n1, HX', BR, BF, BT, BSN, HB⟩
          case measure => simp [intOf]; omega
    · obtain rfl : k = n := by omega
      have t1 : decide ((k : Int) < (k : Int)) = false := by simp
      have e0 : (stN s wait guard Fa Fb k).f0 = f0 := by rw [HX.out]
      have e1 : (stN s wait guard Fa Fb k).f1 = f1 := by rw [HX.out]
      have q0 := BF.out.c 0 (v := .int .i64 f0) rfl
      have q1 := BF.out.c 1 (v := .int .i64 f1) rfl
      have q2 := BR.out.c 0 (v := .int .i64 0) rfl
      have q3 := BR.out.c 1 (v := .int .i64 0) rfl
      have q4 := BR.out.fr 0
      have q5 := BR.out.fr 1
      replace BR := Aside0.mk ((BR.out.put 0 (.int .i64 f0) rfl).put 1 (.int .i64 f1) (cs' := #[.int .i64 f0, .int .i64 f1]) rfl)
      replace HB := Aside0.mk (below_set0 (below_set0 HB.out hrb0 0 (.int .i64 f0)) hrb0 1 (.int .i64 f1))
      go_wp2_with fail
      refine bodyPost_ret (v := .agg #[.int .i64 f0, .int .i64 f1]) ?_ rfl ⟨by rw [e0, e1], HB.out⟩
      have z0 := BR.out.c 0 (v := .int .i64 f0) rfl
      have z1 := BR.out.c 1 (v := .int .i64 f1) rfl
      simp [results, Tryd.results14, go_sem, z0, z1]
end Go.Proofs.YthnbokmnplipkaaDoor.A
