import Derived.Test.YtbbopomecanaoaaDoorBC5
/- The texts that the law's proof stands on, merged and pruned by program. No condition. -/
namespace Go.Proofs.YtbbopomecanaoaaDoor.A
open Go.RowKit Go.Proofs.YtbbopomecanaoaaDoorW.PrintWords Go.Proofs.YtbbopomecanaoaaDoorW.PrintLast Go.Proofs.YtbbopomecanaoaaDoorW.PrintMore Go.Proofs.YtbbopomecanaoaaDoor.XK
open Go.Proofs.YtbbopomecanaoaaDoor
set_option linter.unusedVariables false
set_option linter.unusedSimpArgs false
theorem w64 {n : Int} (h0 : -9223372036854775808 ≤ n) (h1 : n ≤ 9223372036854775807) : wrap64 n = n := by unfold wrap64; omega
theorem lift {α : Type} {f : Nat → Option α} (h : ∀ k, LeO (f k) (f (k + 1))) {k : Nat} {r : α} (hr : f k = some r) : ∀ n, f (k + n) = some r
  | 0 => hr
  | n + 1 => h (k + n) r (lift h hr n)
theorem lift_le {α : Type} {f : Nat → Option α} (h : ∀ k, LeO (f k) (f (k + 1))) {k k' : Nat} {r : α} (hr : f k = some r) (hk : k ≤ k') : f k' = some r := by
  have := lift h hr (k' - k)
  rwa [Nat.add_sub_cancel' hk] at this
theorem pre_len {α : Type} (pre : List α) (y : α) : (((pre ++ [y]).length : Nat) : Int) = (pre.length : Int) + 1 := by simp
theorem rd_pre (pre ys : List E) (y : E) : rd_T24 (pre ++ y :: ys) (pre.length : Int) = y := by unfold rd_T24; simp
mutual
def szE : E → Nat
  | ⟨_, _, _, ks⟩ => 1 + szL ks
def szL : List E → Nat
  | [] => 0
  | y :: ys => szE y + szL ys
end
mutual
def dpE : E → Nat
  | ⟨_, _, _, ks⟩ => dpL ks + 1
def dpL : List E → Nat
  | [] => 0
  | y :: ys => max (dpE y) (dpL ys)
end
mutual
def bE : E → Bool
  | ⟨o, n, s, ks⟩ => nodeB ⟨o, n, s, ks⟩ && bL ks
def bL : List E → Bool
  | [] => true
  | y :: ys => bE y && bL ys
end
theorem szE_eq (x : E) : szE x = 1 + szL x.f3 := by cases x; rw [szE]
theorem dpE_eq (x : E) : dpE x = dpL x.f3 + 1 := by cases x; rw [dpE]
theorem bE_eq (x : E) : bE x = (nodeB x && bL x.f3) := by cases x; rw [bE]
theorem szE_mem {y : E} : ∀ {l : List E}, y ∈ l → szE y ≤ szL l
  | z :: zs, h => by
    rw [szL]
    rcases List.mem_cons.mp h with rfl | h
    · omega
    · have := szE_mem h; omega
theorem bE_mem {y : E} : ∀ {l : List E}, bL l = true → y ∈ l → bE y = true
  | z :: zs, hb, h => by
    rw [bL, Bool.and_eq_true] at hb
    rcases List.mem_cons.mp h with rfl | h
    · exact hb.1
    · exact bE_mem hb.2 h
theorem validL_is (D : Int) (f : E → Int → Bool × Int) (hf : ∀ y n, 0 ≤ n → n ≤ 60 → ((f y n).1 = true ↔ n + szE y ≤ 60 ∧ D + dpE y ≤ 17 ∧ bE y = true) ∧ ((f y n).1 = true → (f y n).2 = n + szE y)) (hD : D ≤ 17) :
    ∀ (xs : List E) (n : Int), 0 ≤ n → n ≤ 60 → ((validL f xs n).1 = true ↔ n + szL xs ≤ 60 ∧ D + dpL xs ≤ 17 ∧ bL xs = true) ∧ ((validL f xs n).1 = true → (validL f xs n).2 = n + szL xs)
  | [], n, h0, h1 => by
    rw [validL, szL, dpL, bL]
    exact ⟨⟨fun _ => ⟨by omega, by omega, rfl⟩, fun _ => rfl⟩, fun _ => by simp⟩
  | y :: ys, n, h0, h1 => by
    obtain ⟨h2, h3⟩ := hf y n h0 h1
    rw [validL, szL, dpL, bL]
    split
    · rename_i ht
      obtain ⟨h4, h5, h6⟩ := h2.mp ht
      have e := h3 ht
      obtain ⟨h7, h8⟩ := validL_is D f hf hD ys (f y n).2 (by omega) (by omega)
      refine ⟨⟨fun h => ?_, fun h => h7.mpr ?_⟩, fun h => ?_⟩
      · obtain ⟨a, b, c⟩ := h7.mp h
        exact ⟨by omega, by omega, by rw [h6, c]; rfl⟩
      · obtain ⟨a, b, c⟩ := h
        rw [Bool.and_eq_true] at c
        exact ⟨by omega, by omega, c.2⟩
      · have := h8 h
        omega
    · rename_i ht
      refine ⟨⟨fun h => (by cases h), fun h => absurd (h2.mpr ?_) ht⟩, fun h => (by cases h)⟩
      obtain ⟨a, b, c⟩ := h
      rw [Bool.and_eq_true] at c
      exact ⟨by omega, by omega, c.1⟩
theorem validF_is : ∀ (k : Nat) (d : Int) (x : E) (n : Int), d + k = 17 → 0 ≤ n → n ≤ 60 → ((validF k d x n).1 = true ↔ n + szE x ≤ 60 ∧ d + dpE x ≤ 17 ∧ bE x = true) ∧ ((validF k d x n).1 = true → (validF k d x n).2 = n + szE x)
  | 0, d, x, n, hd, h0, h1 => by
    rw [validF]
    refine ⟨⟨fun h => (by cases h), fun h => ?_⟩, fun h => (by cases h)⟩
    have := dpE_eq x
    omega
  | k + 1, d, x, n, hd, h0, h1 => by
    rw [validF, szE_eq, dpE_eq, bE_eq]
    by_cases hc : 60 < n + 1 ∨ 16 < d ∨ nodeB x = false
    · rw [if_pos hc]
      refine ⟨⟨fun h => (by cases h), fun h => ?_⟩, fun h => (by cases h)⟩
      obtain ⟨a, b, c⟩ := h
      rw [Bool.and_eq_true] at c
      rcases hc with hc | hc | hc
      · omega
      · omega
      · rw [hc] at c; exact absurd c.1 (by decide)
    · rw [if_neg hc]
      have hn : nodeB x = true := by
        cases hb : nodeB x with
        | true => rfl
        | false => exact absurd (Or.inr (Or.inr hb)) hc
      have h3 : n + 1 ≤ 60 := by
        cases Int.lt_or_le 60 (n + 1) with
        | inl h2 => exact absurd (Or.inl h2) hc
        | inr h2 => exact h2
      obtain ⟨h4, h5⟩ := validL_is (d + 1) (validF k (d + 1)) (fun y m => validF_is k (d + 1) y m (by omega)) (by omega) x.f3 (n + 1) (by omega) h3
      refine ⟨⟨fun h => ?_, fun h => h4.mpr ?_⟩, fun h => ?_⟩
      · obtain ⟨a, b, c⟩ := h4.mp h
        exact ⟨by omega, by omega, by rw [hn, c]; rfl⟩
      · obtain ⟨a, b, c⟩ := h
        rw [Bool.and_eq_true] at c
        exact ⟨by omega, by omega, c.2⟩
      · have := h5 h
        omega
theorem validB_is (x : E) : validB x = true ↔ szE x ≤ 60 ∧ dpE x ≤ 16 ∧ bE x = true := by
  have h := (validF_is 16 1 x 0 (by decide) (by decide) (by decide)).1
  unfold validB
  rw [h]
  constructor
  · rintro ⟨a, b, c⟩; exact ⟨by omega, by omega, c⟩
  · rintro ⟨a, b, c⟩; exact ⟨by omega, by omega, c⟩
theorem mx_nat (a b : Nat) : mx (a : Int) (b : Int) = ((max a b : Nat) : Int) := by
  unfold mx
  split <;> omega
theorem dep_loop (L : List E) (hl : L.length ≤ 1000) (hf : ∀ y ∈ L, ∃ k, substationref26_Depth.f k y.f0 y.f1 y.f2 y.f3 = some (dpE y : Int)) :
    ∀ (rest pre : List E) (m : Nat), pre ++ rest = L → ∃ k, substationref26_Depth.l0 k (m : Int) L (L.length : Int) (pre.length : Int) = some (wrap64 (((max m (dpL rest) : Nat) : Int) + 1))
  | [], pre, m, e => ⟨1, by
    rw [substationref26_Depth.l0, if_neg (by rw [← e]; simp), dpL, Nat.max_zero]⟩
  | y :: ys, pre, m, e => by
    obtain ⟨k1, h1⟩ := hf y (by rw [← e]; simp)
    obtain ⟨k2, h2⟩ := dep_loop L hl hf ys (pre ++ [y]) (max m (dpE y)) (by rw [← e]; simp)
    have hlen : (pre.length : Int) < (L.length : Int) := by rw [← e]; simp; omega
    refine ⟨max k1 k2 + 1, ?_⟩
    have e1 : rd_T24 L (pre.length : Int) = y := by rw [← e]; exact rd_pre pre ys y
    rw [substationref26_Depth.l0, if_pos hlen, if_pos (by omega), if_pos hlen, e1, lift_le (f := fun k => substationref26_Depth.f k y.f0 y.f1 y.f2 y.f3) (fun k => substationref26_Depth.mono _ _ _ _ k) h1 (Nat.le_max_left _ _), Option.bind_some, mx_nat, w64 (by omega) (by omega), ← pre_len pre y,
      lift_le (f := fun k => substationref26_Depth.l0 k ((max m (dpE y) : Nat) : Int) L (L.length : Int) (((pre ++ [y]).length : Nat) : Int)) (fun k => (substationref26_Depth.mono_l k).2 _ _ _ _) h2 (Nat.le_max_right _ _), dpL, Nat.max_assoc]
theorem size_loop (L : List E) (hl : L.length ≤ 1000) (hs : szL L ≤ 1000000) (hf : ∀ y ∈ L, ∃ k, substationref26_Size.f k y.f0 y.f1 y.f2 y.f3 = some (szE y : Int)) :
    ∀ (rest pre : List E) (m : Nat), pre ++ rest = L → m + szL rest ≤ 1000001 → ∃ k, substationref26_Size.l0 k (m : Int) L (L.length : Int) (pre.length : Int) = some ((m + szL rest : Nat) : Int)
  | [], pre, m, e, hm => ⟨1, by
    rw [substationref26_Size.l0, if_neg (by rw [← e]; simp), szL, Nat.add_zero]⟩
  | y :: ys, pre, m, e, hm => by
    rw [szL] at hm
    obtain ⟨k1, h1⟩ := hf y (by rw [← e]; simp)
    obtain ⟨k2, h2⟩ := size_loop L hl hs hf ys (pre ++ [y]) (m + szE y) (by rw [← e]; simp) (by omega)
    have hlen : (pre.length : Int) < (L.length : Int) := by rw [← e]; simp; omega
    refine ⟨max k1 k2 + 1, ?_⟩
    have e1 : rd_T24 L (pre.length : Int) = y := by rw [← e]; exact rd_pre pre ys y
    have e2 : wrap64 ((m : Int) + (szE y : Int)) = ((m + szE y : Nat) : Int) := by rw [w64 (by omega) (by omega)]; rfl
    rw [substationref26_Size.l0, if_pos hlen, if_pos (by omega), if_pos hlen, e1, lift_le (f := fun k => substationref26_Size.f k y.f0 y.f1 y.f2 y.f3) (fun k => substationref26_Size.mono _ _ _ _ k) h1 (Nat.le_max_left _ _), Option.bind_some, e2, w64 (by omega) (by omega), ← pre_len pre y,
      lift_le (f := fun k => substationref26_Size.l0 k ((m + szE y : Nat) : Int) L (L.length : Int) (((pre ++ [y]).length : Nat) : Int)) (fun k => (substationref26_Size.mono_l k).2 _ _ _ _) h2 (Nat.le_max_right _ _), szL, Nat.add_assoc]
def smF : Nat → E → Bool
  | 0, _ => false
  | k + 1, x => decide (x.f3.length ≤ 4) && decide (x.f2.size ≤ 60) && x.f3.all (smF k) && decide (szE x ≤ 200)
theorem smF_succ {k : Nat} {x : E} (h : smF (k + 1) x = true) : x.f3.length ≤ 4 ∧ x.f2.size ≤ 60 ∧ (∀ y ∈ x.f3, smF k y = true) ∧ szE x ≤ 200 := by
  rw [smF] at h
  simp only [Bool.and_eq_true, decide_eq_true_eq, List.all_eq_true] at h
  exact ⟨h.1.1.1, h.1.1.2, h.1.2, h.2⟩
theorem smF_dp : ∀ (k : Nat) (x : E), smF k x = true → dpE x ≤ k
  | 0, x, h => by cases h
  | k + 1, x, h => by
    obtain ⟨-, -, h3, -⟩ := smF_succ h
    rw [dpE_eq]
    have : ∀ l : List E, (∀ y ∈ l, smF k y = true) → dpL l ≤ k := by
      intro l
      induction l with
      | nil => intro _; rw [dpL]; omega
      | cons y ys ih =>
        intro hl
        rw [dpL]
        have h1 := smF_dp k y (hl y (by simp))
        have h2 := ih (fun z hz => hl z (by simp [hz]))
        omega
    have := this _ h3
    omega
theorem small_size : ∀ (k : Nat) (x : E), smF k x = true → ∃ n, substationref26_Size.f n x.f0 x.f1 x.f2 x.f3 = some (szE x : Int)
  | 0, x, h => by cases h
  | k + 1, x, h => by
    obtain ⟨h1, h2, h3, h4⟩ := smF_succ h
    rw [szE_eq] at h4
    obtain ⟨n, hn⟩ := size_loop x.f3 (by omega) (by omega) (fun y hy => small_size k y (h3 y hy)) x.f3 [] 1 rfl (by omega)
    refine ⟨n + 1, ?_⟩
    rw [substationref26_Size.f, szE_eq]
    exact hn
theorem small_depth : ∀ (k : Nat) (x : E), k ≤ 1000 → smF k x = true → ∃ n, substationref26_Depth.f n x.f0 x.f1 x.f2 x.f3 = some (dpE x : Int)
  | 0, x, _, h => by cases h
  | k + 1, x, hk, h => by
    obtain ⟨h1, h2, h3, h4⟩ := smF_succ h
    have hd := smF_dp _ _ h
    rw [dpE_eq] at hd
    obtain ⟨n, hn⟩ := dep_loop x.f3 (by omega) (fun y hy => small_depth k y (by omega) (h3 y hy)) x.f3 [] 0 rfl
    refine ⟨n + 1, ?_⟩
    rw [substationref26_Depth.f, dpE_eq]
    rw [Nat.zero_max, w64 (by omega) (by omega)] at hn
    exact hn
theorem small_loop (x : E) (k : Nat) (d : Int) (hd0 : 0 ≤ d) (hd1 : d ≤ 100) (hl : x.f3.length ≤ 4) (hf : ∀ y ∈ x.f3, ∃ n, substationlaw26_small.f n y.f0 y.f1 y.f2 y.f3 (d + 1) = some (smF k y))
    (hz : (∀ y ∈ x.f3, smF k y = true) → ∃ n, substationref26_Size.f n x.f0 x.f1 x.f2 x.f3 = some (szE x : Int)) :
    ∀ (rest pre : List E), pre ++ rest = x.f3 → (∀ y ∈ pre, smF k y = true) → ∃ n, substationlaw26_small.l0 n d x.f3 (x.f3.length : Int) (pre.length : Int) x.f0 x.f1 x.f2 x.f3 = some (rest.all (smF k) && decide (szE x ≤ 200))
  | [], pre, e, hp => by
    rw [List.append_nil] at e
    obtain ⟨n, hn⟩ := hz (by rw [← e]; exact hp)
    refine ⟨n + 1, ?_⟩
    rw [substationlaw26_small.l0, if_neg (by rw [← e]; simp), hn, Option.bind_some]
    simp
    omega
  | y :: ys, pre, e, hp => by
    obtain ⟨k1, h1⟩ := hf y (by rw [← e]; simp)
    have hlen : (pre.length : Int) < (x.f3.length : Int) := by rw [← e]; simp; omega
    have e1 : rd_T24 x.f3 (pre.length : Int) = y := by rw [← e]; exact rd_pre pre ys y
    cases hy : smF k y with
    | false =>
      refine ⟨k1 + 1, ?_⟩
      rw [substationlaw26_small.l0, if_pos hlen, if_pos (by omega), if_pos hlen, e1, w64 (n := d + 1) (by omega) (by omega), h1, Option.bind_some, hy, if_neg (by decide), List.all_cons, hy]
      rfl
    | true =>
      obtain ⟨k2, h2⟩ := small_loop x k d hd0 hd1 hl hf hz ys (pre ++ [y]) (by rw [← e]; simp) (by
        intro z hz'
        rcases List.mem_append.mp hz' with h | h
        · exact hp z h
        · rw [List.mem_singleton.mp h]; exact hy)
      refine ⟨max k1 k2 + 1, ?_⟩
      rw [substationlaw26_small.l0, if_pos hlen, if_pos (by omega), if_pos hlen, e1, w64 (n := d + 1) (by omega) (by omega), lift_le (f := fun k => substationlaw26_small.f k y.f0 y.f1 y.f2 y.f3 (d + 1)) (fun k => substationlaw26_small.mono _ _ _ _ _ k) h1 (Nat.le_max_left _ _), Option.bind_some, hy, if_pos rfl, w64 (by omega) (by omega), ← pre_len pre y,
        lift_le (f := fun k => substationlaw26_small.l0 k d x.f3 (x.f3.length : Int) (((pre ++ [y]).length : Nat) : Int) x.f0 x.f1 x.f2 x.f3) (fun k => (substationlaw26_small.mono_l k).2.2 _ _ _ _ _ _ _ _) h2 (Nat.le_max_right _ _), List.all_cons, hy, Bool.true_and]
theorem small_f : ∀ (k : Nat) (x : E) (d : Int), d + k = 31 → 0 ≤ d → ∃ n, substationlaw26_small.f n x.f0 x.f1 x.f2 x.f3 d = some (smF k x)
  | 0, x, d, hd, h0 => ⟨2, by
    rw [substationlaw26_small.f, if_pos (by omega), substationlaw26_small.j0, if_pos rfl]; rfl⟩
  | k + 1, x, d, hd, h0 => by
    by_cases h1 : (x.f3.length : Int) > 4
    · refine ⟨2, ?_⟩
      rw [substationlaw26_small.f, if_neg (by omega), if_pos h1, substationlaw26_small.j0, if_pos rfl, smF, decide_eq_false (by omega)]
      rfl
    by_cases h2 : (x.f2.size : Int) > 60
    · refine ⟨2, ?_⟩
      rw [substationlaw26_small.f, if_neg (by omega), if_neg h1, substationlaw26_small.j0, if_pos (decide_eq_true h2), smF, decide_eq_false (p := x.f2.size ≤ 60) (by omega)]
      simp
    obtain ⟨n, hn⟩ := small_loop x k d h0 (by omega) (by omega) (fun y hy => small_f k y (d + 1) (by omega) (by omega)) (by
      intro h
      have hz : ∀ (l : List E), l.length ≤ 4 → (∀ y ∈ l, smF k y = true) → szL l ≤ 200 * l.length := by
        intro l
        induction l with
        | nil => intro _ _; rw [szL]; simp
        | cons y ys ih =>
          intro hl hy
          rw [szL]
          have h5 := hy y (by simp)
          have h6 := ih (by simp at hl; omega) (fun z hz => hy z (by simp [hz]))
          have h7 : szE y ≤ 200 := by
            cases k with
            | zero => cases h5
            | succ k => exact (smF_succ h5).2.2.2
          simp at hl ⊢
          omega
      have h8 := hz x.f3 (by omega) h
      obtain ⟨n, hn⟩ := size_loop x.f3 (by omega) (by omega) (fun y hy => small_size k y (h y hy)) x.f3 [] 1 rfl (by omega)
      exact ⟨n + 1, by rw [substationref26_Size.f, szE_eq]; exact hn⟩) x.f3 [] rfl (by simp)
    refine ⟨n + 2, ?_⟩
    rw [substationlaw26_small.f, if_neg (by omega), if_neg h1, substationlaw26_small.j0, decide_eq_false h2, if_neg (by decide), smF, decide_eq_true (show x.f3.length ≤ 4 by omega), decide_eq_true (show x.f2.size ≤ 60 by omega), Bool.true_and, Bool.true_and]
    exact hn
end Go.Proofs.YtbbopomecanaoaaDoor.A
