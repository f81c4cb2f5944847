import Derived.Test.YthnbokmnplipkaaDoorD
import Derived.Test.YthnbokmnplipkaaDoorQ
/- The reference's Valid and Step are the program's. No condition. -/
namespace Go.Proofs.YthnbokmnplipkaaDoor.A
open Go.RowKit Go.Proofs.YthnbokmnplipkaaDoorW.PrintWords Go.Proofs.YthnbokmnplipkaaDoorW.PrintLast Go.Proofs.YthnbokmnplipkaaDoorW.PrintMore
open Go.Proofs.YthnbokmnplipkaaDoor.PTeleprotectionSteps
open Go.Proofs.YthnbokmnplipkaaDoor
set_option linter.unusedVariables false
set_option linter.unusedSimpArgs false

theorem validB_iff (s wait guard g h : Int) : validB s wait guard g h = true ↔ 0 ≤ s ∧ s ≤ 3 ∧ ((s = 3 ∧ 1 ≤ wait ∧ wait ≤ 50) ∨ (s ≠ 3 ∧ wait = 0)) ∧ 0 ≤ guard ∧ ((s = 0 ∧ guard = 0) ∨ (s ≠ 0 ∧ guard ≤ 50)) ∧ 0 ≤ g ∧ ((s = 0 ∧ g = 0) ∨ (s ≠ 0 ∧ g ≤ guard + 1)) ∧ 0 ≤ h ∧ ((s = 3 ∧ h ≤ wait + 1) ∨ (s ≠ 3 ∧ h = 0)) := by
  unfold validB usableB leastW mostW mostG mxG mxH
  simp only [Bool.and_eq_true, decide_eq_true_eq]
  by_cases h0 : s = 0
  · subst h0; simp; omega
  · by_cases h3 : s = 3
    · subst h3; simp; omega
    · simp only [if_neg h0, if_neg h3]; omega
theorem nest (g X h Y : Int) : (if g ≥ 0 then (if g ≤ X then (if h ≥ 0 then some (decide (h ≤ Y)) else some false) else some false) else some false) = some (decide (0 ≤ g) && decide (g ≤ X) && (decide (0 ≤ h) && decide (h ≤ Y))) := by
  by_cases h1 : 0 ≤ g
  · by_cases h2 : g ≤ X
    · by_cases h3 : 0 ≤ h
      · simp [h1, h2, h3]
      · simp [h1, h2, h3]
    · simp [h1, h2]
  · simp [h1]
theorem j1_true (k : Nat) (s wait guard g h : Int) : substationref29_ValidTele.j1 (k + 1) s wait guard true g h = some false := by
  rw [substationref29_ValidTele.j1, if_pos rfl]
theorem j0_true (k : Nat) (s wait guard g h : Int) : substationref29_ValidTele.j0 (k + 1) s wait guard true g h = some false := by
  rw [substationref29_ValidTele.j0, if_pos rfl]
theorem j1_false (k : Nat) (s wait guard g h : Int) (hw : 0 ≤ wait ∧ wait ≤ 50) (hg : 0 ≤ guard ∧ guard ≤ 50) :
    substationref29_ValidTele.j1 (k + 1) s wait guard false g h = some (decide (0 ≤ g) && decide (g ≤ mxG s guard) && (decide (0 ≤ h) && decide (h ≤ mxH s wait))) := by
  rw [substationref29_ValidTele.j1, if_neg (by decide), w64 (n := wait + 1) (by omega) (by omega), w64 (n := guard + 1) (by omega) (by omega), nest, nest, nest, nest]
  unfold mxG mxH
  by_cases h0 : s = 0
  · rw [if_pos h0, if_pos h0]
    by_cases h3 : s = 3
    · rw [if_pos h3, if_pos h3]
    · rw [if_neg h3, if_neg h3]
  · rw [if_neg h0, if_neg h0]
    by_cases h3 : s = 3
    · rw [if_pos h3, if_pos h3]
    · rw [if_neg h3, if_neg h3]
theorem rvalid_f (k : Nat) (s wait guard g h : Int) : substationref29_ValidTele.f (k + 2) s wait guard g h = some (validB s wait guard g h) := by
  have hv := validB_iff s wait guard g h
  have hF : ¬ (0 ≤ s ∧ s ≤ 3 ∧ ((s = 3 ∧ 1 ≤ wait ∧ wait ≤ 50) ∨ (s ≠ 3 ∧ wait = 0)) ∧ 0 ≤ guard ∧ ((s = 0 ∧ guard = 0) ∨ (s ≠ 0 ∧ guard ≤ 50))) → validB s wait guard g h = false := fun hn => by
    cases hb : validB s wait guard g h
    · rfl
    · have := hv.1 hb
      exact absurd ⟨this.1, this.2.1, this.2.2.1, this.2.2.2.1, this.2.2.2.2.1⟩ hn
  unfold substationref29_ValidTele.f
  simp only [j0_true]
  by_cases h1 : s < 0
  · rw [if_pos h1, hF (by omega)]
  · rw [if_neg h1]
    by_cases h2 : s > 3
    · rw [if_pos h2, hF (by omega)]
    · rw [if_neg h2]
      by_cases h3 : guard < 0
      · rw [if_pos h3, hF (by omega)]
      · rw [if_neg h3]
        by_cases h4 : guard > 50
        · rw [if_pos h4, hF (by omega)]
        · rw [if_neg h4]
          by_cases h5 : wait < 0
          · rw [if_pos h5, hF (by omega)]
          · rw [if_neg h5]
            by_cases h6 : wait > 50
            · rw [decide_eq_true h6, j0_true, hF (by omega)]
            · rw [decide_eq_false h6, substationref29_ValidTele.j0, if_neg (by decide)]
              by_cases h7 : ((s == 3) != decide (wait > 0)) = true
              · rw [if_pos h7, j1_true, hF]
                by_cases h3' : s = 3
                · rw [show (s == 3) = true by simpa using h3'] at h7
                  by_cases hw : wait > 0
                  · rw [decide_eq_true hw] at h7; cases h7
                  · omega
                · rw [show (s == 3) = false by simpa using h3'] at h7
                  by_cases hw : wait > 0
                  · omega
                  · rw [decide_eq_false hw] at h7; cases h7
              · rw [if_neg h7]
                have hw3 : (s = 3 ∧ 1 ≤ wait ∧ wait ≤ 50) ∨ (s ≠ 3 ∧ wait = 0) := by
                  by_cases h3' : s = 3
                  · rw [show (s == 3) = true by simpa using h3'] at h7
                    by_cases hw : wait > 0
                    · omega
                    · rw [decide_eq_false hw] at h7; exact absurd rfl h7
                  · rw [show (s == 3) = false by simpa using h3'] at h7
                    by_cases hw : wait > 0
                    · rw [decide_eq_true hw] at h7; exact absurd rfl h7
                    · omega
                have hu : ((s = 0 ∧ guard = 0) ∨ (s ≠ 0 ∧ guard ≤ 50)) → usableB s wait guard = true := fun hg => by
                  unfold usableB leastW mostW mostG
                  simp only [Bool.and_eq_true, decide_eq_true_eq]
                  by_cases h0' : s = 0
                  · subst h0'; simp; omega
                  · by_cases h3' : s = 3
                    · subst h3'; simp; omega
                    · simp only [if_neg h0', if_neg h3']; omega
                by_cases h0' : s = 0
                · rw [if_pos h0']
                  by_cases hg : guard = 0
                  · rw [show (guard != 0) = false by simp [hg], j1_false _ _ _ _ _ _ (by omega) (by omega)]
                    unfold validB
                    rw [hu (by omega), Bool.true_and]
                  · rw [show (guard != 0) = true by simp [hg], j1_true, hF (by omega)]
                · rw [if_neg h0', j1_false _ _ _ _ _ _ (by omega) (by omega)]
                  unfold validB
                  rw [hu (by omega), Bool.true_and]
theorem gN_nonneg {guard g : Int} (rv : Bool) (hg : 0 ≤ guard) : 0 ≤ gN rv guard g := by
  unfold gN
  split
  · omega
  · split <;> omega
theorem rtele_f (k : Nat) (s wait guard g h : Int) (z1 z2 rv rc : Bool) : substationref29_Tele.f (k + 2) s wait guard g h z1 z2 rv rc = some (stepV s wait guard g h z1 z2 rv rc) := by
  unfold substationref29_Tele.f
  rw [rvalid_f, Option.bind_some]
  by_cases hv : validB s wait guard g h = true
  · obtain ⟨hs, hw0, hw1, hd0, hd1, hg0, hg1, hh0, hh1⟩ := valid_bd hv
    rw [if_pos hv, substationref29_Tele.j0]
    by_cases h0 : s = 0
    · rw [show (s == 0) = true by simpa using h0, if_pos rfl]
      unfold stepV
      rw [if_neg (fun h => h.2 h0)]
    · rw [show (s == 0) = false by simpa using h0, if_neg (by decide)]
      have key : ∀ g', 0 ≤ g' → g' = gN rv guard g → substationref29_Tele.j1 (k + 1) s wait z1 z2 rc g' h = some (stepV s wait guard g h z1 z2 rv rc) := by
        intro g' hp he
        unfold stepV
        rw [if_pos ⟨hv, h0⟩, ← he, substationref29_Tele.j1]
        have e0 : (g' == 0) = !decide (0 < g') := by
          by_cases hz : g' = 0
          · subst hz; rfl
          · rw [decide_eq_true (by omega)]; simpa using hz
        rw [e0, w64 (n := h + 1) (by omega) (by omega), w64 (n := wait + 1) (by omega) (by omega)]
        by_cases h1 : s = 1
        · rw [if_pos h1, if_pos h1]; cases z2 <;> rfl
        · rw [if_neg h1, if_neg h1]
          by_cases h2 : s = 2
          · rw [if_pos h2, if_pos h2]; cases z2 <;> cases rc <;> simp
          · rw [if_neg h2, if_neg h2]
            unfold hN mn
            by_cases hz : g' = 0
            · subst hz; cases z2 <;> cases rc <;> simp
            · rw [decide_eq_true (show 0 < g' by omega), if_neg hz]; cases z2 <;> cases rc <;> simp
      cases rv
      · rw [if_neg (by decide), w64 (n := g - 1) (by omega) (by omega)]
        have e : mx 0 (g - 1) = gN false guard g := by
          unfold mx gN
          rw [if_neg (show ¬ (false = true) by decide)]
          split <;> split <;> omega
        exact key _ (by rw [e]; exact gN_nonneg _ hd0) e
      · rw [if_pos rfl, w64 (n := guard + 1) (by omega) (by omega)]
        exact key _ (by omega) rfl
  · rw [if_neg hv, substationref29_Tele.j0, if_pos rfl]
    unfold stepV
    rw [if_neg (fun h => hv h.1)]
theorem valid_step (s wait guard g h : Int) (z1 z2 rv rc : Bool) (hv : validB s wait guard g h = true) : validB s wait guard (stepV s wait guard g h z1 z2 rv rc).1 (stepV s wait guard g h z1 z2 rv rc).2.1 = true := by
  have hi := (validB_iff s wait guard g h).1 hv
  by_cases h0 : s = 0
  · unfold stepV
    rw [if_neg (fun h => h.2 h0)]
    rw [validB_iff]
    dsimp only
    omega
  · have hg : 0 ≤ gN rv guard g ∧ gN rv guard g ≤ guard + 1 := by
      unfold gN
      split
      · omega
      · split <;> omega
    unfold stepV
    rw [if_pos ⟨hv, h0⟩]
    by_cases h1 : s = 1
    · rw [if_pos h1, validB_iff]; dsimp only; omega
    · rw [if_neg h1]
      by_cases h2 : s = 2
      · rw [if_pos h2, validB_iff]; dsimp only; omega
      · rw [if_neg h2, validB_iff]
        have hh : 0 ≤ hN z2 rc (decide (0 < gN rv guard g)) wait h ∧ hN z2 rc (decide (0 < gN rv guard g)) wait h ≤ wait + 1 := by
          unfold hN
          split
          · split <;> omega
          · omega
        dsimp only
        omega
end Go.Proofs.YthnbokmnplipkaaDoor.A
