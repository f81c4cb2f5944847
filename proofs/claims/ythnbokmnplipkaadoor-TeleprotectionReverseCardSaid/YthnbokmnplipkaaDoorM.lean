import Derived.Test.YthnbokmnplipkaaDoorJ
/- What pair answers for internal faults, external faults and current reversal: plain laws. No condition. -/
namespace Go.Proofs.YthnbokmnplipkaaDoor.A
theorem over_step (guard g : Int) (z1 z2 rv rc : Bool) (h0 : 0 ≤ guard ∧ guard ≤ 50) (hg : 0 ≤ g ∧ g ≤ guard + 1) :
    stepV 2 0 guard g 0 z1 z2 rv rc = (gN rv guard g, 0, z2 && !decide (0 < gN rv guard g), z2 && rc && !decide (0 < gN rv guard g)) := by
  have hv : validB 2 0 guard g 0 = true := by rw [validB_iff]; omega
  unfold stepV
  rw [if_pos ⟨hv, by decide⟩, if_neg (by decide), if_pos rfl]
theorem block_step (wait guard g h : Int) (z1 z2 rv rc : Bool) (hw : 1 ≤ wait ∧ wait ≤ 50) (h0 : 0 ≤ guard ∧ guard ≤ 50) (hg : 0 ≤ g ∧ g ≤ guard + 1) (hh : 0 ≤ h ∧ h ≤ wait + 1) :
    stepV 3 wait guard g h z1 z2 rv rc = (gN rv guard g, hN z2 rc (decide (0 < gN rv guard g)) wait h, decide (0 < gN rv guard g), decide (wait < hN z2 rc (decide (0 < gN rv guard g)) wait h)) := by
  have hv : validB 3 wait guard g h = true := by rw [validB_iff]; omega
  unfold stepV
  rw [if_pos ⟨hv, by decide⟩, if_neg (by decide), if_neg (by decide)]
/-- An internal fault: zone 2 from a step on. -/
def sIn (d : Int) (i : Nat) : Sees := (false, decide (d ≤ (i : Int)), false)
/-- Seen in reverse from a step on. -/
def sRev (d : Int) (i : Nat) : Sees := (false, false, decide (d ≤ (i : Int)))
theorem first_no (f i : Int) : firstI false f i = f := by unfold firstI; rw [if_neg (fun h => by cases h.1)]
theorem in_over (guard d : Int) (h0 : 0 ≤ guard ∧ guard ≤ 50) (hd : 0 ≤ d) (i : Nat) :
    stN 2 0 guard (sIn d) (sIn d) i = ⟨0, 0, 0, 0, if d + 1 < (i : Int) then d + 1 else -1, if d + 1 < (i : Int) then d + 1 else -1, decide (d < (i : Int)), decide (d < (i : Int))⟩ := by
  induction i with
  | zero =>
    unfold stN
    rw [if_neg (by omega), decide_eq_false (by omega)]
  | succ i ih =>
    unfold stN
    rw [ih]
    unfold nextSt sIn
    dsimp only
    rw [over_step guard 0 _ _ _ _ h0 (by omega)]
    have e : gN false guard 0 = 0 := by unfold gN; simp
    rw [e]
    simp only [Int.lt_irrefl, decide_false, Bool.not_false, Bool.and_true]
    by_cases h1 : d ≤ (i : Int)
    · by_cases h2 : d < (i : Int)
      · by_cases h3 : d + 1 < (i : Int)
        · rw [decide_eq_true h1, decide_eq_true h2, if_pos h3, if_pos (by omega), decide_eq_true (show d < ((i + 1 : Nat) : Int) by omega)]
          unfold firstI
          rw [if_neg (by omega)]
        · rw [decide_eq_true h1, decide_eq_true h2, if_neg h3, if_pos (by omega), decide_eq_true (show d < ((i + 1 : Nat) : Int) by omega)]
          unfold firstI
          rw [if_pos ⟨rfl, by omega⟩, show (i : Int) = d + 1 by omega]
      · rw [decide_eq_true h1, decide_eq_false h2, if_neg (by omega), if_neg (by omega), decide_eq_true (show d < ((i + 1 : Nat) : Int) by omega)]
        rw [Bool.and_false, first_no]
    · rw [decide_eq_false h1, decide_eq_false (show ¬ d < (i : Int) by omega), if_neg (by omega), if_neg (by omega), decide_eq_false (show ¬ d < ((i + 1 : Nat) : Int) by omega)]
      rw [Bool.and_false, first_no]
/-- The time that blocking has waited behind step i. -/
def heldI (wait d : Int) (i : Nat) : Int := if (i : Int) ≤ d then 0 else if wait + 1 < (i : Int) - d then wait + 1 else (i : Int) - d
theorem in_block (wait guard d : Int) (hw : 1 ≤ wait ∧ wait ≤ 50) (h0 : 0 ≤ guard ∧ guard ≤ 50) (hd : 0 ≤ d) (i : Nat) :
    stN 3 wait guard (sIn d) (sIn d) i = ⟨0, heldI wait d i, 0, heldI wait d i, if d + wait < (i : Int) then d + wait else -1, if d + wait < (i : Int) then d + wait else -1, false, false⟩ := by
  induction i with
  | zero =>
    unfold stN heldI
    rw [if_pos (show ((0 : Nat) : Int) ≤ d by omega), if_neg (by omega)]
  | succ i ih =>
    unfold stN
    rw [ih]
    unfold nextSt sIn
    dsimp only
    rw [block_step wait guard 0 _ _ _ _ _ hw h0 (by omega) (by unfold heldI; split <;> (try split) <;> omega)]
    have e : gN false guard 0 = 0 := by unfold gN; simp
    rw [e]
    have eh : hN (decide (d ≤ (i : Int))) false (decide ((0 : Int) < 0)) wait (heldI wait d i) = heldI wait d (i + 1) := by
      unfold hN heldI
      by_cases h1 : d ≤ (i : Int)
      · rw [decide_eq_true h1, if_pos (by decide), if_neg (show ¬ ((i + 1 : Nat) : Int) ≤ d by omega)]
        split <;> (try split) <;> (try split) <;> omega
      · rw [decide_eq_false h1, if_neg (by decide), if_pos (show ((i + 1 : Nat) : Int) ≤ d by omega)]
    rw [eh]
    have et : firstI (decide (wait < heldI wait d (i + 1))) (if d + wait < (i : Int) then d + wait else -1) (i : Int) = if d + wait < ((i + 1 : Nat) : Int) then d + wait else -1 := by
      by_cases h1 : d + wait < (i : Int)
      · rw [if_pos h1, if_pos (by omega)]
        unfold firstI
        rw [if_neg (by omega)]
      · rw [if_neg h1]
        by_cases h2 : d + wait < ((i + 1 : Nat) : Int)
        · rw [if_pos h2, decide_eq_true (by unfold heldI; rw [if_neg (by omega)]; split <;> omega)]
          unfold firstI
          rw [if_pos ⟨rfl, by omega⟩]
          omega
        · rw [if_neg h2, decide_eq_false (by unfold heldI; split <;> (try split) <;> omega), first_no]
    rw [et]
    simp
theorem ext_over (guard d : Int) (h0 : 0 ≤ guard ∧ guard ≤ 50) (hd : 0 ≤ d) (i : Nat) :
    stN 2 0 guard (sIn d) (sRev d) i = ⟨0, 0, if d < (i : Int) then guard + 1 else 0, 0, -1, -1, decide (d < (i : Int)), false⟩ := by
  induction i with
  | zero =>
    unfold stN
    rw [if_neg (by omega), decide_eq_false (by omega)]
  | succ i ih =>
    unfold stN
    rw [ih]
    unfold nextSt sIn sRev
    dsimp only
    rw [over_step guard 0 _ _ _ _ h0 (by omega), over_step guard _ _ _ _ _ h0 (by split <;> omega)]
    have e : gN false guard 0 = 0 := by unfold gN; simp
    rw [e]
    have e2 : gN (decide (d ≤ (i : Int))) guard (if d < (i : Int) then guard + 1 else 0) = if d < ((i + 1 : Nat) : Int) then guard + 1 else 0 := by
      unfold gN
      by_cases h1 : d ≤ (i : Int)
      · rw [decide_eq_true h1, if_pos rfl, if_pos (by omega)]
      · rw [decide_eq_false h1, if_neg (by decide), if_neg (show ¬ d < (i : Int) by omega), if_neg (show ¬ d < ((i + 1 : Nat) : Int) by omega)]
        rfl
    rw [e2]
    have e3 : decide (d ≤ (i : Int)) = decide (d < ((i + 1 : Nat) : Int)) := by
      by_cases h1 : d ≤ (i : Int)
      · rw [decide_eq_true h1, decide_eq_true (by omega)]
      · rw [decide_eq_false h1, decide_eq_false (by omega)]
    rw [e3]
    simp [first_no]
theorem ext_block (wait guard d : Int) (hw : 1 ≤ wait ∧ wait ≤ 50) (h0 : 0 ≤ guard ∧ guard ≤ 50) (hd : 0 ≤ d) (i : Nat) :
    stN 3 wait guard (sIn d) (sRev d) i = ⟨0, if (i : Int) = d + 1 then 1 else 0, if d < (i : Int) then guard + 1 else 0, 0, -1, -1, false, decide (d < (i : Int))⟩ := by
  induction i with
  | zero =>
    unfold stN
    rw [if_neg (by omega), if_neg (by omega), decide_eq_false (by omega)]
  | succ i ih =>
    unfold stN
    rw [ih]
    unfold nextSt sIn sRev
    dsimp only
    rw [block_step wait guard 0 _ _ _ _ _ hw h0 (by omega) (by split <;> omega), block_step wait guard _ 0 _ _ _ _ hw h0 (by split <;> omega) (by omega)]
    have e : gN false guard 0 = 0 := by unfold gN; simp
    rw [e]
    have e2 : gN (decide (d ≤ (i : Int))) guard (if d < (i : Int) then guard + 1 else 0) = if d < ((i + 1 : Nat) : Int) then guard + 1 else 0 := by
      unfold gN
      by_cases h1 : d ≤ (i : Int)
      · rw [decide_eq_true h1, if_pos rfl, if_pos (by omega)]
      · rw [decide_eq_false h1, if_neg (by decide), if_neg (show ¬ d < (i : Int) by omega), if_neg (show ¬ d < ((i + 1 : Nat) : Int) by omega)]
        rfl
    rw [e2]
    have e3 : hN (decide (d ≤ (i : Int))) (decide (d < (i : Int))) (decide ((0 : Int) < 0)) wait (if (i : Int) = d + 1 then 1 else 0) = if ((i + 1 : Nat) : Int) = d + 1 then 1 else 0 := by
      unfold hN
      by_cases h1 : d ≤ (i : Int)
      · by_cases h2 : d < (i : Int)
        · rw [decide_eq_true h1, decide_eq_true h2, if_neg (by decide), if_neg (by omega)]
        · rw [decide_eq_true h1, decide_eq_false h2, if_pos (by decide), if_neg (show ¬ (i : Int) = d + 1 by omega), if_neg (by omega), if_pos (by omega)]
          rfl
      · rw [decide_eq_false h1, if_neg (by simp), if_neg (by omega)]
    rw [e3]
    have e4 : decide (wait < if ((i + 1 : Nat) : Int) = d + 1 then (1 : Int) else 0) = false := by
      apply decide_eq_false
      split <;> omega
    rw [e4]
    have e5 : hN false false (decide (0 < if d < ((i + 1 : Nat) : Int) then guard + 1 else 0)) wait 0 = 0 := by unfold hN; simp
    rw [e5]
    have e6 : decide (0 < if d < ((i + 1 : Nat) : Int) then guard + 1 else 0) = decide (d < ((i + 1 : Nat) : Int)) := by
      by_cases h1 : d < ((i + 1 : Nat) : Int)
      · rw [if_pos h1, decide_eq_true h1, decide_eq_true (by omega)]
      · rw [if_neg h1, decide_eq_false h1]; rfl
    rw [e6, decide_eq_false (show ¬ wait < 0 by omega)]
    simp [first_no]
/-- Current reversal: forward, and then no more; in reverse, and then forward. -/
def sA (d t : Int) (i : Nat) : Sees := (false, decide (d ≤ (i : Int)) && !decide (t ≤ (i : Int)), false)
def sB (d t : Int) (i : Nat) : Sees := (false, decide (t ≤ (i : Int)), decide (d ≤ (i : Int)) && !decide (t ≤ (i : Int)))
def leftI (guard d t : Int) (i : Nat) : Int := if (i : Int) ≤ d then 0 else if (i : Int) ≤ t then guard + 1 else guard + 1 + t - (i : Int)
theorem rev_over (guard d t : Int) (h0 : 1 ≤ guard ∧ guard ≤ 50) (hd : 0 ≤ d) (ht : d < t) (i : Nat) (hi : (i : Int) ≤ t + guard) :
    ∃ s : Bool, stN 2 0 guard (sA d t) (sB d t) i = ⟨0, 0, leftI guard d t i, 0, -1, -1, s, false⟩ := by
  induction i with
  | zero =>
    refine ⟨false, ?_⟩
    unfold stN leftI
    rw [if_pos (by omega)]
  | succ i ih =>
    obtain ⟨s, ih⟩ := ih (by omega)
    unfold stN
    rw [ih]
    unfold nextSt sA sB
    dsimp only
    have hl : 0 ≤ leftI guard d t i ∧ leftI guard d t i ≤ guard + 1 := by unfold leftI; split <;> (try split) <;> omega
    rw [over_step guard 0 _ _ _ _ ⟨by omega, by omega⟩ (by omega), over_step guard _ _ _ _ _ ⟨by omega, by omega⟩ hl]
    have e : gN false guard 0 = 0 := by unfold gN; simp
    rw [e]
    have e2 : gN (decide (d ≤ (i : Int)) && !decide (t ≤ (i : Int))) guard (leftI guard d t i) = leftI guard d t (i + 1) := by
      unfold gN leftI
      by_cases h1 : d ≤ (i : Int)
      · by_cases h2 : t ≤ (i : Int)
        · rw [decide_eq_true h1, decide_eq_true h2, if_neg (by decide), if_neg (show ¬ ((i + 1 : Nat) : Int) ≤ d by omega), if_neg (show ¬ ((i + 1 : Nat) : Int) ≤ t by omega)]
          split <;> (try split) <;> (try split) <;> omega
        · rw [decide_eq_true h1, decide_eq_false h2, if_pos (by decide), if_neg (show ¬ ((i + 1 : Nat) : Int) ≤ d by omega), if_pos (show ((i + 1 : Nat) : Int) ≤ t by omega)]
      · rw [decide_eq_false h1, if_neg (by simp), if_pos (show (i : Int) ≤ d by omega), if_pos (show ((i + 1 : Nat) : Int) ≤ d by omega)]
        rfl
    rw [e2]
    have e3 : (decide (t ≤ (i : Int)) && !decide (0 < leftI guard d t (i + 1))) = false := by
      by_cases h2 : t ≤ (i : Int)
      · rw [decide_eq_true (show 0 < leftI guard d t (i + 1) by unfold leftI; split <;> (try split) <;> omega)]; simp
      · rw [decide_eq_false h2]; rfl
    have e4 : (decide (t ≤ (i : Int)) && s && !decide (0 < leftI guard d t (i + 1))) = false := by
      rw [Bool.and_right_comm, e3]; rfl
    rw [e3, e4]
    exact ⟨_, by simp only [first_no, Bool.and_false, Bool.false_and]; rfl⟩
end Go.Proofs.YthnbokmnplipkaaDoor.A
