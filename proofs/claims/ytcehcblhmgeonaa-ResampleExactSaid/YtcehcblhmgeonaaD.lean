import Derived.Test.YtcehcblhmgeonaaC
/- The walk of ResampleNearest; no condition. -/
namespace Go.Proofs.Ytcehcblhmgeonaa.A
open Go.RowKit Go.Proofs.YtcehcblhmgeonaaW.PrintWords Go.Proofs.YtcehcblhmgeonaaW.PrintLast Go.Proofs.YtcehcblhmgeonaaW.PrintMore
attribute [local go_sem] max2_int min2_int max_two min_two max_three min_three max_four min_four
set_option linter.unusedVariables false

theorem near_law (m d : Int) (h : -1099511627776 < m ∧ m < 1099511627776) (hd : 1 ≤ d ∧ d ≤ 1099511627776) :
    nearE m d = 0 ∧ bd 1099511627777 (nearV m d) ∧ 2 * m - 2 * (nearV m d) * d < d ∧ 2 * m - 2 * (nearV m d) * d ≥ -d ∧ bd 2199023255552 (2 * nearV m d * d - 2 * m) := by
  have hc : 1 ≤ d ∧ d ≤ 1152921504606846976 ∧ -1152921504606846976 ≤ m ∧ m ≤ 1152921504606846976 := by omega
  have e1 : nearE m d = 0 := by unfold nearE; rw [if_pos hc]
  have e2 : nearV m d = (2 * m + d) / (2 * d) := by unfold nearV; rw [if_pos hc]
  have r0 := Int.emod_nonneg (2 * m + d) (show 2 * d ≠ 0 by omega)
  have r1 := Int.emod_lt_of_pos (2 * m + d) (show 0 < 2 * d by omega)
  have e := Int.emod_add_mul_ediv (2 * m + d) (2 * d)
  rw [← e2] at e
  have e3 : 2 * nearV m d * d = 2 * d * nearV m d := by rw [Int.mul_assoc, Int.mul_assoc, Int.mul_comm d]
  have hb : bd 1099511627777 (nearV m d) := by
    have k1 := Int.natAbs_ediv_le_natAbs (2 * m + d) (2 * d)
    rw [← e2] at k1
    constructor
    · rcases Int.lt_or_le (nearV m d) (-1099511627777) with hl | hl
      · have := Int.mul_le_mul_of_nonneg_left (show nearV m d ≤ -1099511627778 by omega) (show 0 ≤ 2 * d by omega)
        omega
      · exact hl
    · rcases Int.lt_or_le 1099511627777 (nearV m d) with hl | hl
      · have := Int.mul_le_mul_of_nonneg_left (show 1099511627778 ≤ nearV m d by omega) (show 0 ≤ 2 * d by omega)
        omega
      · exact hl
  exact ⟨e1, hb, by rw [e3]; omega, by rw [e3]; omega, by rw [e3]; constructor <;> omega⟩

set_option maxHeartbeats 1000000 in
theorem ResampleNearest_walk (n d : Int) (w : World) (hn : (Lit.int .i64 n).wf = true) (hd : (Lit.int .i64 d).wf = true) :
    Calls Try.prog 6 #[.int .i64 n, .int .i64 d] w fun e w' => e = .returned (.bool true) ∧ Below w.heap.size w w' := by
  go_enter Try.func6, Try.ntmps6
  go_wp2_with fail
  refine (known_calls _).mono ?_
  rintro e w1 ⟨rfl, HB⟩
  have HB1 := Aside0.mk HB
  clear HB
  go_wp2_with fail
  refine (within_calls _ _ (by omega) (by omega) _).mono ?_
  rintro e w' ⟨rfl, ⟨nd, rfl⟩⟩
  have g1 := Int.emod_nonneg d (show (1099511627776 : Int) ≠ 0 by omega)
  have g2 := Int.emod_lt_of_pos d (show (0 : Int) < 1099511627776 by omega)
  go_wp2_with fail
  refine (nearest_calls _ _ _).mono ?_
  rintro e w' ⟨rfl, ⟨nd2, rfl⟩⟩
  have hm : -1099511627776 < n.tmod 1099511627776 ∧ n.tmod 1099511627776 < 1099511627776 := ⟨Int.lt_tmod_of_pos n (by omega), Int.tmod_lt_of_pos n (by omega)⟩
  have hD : 1 ≤ 1 + d % 1099511627776 ∧ 1 + d % 1099511627776 ≤ 1099511627776 := by omega
  obtain ⟨h1, ⟨h2, h2'⟩, h3, h4, ⟨h5, h5'⟩⟩ := near_law _ _ hm hD
  rw [h1]
  clear h1 g1 g2
  generalize nearV (n.tmod 1099511627776) (1 + d % 1099511627776) = v at *
  generalize n.tmod 1099511627776 = m at *
  generalize 1 + d % 1099511627776 = D at *
  obtain ⟨P, hP⟩ : ∃ P, 2 * v * D = P := ⟨_, rfl⟩
  rw [hP] at h3 h4 h5 h5'
  have hw : wrap64 (2 * v * D) = P := by rw [hP]; exact w64 (by omega) (by omega)
  clear hP
  go_wp2
  go_ret
  have HB := HB1.out
  exact ⟨by simp, by repeat (first | exact HB | apply below_alloc | apply pw_below_drewN)⟩
end Go.Proofs.Ytcehcblhmgeonaa.A
