import Derived.Test.YthnbokmnplipkaaDoorE
/- Plain laws of Step, for Alone. No condition. -/
namespace Go.Proofs.YthnbokmnplipkaaDoor.A
theorem alone_trip (s wait guard g h : Int) (z1 z2 rv : Bool) (ht : (stepV s wait guard g h z1 z2 rv false).2.2.2 = true) : s = 3 ∧ wait < h + 1 := by
  unfold stepV at ht
  split at ht
  · rename_i hv
    split at ht
    · cases z2 <;> simp at ht
    · split at ht
      · cases z2 <;> simp at ht
      · rename_i h1 h2
        have hs := (valid_bd hv.1).1
        refine ⟨by omega, ?_⟩
        simp only [decide_eq_true_eq] at ht
        unfold hN at ht
        split at ht
        · split at ht <;> omega
        · have := valid_bd hv.1
          omega
  · cases ht
theorem alone_held (s wait guard g h : Int) (z1 z2 rv rc : Bool) (hv : validB s wait guard g h = true) : (stepV s wait guard g h z1 z2 rv rc).2.1 ≤ h + 1 := by
  have hb := valid_bd hv
  unfold stepV
  split
  · split
    · dsimp only; omega
    · split
      · dsimp only; omega
      · dsimp only
        unfold hN
        split
        · split <;> omega
        · omega
  · dsimp only; omega
end Go.Proofs.YthnbokmnplipkaaDoor.A
