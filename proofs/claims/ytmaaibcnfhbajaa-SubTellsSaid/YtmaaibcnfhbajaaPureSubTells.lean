/- SubTells: for all heights, subsets and leaves the program's leaves, whether a leaf is in, whether two touch, which comes first and whether one may be are the document's; no condition. -/
import Derived.Test.YtmaaibcnfhbajaaM9
import Derived.Test.YtmaaibcnfhbajaaMV8
import Derived.Test.YtmaaibcnfhbajaaMPx25
set_option linter.unusedVariables false
namespace Go.Proofs.Ytmaaibcnfhbajaa.Pure
open Go.RowKit Go.Proofs.Ytmaaibcnfhbajaa.MP Go.Proofs.YtmaaibcnfhbajaaW.PrintWords Go.Proofs.YtmaaibcnfhbajaaW.PrintLast Go.Proofs.Ytmaaibcnfhbajaa.Med

theorem SubTells : medlarlaw08_SubTells.Pure := by
  intro h i j a b p w0 w1 w2 w3 w4 w5
  obtain ⟨i, rfl, hi'⟩ := wf_u64 w1
  obtain ⟨j, rfl, hj⟩ := wf_u64 w2
  obtain ⟨a, rfl, ha⟩ := wf_u64 w3
  obtain ⟨b, rfl, hb⟩ := wf_u64 w4
  obtain ⟨p, rfl, hp⟩ := wf_u64 w5
  refine ⟨(200 : Nat) + 1, ?_⟩
  generalize hK : (200 : Nat) = K
  unfold medlarlaw08_SubTells.f
  rw [live8 (by omega), sLeaves_eq h hi' hj, rSLeaves_eq h hi' hj (by omega), sHas_eq h hi' hj hp (by omega), rHas_eq h hi' hj hp (by omega), Touch_eq h hi' hj ha hb (by omega), rTouch_eq h hi' hj ha hb (by omega),
    sCheck_eq h hi' hj, rCheck8_eq h hi' hj (by omega), Less_eq _ _ _ _ (by omega), rLess_eq]
  simp only [bnd]
  have sm : medlarref02_SameSpans.f (K + 1) (if Sb h.toNat i j then (sps (spn h.toNat i j), (0 : Int)) else ([], 1)).1 (if Sb h.toNat i j then (sps (spn h.toNat i j), (0 : Int)) else ([], 1)).1 = some true := by
    refine sameSp_eq _ ?_ ?_
    all_goals
      split
      · have := spn_len h.toNat i j
        simp only [sps_len]; omega
      · simp
  rw [sm]
  simp
end Go.Proofs.Ytmaaibcnfhbajaa.Pure
