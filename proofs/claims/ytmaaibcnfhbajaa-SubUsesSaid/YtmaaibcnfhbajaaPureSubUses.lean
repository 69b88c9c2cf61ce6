/- SubUses: for every height and every subset the program's step, whether it is useful and what it is split into are the document's; no condition. -/
import Derived.Test.YtmaaibcnfhbajaaM8
import Derived.Test.YtmaaibcnfhbajaaMPx36
import Derived.Test.YtmaaibcnfhbajaaMPx60
set_option linter.unusedVariables false
namespace Go.Proofs.Ytmaaibcnfhbajaa.Pure
open Go.RowKit Go.Proofs.Ytmaaibcnfhbajaa.MP Go.Proofs.YtmaaibcnfhbajaaW.PrintWords Go.Proofs.YtmaaibcnfhbajaaW.PrintLast Go.Proofs.Ytmaaibcnfhbajaa.Med

theorem live8 : medlarlaw08_live.f 20 = some true := by decide +kernel
theorem SubUses : medlarlaw08_SubUses.Pure := by
  intro h i j w0 w1 w2
  obtain ⟨i, rfl, hi⟩ := wf_u64 w1
  obtain ⟨j, rfl, hj⟩ := wf_u64 w2
  refine ⟨100, ?_⟩
  have hl : medlarlaw08_live.f 100 = some true := at_rounds (g := fun k => medlarlaw08_live.f k) medlarlaw08_live.mono (show 20 ≤ 100 by omega) live8
  unfold medlarlaw08_SubUses.f
  rw [hl, Step_eq _ (by omega), rStep_eq _ (by omega), Useful_eq _ hi hj (by omega), rUseful_eq _ hi hj (by omega), Split_eq _ hi hj (by omega), rSplit_eq _ hi hj (by omega)]
  simp only [Option.bind_some, if_true]
  have hb : ∀ l : List S24, l.length ≤ 2 → medlarref08_Same.f 100 l l = some true := fun l hl => by
    rw [same8_eq l l (by omega) (by omega), decide_eq_true rfl]
  have hs := spl_len h.toNat i j
  by_cases h1 : Sb h.toNat i j
  · simp only [if_pos h1, hb _ hs, beq_self_eq_true, Option.bind_some, if_true]
  · simp only [if_neg h1, hb [] (by simp), beq_self_eq_true, Option.bind_some, if_true]
end Go.Proofs.Ytmaaibcnfhbajaa.Pure
