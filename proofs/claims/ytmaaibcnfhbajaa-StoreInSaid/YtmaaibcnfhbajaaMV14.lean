/- The chapter's example of layer 14, run. -/
import Derived.Test.YtmaaibcnfhbajaaMA
import Derived.Test.YtmaaibcnfhbajaaMPx8
namespace Go.Proofs.Ytmaaibcnfhbajaa.Med
open Go.RowKit Go.Proofs.YtmaaibcnfhbajaaW.PrintWords Go.Proofs.YtmaaibcnfhbajaaW.PrintMore Go.Proofs.Ytmaaibcnfhbajaa.MP
theorem live14' : medlarlaw14_live.f 40 = some true := by decide +kernel
theorem live14 {k : Nat} (hk : 40 ≤ k) : medlarlaw14_live.f k = some true := at_rounds (g := fun k => medlarlaw14_live.f k) medlarlaw14_live.mono hk live14'
end Go.Proofs.Ytmaaibcnfhbajaa.Med
