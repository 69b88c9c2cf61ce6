/- The chapter's example of layer 8, run. -/
import Derived.Test.YtmaaibcnfhbajaaMA
import Derived.Test.YtmaaibcnfhbajaaMPx3
namespace Go.Proofs.Ytmaaibcnfhbajaa.Med
open Go.RowKit Go.Proofs.YtmaaibcnfhbajaaW.PrintWords Go.Proofs.YtmaaibcnfhbajaaW.PrintMore Go.Proofs.Ytmaaibcnfhbajaa.MP
theorem live8' : medlarlaw08_live.f 20 = some true := by decide +kernel
theorem live8 {k : Nat} (hk : 20 ≤ k) : medlarlaw08_live.f k = some true := at_rounds (g := fun k => medlarlaw08_live.f k) medlarlaw08_live.mono hk live8'
end Go.Proofs.Ytmaaibcnfhbajaa.Med
