/- WholeDoes: for every height, list of at most thirty numbers, and number: the cover, and the bound, are the document's; no condition. -/
import Derived.Test.YtoikjfcdpiikbaaZWholeDoes
import Derived.Test.YtoikjfcdpiikbaaMPx19
set_option linter.unusedVariables false
set_option linter.unusedSimpArgs false
set_option linter.unusedSectionVars false
namespace Go.Proofs.Ytoikjfcdpiikbaa.Pure
open Go.RowKit Go.Proofs.Ytoikjfcdpiikbaa.MP Go.Proofs.YtoikjfcdpiikbaaW.PrintWords Go.Proofs.YtoikjfcdpiikbaaW.PrintLast Go.Proofs.Ytoikjfcdpiikbaa.Med
theorem WholeDoes : medlarlaw10_WholeDoes.Pure := by
  intro h l many w0 w1 w2 w3 w4
  obtain ⟨l, rfl, hb⟩ := ints_of l w3
  have hw := wf_i64 w4
  refine ⟨200100, ?_⟩
  generalize hK : (200100 : Nat) = K
  unfold medlarlaw10_WholeDoes.f
  rw [live10 (by omega)]; simp only [bnd]
  rw [ints_len] at *
  by_cases l30 : (l.length : Int) > 30
  · rw [if_pos l30]
  · rw [if_neg l30, WCover_eq h hb (by omega) (by omega) (by omega), rCover_eq h hb (by omega) (by omega) (by omega), WBound_eq h many (by omega), rBound_eq h many hw (by omega)]; simp only [bnd]
    have hl : (if Lst h l then (sbs (whl (hng h.toNat l)), (0 : Int)) else ([], 1)).1.length ≤ 40000 := by
      by_cases c : Lst h l
      · have hH := c.1
        rw [hi_iff] at hH
        rw [if_pos c]; dsimp only
        rw [sbs_len, whl_len]
        exact hng_len_le (by omega) c.2.2.1 c.2.2.2 c.2.1
      · rw [if_neg c]; simp
    generalize (if Lst h l then (sbs (whl (hng h.toNat l)), (0 : Int)) else ([], 1)) = X at *
    generalize (if Bd h many then ((bdn h.toNat many.toNat : Int), (0 : Int)) else (0, 1)) = Y
    rw [same8_eq _ _ (by omega) (by omega)]; simp only [bnd]
    simp
end Go.Proofs.Ytoikjfcdpiikbaa.Pure
