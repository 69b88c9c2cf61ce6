/- DiffDoes: for every height, list of at most thirty numbers, and number: the cover by differences, and the bound, are the document's; no condition. -/
import Derived.Test.YtmffkfakcbopcaaZDiffDoes
import Derived.Test.YtmffkfakcbopcaaMPx9
set_option linter.unusedVariables false
set_option linter.unusedSimpArgs false
set_option linter.unusedSectionVars false
namespace Go.Proofs.Ytmffkfakcbopcaa.Pure
open Go.RowKit Go.Proofs.Ytmffkfakcbopcaa.MP Go.Proofs.YtmffkfakcbopcaaW.PrintWords Go.Proofs.YtmffkfakcbopcaaW.PrintLast Go.Proofs.Ytmffkfakcbopcaa.Med
theorem DiffDoes : medlarlaw11_DiffDoes.Pure := by
  intro h l many w0 w1 w2 w3 w4
  obtain ⟨l, rfl, hb⟩ := ints_of l w3
  have hw := wf_i64 w4
  refine ⟨20010100, ?_⟩
  generalize hK : (20010100 : Nat) = K
  unfold medlarlaw11_DiffDoes.f
  rw [live11 (by omega)]; simp only [bnd]
  rw [ints_len] at *
  by_cases l30 : (l.length : Int) > 30
  · rw [if_pos l30]
  · rw [if_neg l30, DCover_eq h hb (by omega) (by omega)]; simp only [bnd]
    rw [rDCover_eq h hb (by omega) (by omega) (by omega)]; simp only [bnd]
    rw [DBound_eq h many (by omega)]; simp only [bnd]
    rw [rDBound_eq h many hw (by omega)]; simp only [bnd]
    rw [if_pos (by trivial)]
    have e : srt (dif h.toNat l) = dfs h.toNat l := rfl
    rw [e]
    have hl : (if Lst h l then (sbs (dfs h.toNat l), (0 : Int)) else ([], 1)).1.length ≤ 40000 := by
      by_cases c : Lst h l
      · have ln2 := dfs_len h.toNat l
        have ln3 := dif_len c.2.2.1 c.2.2.2
        have := c.2.1
        rw [if_pos c]; dsimp only
        rw [sbs_len]
        split at ln3 <;> omega
      · rw [if_neg c]; simp
    generalize (if Lst h l then (sbs (dfs h.toNat l), (0 : Int)) else ([], 1)) = X at *
    generalize (if Bd h many then ((dbn many.toNat : Int), (0 : Int)) else (0, 1)) = Y
    rw [same8_eq _ _ (by omega) (by omega)]; simp only [bnd]
    simp
end Go.Proofs.Ytmffkfakcbopcaa.Pure
