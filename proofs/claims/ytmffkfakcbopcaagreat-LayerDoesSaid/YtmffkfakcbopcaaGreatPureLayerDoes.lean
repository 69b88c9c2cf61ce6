/- LayerDoes: for every height, scheme, list of at most thirty numbers, number, and subset: the cover by the scheme, the bound, whether the subset may be of it, and how many are beside the way to a leaf, are the document's; no condition. -/
import Derived.Test.YtmffkfakcbopcaaGreatZLayerDoes
import Derived.Test.YtmffkfakcbopcaaGreatMPx7
set_option linter.unusedVariables false
set_option linter.unusedSimpArgs false
set_option linter.unusedSectionVars false
namespace Go.Proofs.YtmffkfakcbopcaaGreat.Pure
open Go.RowKit Go.Proofs.YtmffkfakcbopcaaGreat.MP Go.Proofs.YtmffkfakcbopcaaGreatW.PrintWords Go.Proofs.YtmffkfakcbopcaaGreatW.PrintLast Go.Proofs.YtmffkfakcbopcaaGreat.Med
theorem LayerDoes : medlarlaw12_LayerDoes.Pure := by
  intro h s l many i j w0 w1 w2 w3 w4 w5 w6 w7
  obtain ⟨l, rfl, hb⟩ := ints_of l w4
  have hw := wf_i64 w5
  obtain ⟨i, rfl, hi'⟩ := wf_u64 w6
  obtain ⟨j, rfl, hj⟩ := wf_u64 w7
  refine ⟨20010100, ?_⟩
  generalize hK : (20010100 : Nat) = K
  unfold medlarlaw12_LayerDoes.f
  rw [live12 (by omega)]; simp only [bnd]
  rw [ints_len] at *
  by_cases l30 : (l.length : Int) > 30
  · rw [if_pos l30]
  · rw [if_neg l30, LCover_eq h s hb (by omega) (by omega) (by omega)]; simp only [bnd]
    rw [rLCover_eq h s hb (by omega) (by omega)]; simp only [bnd]
    rw [LBound_eq h s many hw (by omega)]; simp only [bnd]
    rw [rLBound_eq h s many hw (by omega)]; simp only [bnd]
    rw [May_eq h s hi' hj (by omega)]; simp only [bnd]
    rw [rLMay_eq h s hi' hj (by omega)]; simp only [bnd]
    rw [lPairs_eq h (by omega)]; simp only [bnd]
    rw [rLPairs_eq h (by omega)]; simp only [bnd]
    rw [if_pos (by trivial)]
    have hl : (if Sch s ∧ Lst h l then (sbs (lys h.toNat s l), (0 : Int)) else ([], 1)).1.length ≤ 40000 := by
      by_cases c : Sch s ∧ Lst h l
      · have hH := c.2.1
        rw [hi_iff] at hH
        rw [if_pos c]; dsimp only
        rw [sbs_len']
        exact lys_len_le (by omega) c.2.2.2.1 c.2.2.2.2 c.2.2.1 s
      · rw [if_neg c]; simp
    generalize (if Sch s ∧ Lst h l then (sbs (lys h.toNat s l), (0 : Int)) else ([], 1)) = X at *
    generalize (if Sch s ∧ Bd h many then ((lbn h.toNat s many.toNat : Int), (0 : Int)) else (0, 1)) = Y
    generalize (if Sch s ∧ Sb h.toNat i j then (decide (May h.toNat s i j), (0 : Int)) else (false, 1)) = Z
    generalize (if Hi h then ((lpn h.toNat : Int), (0 : Int)) else (0, 1)) = V
    rw [same8_eq _ _ (by omega) (by omega)]; simp only [bnd]
    simp
end Go.Proofs.YtmffkfakcbopcaaGreat.Pure
