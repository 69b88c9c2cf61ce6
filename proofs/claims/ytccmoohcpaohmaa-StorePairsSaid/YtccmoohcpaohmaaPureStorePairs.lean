/- StorePairs: for all heights, schemes and leaves: any leaf's pairs, and how many they are, or why not; no condition. -/
import Derived.Test.YtccmoohcpaohmaaZStorePairs
import Derived.Test.YtccmoohcpaohmaaMPx5
set_option linter.unusedVariables false
set_option linter.unusedSimpArgs false
set_option linter.unusedSectionVars false
namespace Go.Proofs.Ytccmoohcpaohmaa.Pure
open Go.RowKit Go.Proofs.Ytccmoohcpaohmaa.MP Go.Proofs.YtccmoohcpaohmaaW.PrintWords Go.Proofs.YtccmoohcpaohmaaW.PrintLast Go.Proofs.Ytccmoohcpaohmaa.Med
theorem StorePairs : medlarlaw14_StorePairs.Pure := by
  intro h s p w0 w1 w2
  obtain ⟨p, rfl, hp⟩ := wf_u64 w2
  refine ⟨2000, ?_⟩
  generalize hK : (2000 : Nat) = K
  unfold medlarlaw14_StorePairs.f
  rw [live14 (by omega)]; simp only [bnd]
  rw [Pairs_eq h s hp (by omega), rPairs_eq h s hp (by omega), Many14_eq h s (by omega), rMany14_eq h s (by omega)]; simp only [bnd]
  rw [if_pos (by trivial)]
  have ln : ((if Sch s ∧ Lfi h p then (sbs (prs h.toNat s (2 ^ h.toNat + p)), (0 : Int)) else ([], 1)).1).length ≤ 1025 := by
    by_cases c : Sch s ∧ Lfi h p
    · rw [if_pos c]; dsimp only
      have hh := c.2.1
      rw [hi_iff] at hh
      rw [sbs_len]; exact prs_len (by omega) _ _
    · rw [if_neg c]; simp
  generalize (if Sch s ∧ Lfi h p then (sbs (prs h.toNat s (2 ^ h.toNat + p)), (0 : Int)) else ([], 1)) = X at *
  rw [same8_eq _ _ (by omega) (by omega)]; simp only [bnd]
  simp
end Go.Proofs.Ytccmoohcpaohmaa.Pure
