/- SteinerDoes: for every height, list of at most thirty numbers, and node: whether it is of the set's tree, how many are, the deepest one above all below it, all forks, and all that hangs are the document's; the set stays as it was; no condition. -/
import Derived.Test.YtoikjfcdpiikbaaZSteinerDoes
import Derived.Test.YtoikjfcdpiikbaaMPx27
set_option linter.unusedVariables false
set_option linter.unusedSimpArgs false
set_option linter.unusedSectionVars false
namespace Go.Proofs.Ytoikjfcdpiikbaa.Pure
open Go.RowKit Go.Proofs.Ytoikjfcdpiikbaa.MP Go.Proofs.YtoikjfcdpiikbaaW.PrintWords Go.Proofs.YtoikjfcdpiikbaaW.PrintLast Go.Proofs.Ytoikjfcdpiikbaa.Med
theorem SteinerDoes : medlarlaw09_SteinerDoes.Pure := by
  intro h l n w0 w1 w2 w3 w4
  obtain ⟨l, rfl, hb⟩ := ints_of l w3
  obtain ⟨n, rfl, hn⟩ := wf_u64 w4
  refine ⟨200200, ?_⟩
  generalize hK : (200200 : Nat) = K
  unfold medlarlaw09_SteinerDoes.f
  rw [live9 (by omega)]; simp only [bnd]
  rw [ints_len] at *
  by_cases l30 : (l.length : Int) > 30
  · rw [if_pos l30]
  · rw [if_neg l30, if_pos (by simp; omega), Is_eq h hb (by omega) hn (by omega), rIs9_eq h hb (by omega) n (by omega) (by omega), Many9_eq h hb (by omega) (by omega) (by omega), rMany9_eq h hb (by omega) (by omega) (by omega), Down_eq h hb (by omega) hn (by omega), rDown_eq h hb (by omega) hn (by omega) (by omega),
      Forks_eq h hb (by omega) (by omega) (by omega), rForks_eq h hb (by omega) (by omega) (by omega), Hang_eq h hb (by omega) (by omega) (by omega), rHang_eq h hb (by omega) (by omega) (by omega)]; simp only [bnd]
    have f1 : ∃ F : List Nat, (if Lst h l then (ints (frk h.toNat l), (0 : Int)) else ([], 1)).1 = ints F ∧ F.length ≤ 40000 := by
      by_cases c : Lst h l
      · refine ⟨frk h.toNat l, by rw [if_pos c], ?_⟩
        by_cases l0 : l = []
        · subst l0
          have : frk h.toNat [] = [] := by
            rw [List.eq_nil_iff_forall_not_mem]
            intro x hx
            have := (mem_frk.1 hx).2.2.1
            simp [inT] at this
          rw [this]; simp
        · have := (tree_len c.2.2.1 c.2.2.2 l0).2
          omega
      · exact ⟨[], by rw [if_neg c]; rfl, by simp⟩
    have f2 : ∃ F : List Nat, (if Lst h l then (ints (hng h.toNat l), (0 : Int)) else ([], 1)).1 = ints F ∧ F.length ≤ 40000 := by
      by_cases c : Lst h l
      · have hH := c.1
        rw [hi_iff] at hH
        exact ⟨hng h.toNat l, by rw [if_pos c], hng_len_le (by omega) c.2.2.1 c.2.2.2 c.2.1⟩
      · exact ⟨[], by rw [if_neg c]; rfl, by simp⟩
    obtain ⟨F, e1, g1⟩ := f1
    obtain ⟨G, e2, g2⟩ := f2
    rw [e1, e2, List.nil_append, Same2_eq F F (by omega) (by omega) (by omega), Same2_eq G G (by omega) (by omega) (by omega), Same2_eq l l (by omega) (by omega) (by omega)]; simp only [bnd]
    simp
end Go.Proofs.Ytoikjfcdpiikbaa.Pure
