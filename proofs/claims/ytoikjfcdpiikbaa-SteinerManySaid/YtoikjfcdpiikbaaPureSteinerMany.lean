/- SteinerMany: for every height and every list of at most thirty numbers: a tree has as many nodes as hang on it, as there are forks, and leaves of the set, together; of one leaf it has one more than the height, and as many hang as that is; no condition. -/
import Derived.Test.YtoikjfcdpiikbaaZSteinerMany
import Derived.Test.YtoikjfcdpiikbaaMPx6
set_option linter.unusedVariables false
set_option linter.unusedSimpArgs false
set_option linter.unusedSectionVars false
namespace Go.Proofs.Ytoikjfcdpiikbaa.Pure
open Go.RowKit Go.Proofs.Ytoikjfcdpiikbaa.MP Go.Proofs.YtoikjfcdpiikbaaW.PrintWords Go.Proofs.YtoikjfcdpiikbaaW.PrintLast Go.Proofs.Ytoikjfcdpiikbaa.Med
theorem one_lvl {H i : Nat} (hi : i < 2 ^ H) : ∀ d, d ≤ H → (lvl H [i] d).length = 1 := by
  intro d hd
  have hl : ∀ j ∈ [i], j < 2 ^ H := by simpa using hi
  have hu : Up [i] := by unfold Up; simp
  have a := (lvl_le hl hu d hd).1
  have b := fks_len hl (by simp) hd
  simp only [List.length_singleton] at a
  omega
theorem one_trs {H i : Nat} (hi : i < 2 ^ H) : ∀ d, d ≤ H + 1 → (trs H [i] d).length = d
  | 0, _ => rfl
  | d + 1, hd => by rw [trs, List.length_append, one_trs hi d (by omega), one_lvl hi d (by omega)]
theorem SteinerMany : medlarlaw09_SteinerMany.Pure := by
  intro h l w0 w1 w2 w3
  obtain ⟨l, rfl, hb⟩ := ints_of l w3
  have hw := wf_i64 w0
  refine ⟨200100, ?_⟩
  generalize hK : (200100 : Nat) = K
  unfold medlarlaw09_SteinerMany.f
  rw [live9 (by omega)]; simp only [bnd]
  rw [ints_len] at *
  by_cases l30 : (l.length : Int) > 30
  · rw [if_pos l30]
  · rw [if_neg l30, Many9_eq h hb (by omega) (by omega) (by omega), Hang_eq h hb (by omega) (by omega) (by omega), Forks_eq h hb (by omega) (by omega) (by omega)]; simp only [bnd]
    by_cases c : Lst h l
    · obtain ⟨hh, n1, hl, hu⟩ := c
      have c : Lst h l := ⟨hh, n1, hl, hu⟩
      rw [hi_iff] at hh
      rw [if_pos c, if_pos c, if_pos c]; dsimp only
      rw [if_pos rfl]
      by_cases l0 : l = []
      · subst l0
        have : trs h.toNat [] (h.toNat + 1) = [] := by
          have : ∀ D, trs h.toNat [] D = [] := by
            intro D
            induction D with
            | zero => rfl
            | succ D ih => rw [trs, ih]; simp [lvl, inT]
          exact this _
        rw [this]
        simp [hng, ints, rd]
      · have ln : l.length ≠ 0 := fun z => l0 (List.length_eq_zero_iff.1 z)
        obtain ⟨t1, t2⟩ := tree_len hl hu l0
        have tl := trs_len hl hu (h.toNat + 1) (Nat.le_refl _)
        have tm : (h.toNat + 1) * l.length ≤ 33 * 30 := Nat.mul_le_mul (by omega) (by omega)
        rw [if_neg (by omega), if_pos (by trivial), if_pos (by trivial), if_pos (by trivial), ints_len, ints_len, w64 (x := ((hng h.toNat l).length : Int) + _) (by omega) (by omega), w64 (by omega) (by omega), if_pos (by omega)]
        by_cases l1 : l.length = 1
        · obtain ⟨i, rfl⟩ := List.length_eq_one_iff.1 l1
          have hi := hl i (by simp)
          have e1 := one_trs hi (h.toNat + 1) (Nat.le_refl _)
          rw [e1] at t1 ⊢
          rw [if_pos (by simp), w64 (by omega) (by omega), if_pos (by omega)]
          congr 1
          rw [beq_iff_eq]
          simp only [List.length_singleton] at t1 t2
          omega
        · rw [if_neg (by omega)]
    · rw [if_neg c, if_neg c, if_neg c]; simp
end Go.Proofs.Ytoikjfcdpiikbaa.Pure
