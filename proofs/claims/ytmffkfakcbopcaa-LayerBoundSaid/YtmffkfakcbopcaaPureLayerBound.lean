/- LayerBound: for every height, and number: a bound of differences is never above that of useful ones, nor that above twice it; of one leaf these are 1, and 2; no condition. -/
import Derived.Test.YtmffkfakcbopcaaZLayerBound
import Derived.Test.YtmffkfakcbopcaaMPx29
set_option linter.unusedVariables false
set_option linter.unusedSimpArgs false
set_option linter.unusedSectionVars false
namespace Go.Proofs.Ytmffkfakcbopcaa.Pure
open Go.RowKit Go.Proofs.Ytmffkfakcbopcaa.MP Go.Proofs.YtmffkfakcbopcaaW.PrintWords Go.Proofs.YtmffkfakcbopcaaW.PrintLast Go.Proofs.Ytmffkfakcbopcaa.Med
theorem LayerBound : medlarlaw12_LayerBound.Pure := by
  intro h many w0 w1
  have hw := wf_i64 w1
  obtain ⟨K, hK⟩ : ∃ K : Nat, K = 200200 := ⟨_, rfl⟩
  refine ⟨K, ?_⟩
  unfold medlarlaw12_LayerBound.f
  have s1 : Sch 1 := by rw [sch_iff]; omega
  have s2 : Sch 2 := by rw [sch_iff]; omega
  have s3 : Sch 3 := by rw [sch_iff]; omega
  have b1 := LBound_eq h 1 many hw (k := K) (by omega)
  have b2 := LBound_eq h 2 many hw (k := K) (by omega)
  have b3 := LBound_eq h 3 many hw (k := K) (by omega)
  have bo := LBound_eq h 3 1 (by omega) (k := K) (by omega)
  rw [live12 (by omega)]; simp only [bnd]
  by_cases c : Bd h many
  · rw [if_pos ⟨s1, c⟩] at b1
    rw [if_pos ⟨s2, c⟩] at b2
    rw [if_pos ⟨s3, c⟩] at b3
    obtain ⟨c1, c2, c3, c4⟩ := c
    rw [hi_iff] at c1
    obtain ⟨H, rfl⟩ : ∃ H : Nat, h = (H : Int) := ⟨h.toNat, by omega⟩
    obtain ⟨m, rfl⟩ : ∃ m : Nat, many = (m : Int) := ⟨many.toNat, by omega⟩
    have p1 : 1 ≤ 2 ^ H := pow_pos2 H
    have co : Sch 3 ∧ Bd (H : Int) 1 := ⟨s3, by rw [hi_iff]; omega, by omega, by omega, by rw [Int.toNat_natCast]; exact p1⟩
    rw [if_pos co] at bo
    rw [Int.toNat_natCast, Int.toNat_natCast] at *
    have e1 : lbn H 3 (1 : Int).toNat = 2 := by unfold lbn dbn; simp
    rw [e1] at bo
    rw [b2]; simp only [bnd]
    rw [b3]; simp only [bnd]
    rw [b1]; simp only [bnd]
    rw [if_pos (by trivial), bo]; simp only [bnd]
    have d2 : lbn H 2 m = dbn m := by unfold lbn; simp
    have d3 : lbn H 3 m = if m = 0 then dbn m else 2 * dbn m := by unfold lbn; simp
    have d1 : lbn H 1 m = bdn H m := by unfold lbn; simp
    have dd : dbn m ≤ 4096 := by unfold dbn; split <;> omega
    rw [d1, d2, d3]
    rw [if_pos (by trivial), if_pos (by trivial), if_pos (by trivial), if_pos (by trivial), if_pos (by trivial), wu64 (by omega) (by omega)]
    by_cases m0 : m = 0
    · subst m0
      rw [if_pos (by simp), if_pos (by simp [dbn]), if_neg (by omega), if_pos (by omega), if_pos (by simp [dbn]), if_pos (by simp [dbn])]
      rfl
    · rw [if_neg m0, if_pos (by omega), if_pos (by omega)]
      by_cases m1 : m = 1
      · subst m1
        have x1 : bdn H 1 = H := by unfold bdn; rw [if_neg (by omega), log2_one]; omega
        rw [if_pos (by omega), if_pos (by simp [dbn]), x1, wu64 (by omega) (by omega), if_pos rfl, if_neg (by omega)]
      · rw [if_neg (by omega), if_neg (by omega)]
  · rw [if_neg (fun z => c z.2)] at b1 b2 b3
    rw [b2]; simp only [bnd]
    rw [b3]; simp only [bnd]
    rw [b1]; simp only [bnd]
    rw [if_neg (by omega), if_pos (by trivial), if_pos (by trivial)]; rfl
end Go.Proofs.Ytmffkfakcbopcaa.Pure
