/- HeadLong, plainly. -/
import Derived.Test.YtoljdfgkkkpnbaaZHeadLong
import Derived.Test.YtoljdfgkkkpnbaaMPx4
import Derived.Test.YtoljdfgkkkpnbaaMPx7
set_option linter.unusedVariables false
set_option linter.unusedSimpArgs false
set_option linter.unusedSectionVars false
namespace Go.Proofs.Ytoljdfgkkkpnbaa.Pure
open Go.RowKit Go.Proofs.YtoljdfgkkkpnbaaW.PrintWords Go.Proofs.YtoljdfgkkkpnbaaW.PrintMore Go.Proofs.Ytoljdfgkkkpnbaa.MP Go.Proofs.Ytoljdfgkkkpnbaa.Med
theorem len_ok {p n : Int} (h : head_Length.f p = some (n, 0)) : 0 ≤ p ∧ p ≤ 32768 ∧ n = 47 + 48 * p := by
  unfold head_Length.f at h
  by_cases c : p < 0
  · rw [if_pos c] at h; simp at h
  · rw [if_neg c] at h
    by_cases d : p > 32768
    · rw [if_pos d] at h; simp at h
    · rw [if_neg d, w64 (x := 48 * p) (by omega) (by omega), w64 (x := 15 + 48 * p) (by omega) (by omega), w64 (by omega) (by omega)] at h
      simp at h; omega
theorem len_tot (p : Int) : ∃ n c, head_Length.f p = some (n, c) := by
  unfold head_Length.f
  split
  · exact ⟨_, _, rfl⟩
  · split <;> exact ⟨_, _, rfl⟩
theorem HeadLong : medlarlaw16_HeadLong.Pure := by
  intro l0 p hl _ hw hp
  obtain ⟨hp1, hp2⟩ := wf_i64 hp
  obtain ⟨b, rfl, hb⟩ := ints_of8 l0 hw
  refine ⟨400, ?_⟩
  unfold medlarlaw16_HeadLong.f
  rw [live16 (by decide), bnd]
  have big : ∀ x, medlarlaw16_HeadLong.j0 400 (ints b) p true x = if x = true then some true else medlarlaw16_HeadLong.j0 400 (ints b) p true x := by
    intro x; cases x
    · simp
    · rw [medlarlaw16_HeadLong.j0]; simp
  by_cases c1 : ((ints b).length : Int) > 9000
  · rw [if_pos c1, big, if_pos rfl]
  rw [if_neg c1]
  rw [ints_len] at c1
  by_cases c2 : p > 1048576
  · rw [decide_eq_true c2, big, if_pos rfl]
  rw [decide_eq_false c2, medlarlaw16_HeadLong.j0, if_neg (by decide), w64 (x := p + 1) (by omega) (by omega)]
  obtain ⟨n, e, he⟩ := len_tot p
  obtain ⟨m, f, hf⟩ := len_tot (p + 1)
  rw [he, bnd, hf, bnd]
  dsimp only
  have tail : medlarlaw16_HeadLong.j1 399 (ints b) true false = some true := by
    rw [medlarlaw16_HeadLong.j1, if_neg (by decide)]
    by_cases d : b.length < 47 ∨ (b.length - 47) % 48 ≠ 0
    · rw [From_no b d (by omega), bnd]
      dsimp only [resNo]
      exact (if_neg (show ¬ ((2 : Int) = 0) by decide)).trans rfl
    · have hm : b.length = 47 + 48 * ((b.length - 47) / 48) := by omega
      rw [From_eq b hb ((b.length - 47) / 48) hm (by omega) (by omega), bnd]
      by_cases r : Rd ((b.length - 47) / 48) b
      · rw [if_pos r]
        dsimp only [resOf]
        refine (if_pos rfl).trans ?_
        rw [hprs_len, Len_eq _ (by omega), bnd]
        dsimp only
        rw [if_pos rfl, if_pos rfl, if_pos (by rw [ints_len]; omega)]
        congr 1
        rw [ints_len, beq_iff_eq]; omega
      · rw [if_neg r]
        dsimp only [resNo]
        exact (if_neg (show ¬ ((2 : Int) = 0) by decide)).trans rfl
  by_cases c3 : e = 0
  · rw [if_pos c3]
    by_cases c4 : f = 0
    · rw [if_pos c4]
      subst c3; subst c4
      have h1 := len_ok he
      have h2 := len_ok hf
      have : (m != wrap64 (n + 48)) = false := by rw [w64 (by omega) (by omega)]; simp; omega
      rw [this]; exact tail
    · rw [if_neg c4]; exact tail
  · rw [if_neg c3]; exact tail
end Go.Proofs.Ytoljdfgkkkpnbaa.Pure
