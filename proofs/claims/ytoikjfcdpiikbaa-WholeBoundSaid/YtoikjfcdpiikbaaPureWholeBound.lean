/- WholeBound: for every height and every number: of one leaf the bound is the height, of as many as there are it is none; it is never above the height, taken as often as there are leaves; no condition. -/
import Derived.Test.YtoikjfcdpiikbaaZWholeBound
import Derived.Test.YtoikjfcdpiikbaaMPx20
set_option linter.unusedVariables false
set_option linter.unusedSimpArgs false
set_option linter.unusedSectionVars false
namespace Go.Proofs.Ytoikjfcdpiikbaa.Pure
open Go.RowKit Go.Proofs.Ytoikjfcdpiikbaa.MP Go.Proofs.YtoikjfcdpiikbaaW.PrintWords Go.Proofs.YtoikjfcdpiikbaaW.PrintLast Go.Proofs.Ytoikjfcdpiikbaa.Med
theorem shl_i64 {h : Nat} (hh : h ≤ 10) : shl .i64 1 (h : Int) = ((2 ^ h : Nat) : Int) := by
  have : ∀ i : Fin 11, shl .i64 1 (i.val : Int) = ((2 ^ i.val : Nat) : Int) := by decide +kernel
  exact this ⟨h, by omega⟩
theorem log2_pow (h : Nat) : (2 ^ h).log2 = h := by
  have := pow_pos2 h
  exact (log2_iff (by omega)).2 ⟨Nat.le_refl _, by rw [Nat.pow_succ]; omega⟩
theorem WholeBound : medlarlaw10_WholeBound.Pure := by
  intro h many w0 w1
  refine ⟨100, ?_⟩
  generalize hK : (100 : Nat) = K
  unfold medlarlaw10_WholeBound.f
  rw [live10 (by omega), WBound_eq h many (by omega), WBound_eq h 1 (by omega)]; simp only [bnd]
  by_cases c : Bd h many
  · have hh := c.1
    have hH := hh
    rw [hi_iff] at hH
    obtain ⟨m, rfl⟩ := Int.eq_ofNat_of_zero_le c.2.1
    have hm : m ≤ 1024 := by have := c.2.2.1; omega
    have hp := pow_pos2 h.toNat
    have c1 : Bd h 1 := ⟨hh, by omega, by omega, by have : (1 : Int).toNat = 1 := rfl; omega⟩
    have b1 : bdn h.toNat (1 : Int).toNat = h.toNat := by
      have : (1 : Int).toNat = 1 := rfl
      rw [this]; unfold bdn; simp [log2_one]
    have wm : wrap64 (mx (m : Int) 1 * h) = ((max m 1 * h.toNat : Nat) : Int) := by
      have e1 : mx (m : Int) 1 = ((max m 1 : Nat) : Int) := by unfold mx; split <;> omega
      have e2 : ((max m 1 : Nat) : Int) * h = ((max m 1 * h.toNat : Nat) : Int) := by
        have : h = ((h.toNat : Nat) : Int) := by omega
        rw [Int.natCast_mul, ← this]
      have : max m 1 * h.toNat ≤ 1024 * 32 := Nat.mul_le_mul (by omega) (by omega)
      rw [e1, e2, w64 (by omega) (by omega)]
    have hmx : max m 1 * h.toNat ≤ 1024 * 32 := Nat.mul_le_mul (by omega) (by omega)
    have le : bdn h.toNat m ≤ max m 1 * h.toNat := by
      unfold bdn
      split
      · have : 1 * 1 ≤ max m 1 * h.toNat := Nat.mul_le_mul (by omega) (by omega)
        omega
      · exact Nat.mul_le_mul (by omega) (by omega)
    rw [if_pos c, if_pos c1]; dsimp only
    rw [if_pos rfl, if_pos rfl, b1, wm, wu64 (x := h) (by omega) (by omega), wu64 (by omega) (by omega), if_pos (by omega), Int.toNat_natCast, decide_eq_false (by omega)]
    obtain ⟨K, rfl⟩ : ∃ j, K = j + 1 := ⟨K - 1, by omega⟩
    rw [medlarlaw10_WholeBound.j0, if_neg (by simp)]
    by_cases h10 : h > 10
    · rw [if_pos h10]
    · have e : h = ((h.toNat : Nat) : Int) := by omega
      rw [if_neg h10, if_pos (by omega), WBound_eq h _ (by omega)]; simp only [bnd]
      rw [e, shl_i64 (h := h.toNat) (by omega), ← e]
      have p10 : 2 ^ h.toNat ≤ 1024 := by have := pow_mono (show h.toNat ≤ 10 by omega); simpa using this
      have c2 : Bd h ((2 ^ h.toNat : Nat) : Int) := ⟨hh, by omega, by omega, by rw [Int.toNat_natCast]; omega⟩
      rw [if_pos c2, Int.toNat_natCast]
      have : bdn h.toNat (2 ^ h.toNat) = 0 := by unfold bdn; rw [if_neg (by omega), log2_pow]; simp
      rw [this]; rfl
  · rw [if_neg c]; simp
end Go.Proofs.Ytoikjfcdpiikbaa.Pure
