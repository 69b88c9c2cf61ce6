/- LayerPairs: for every height: of useful subsets beside the way to a leaf there are no more than of all, and no fewer than the height; of a height whose step is 1 there are as many as of all; no condition. -/
import Derived.Test.YtmffkfakcbopcaaZLayerPairs
import Derived.Test.YtmffkfakcbopcaaMPx27
set_option linter.unusedVariables false
set_option linter.unusedSimpArgs false
set_option linter.unusedSectionVars false
namespace Go.Proofs.Ytmffkfakcbopcaa.Pure
open Go.RowKit Go.Proofs.Ytmffkfakcbopcaa.MP Go.Proofs.YtmffkfakcbopcaaW.PrintWords Go.Proofs.YtmffkfakcbopcaaW.PrintLast Go.Proofs.Ytmffkfakcbopcaa.Med
theorem LayerPairs : medlarlaw12_LayerPairs.Pure := by
  intro h w0
  obtain ⟨K, hK⟩ : ∃ K : Nat, K = 200200 := ⟨_, rfl⟩
  refine ⟨K, ?_⟩
  unfold medlarlaw12_LayerPairs.f
  have lp := lPairs_eq h (k := K) (by omega)
  have st := Step_eq h (k := K) (by omega)
  rw [live12 (by omega)]; simp only [bnd]
  by_cases c : Hi h
  · rw [if_pos c] at lp st
    rw [lp]; simp only [bnd]
    rw [st]; simp only [bnd]
    rw [hi_iff] at c
    obtain ⟨H, rfl⟩ : ∃ H : Nat, h = (H : Int) := ⟨h.toNat, by omega⟩
    rw [Int.toNat_natCast]
    have f := lpn_all ⟨H, by omega⟩ (by show 1 ≤ H; omega)
    dsimp only at f
    have hm : H * (H + 1) ≤ 32 * 33 := Nat.mul_le_mul (by omega) (by omega)
    have e1 : (H : Int) * ((H : Int) + 1) = ((H * (H + 1) : Nat) : Int) := by rw [Int.natCast_mul]; rfl
    have e : wrap64 (Int.tdiv (wrap64 ((H : Int) * wrap64 ((H : Int) + 1))) 2) = ((H * (H + 1) / 2 : Nat) : Int) := by
      rw [w64 (x := (H : Int) + 1) (by omega) (by omega), e1]
      generalize H * (H + 1) = m at hm
      rw [w64 (x := (m : Int)) (by omega) (by omega), Int.tdiv_eq_ediv_of_nonneg (by omega), w64 (by omega) (by omega)]
      omega
    rw [e]
    have sp := stp_pos H
    generalize H * (H + 1) = m at *
    generalize lpn H = n at *
    rw [if_pos (by trivial), if_pos (by trivial), if_pos (by trivial), if_pos (by omega), if_pos (by omega)]
    by_cases g : (stp H : Int) > 1
    · rw [if_pos g]
    · rw [if_neg g]
      have := f.2.2 (by omega)
      congr 1
      rw [beq_iff_eq]
      omega
  · rw [if_neg c] at lp
    rw [lp]; simp only [bnd]
    rw [if_neg (by omega), if_pos (by trivial)]; rfl
end Go.Proofs.Ytmffkfakcbopcaa.Pure
