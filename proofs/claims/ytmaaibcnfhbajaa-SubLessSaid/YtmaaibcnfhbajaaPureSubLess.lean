/- SubLess: for all subsets which one comes first goes one way, and of a subset that may be the parts that it is split into have as many leaves as it has; no condition. -/
import Derived.Test.YtmaaibcnfhbajaaMQ
import Derived.Test.YtmaaibcnfhbajaaMV8
import Derived.Test.YtmaaibcnfhbajaaMPx20
set_option linter.unusedVariables false
namespace Go.Proofs.Ytmaaibcnfhbajaa.Pure
open Go.RowKit Go.Proofs.Ytmaaibcnfhbajaa.MP Go.Proofs.YtmaaibcnfhbajaaW.PrintWords Go.Proofs.YtmaaibcnfhbajaaW.PrintLast Go.Proofs.Ytmaaibcnfhbajaa.Med

theorem less_l (h : Int) (hh : Hi h) (n : Nat) (l : List (Nat × Nat)) (hl : ∀ p ∈ l, Sb h.toNat p.1 p.2) (hb : l.length ≤ 2) : ∀ (q i s k : Nat), i + q = l.length → q + 20 < k → s + sumtot h.toNat (l.drop i) ≤ 8589934592 →
    medlarlaw08_SubLess.l0 k h true 0 (n : Int) 0 (s : Int) (sbs l) (l.length : Int) (i : Int) = some (((s + sumtot h.toNat (l.drop i) : Nat) : Int) == (n : Int)) := by
  intro q
  induction q with
  | zero =>
    intro i s k hi hk hs
    obtain ⟨k, rfl⟩ : ∃ m, k = m + 1 := ⟨k - 1, by omega⟩
    simp only [medlarlaw08_SubLess.l0]
    rw [if_neg (by omega), List.drop_of_length_le (by omega)]
    simp [sumtot]
  | succ q ih =>
    intro i s k hi hk hs
    obtain ⟨k, rfl⟩ : ∃ m, k = m + 1 := ⟨k - 1, by omega⟩
    have d1 : l.drop i = l[i] :: l.drop (i + 1) := List.drop_eq_getElem_cons (by omega)
    have dt : sumtot h.toNat (l.drop i) = tot (spn h.toNat l[i].1 l[i].2) + sumtot h.toNat (l.drop (i + 1)) := by rw [d1]; rfl
    have sp := hl l[i] (List.getElem_mem (by omega))
    simp only [medlarlaw08_SubLess.l0]
    obtain ⟨k, rfl⟩ : ∃ m, k = m + 1 := ⟨k - 1, by omega⟩
    have n1 := Many_eq h hh (spn_rise sp) (k := k + 1) (by have := spn_len h.toNat l[i].1 l[i].2; omega) (by have := spn_len h.toNat l[i].1 l[i].2; omega)
    rw [if_pos (by omega), if_pos (by omega), if_pos (by rw [sbs_len]; omega), rdT_sbs (show i < l.length by omega)]
    simp only
    rw [sLeaves_eq h (sb_lt sp).1 (sb_lt sp).2, if_pos sp]; simp only [bnd]
    rw [n1]; simp only [bnd]
    rw [if_pos trivial, if_pos trivial]
    rw [w64 (x := (i : Int) + 1) (by omega) (by omega), show (i : Int) + 1 = ((i + 1 : Nat) : Int) by omega, show (s : Int) + (tot (spn h.toNat l[i].1 l[i].2) : Int) = ((s + tot (spn h.toNat l[i].1 l[i].2) : Nat) : Int) by omega, wu64 (by omega) (by omega),
      ih (i + 1) _ (k + 1) (by omega) (by omega) (by omega)]
    rw [show s + tot (spn h.toNat l[i].1 l[i].2) + sumtot h.toNat (l.drop (i + 1)) = s + sumtot h.toNat (l.drop i) by omega]
theorem less_j1 (h : Int) {i j : Nat} (hi' : i < 18446744073709551616) (hj : j < 18446744073709551616) {k : Nat} (hk : 40 ≤ k) : medlarlaw08_SubLess.j1 k h true false (i : Int) (j : Int) = some true := by
  obtain ⟨k, rfl⟩ : ∃ m, k = m + 2 := ⟨k - 2, by omega⟩
  rw [medlarlaw08_SubLess.j1]
  rw [if_neg (by simp), Split_eq h hi' hj (by omega)]; simp only [bnd]
  by_cases s : Sb h.toNat i j
  · have hh : Hi h := by have := s.1; rw [nd_iff] at this; rw [hi_iff]; omega
    rw [if_pos s]; simp only [if_true]
    have n1 := Many_eq h hh (spn_rise s) (k := k + 1) (by have := spn_len h.toNat i j; omega) (by have := spn_len h.toNat i j; omega)
    rw [sLeaves_eq h hi' hj, if_pos s]; simp only [Option.bind_some, n1]
    have hl := spl_len h.toNat i j
    rw [sbs_len] at hl
    have ht := spl_tot s
    have hp := tot_le (spn_rise s) (Nat.zero_le _)
    have hp2 : 2 ^ h.toNat ≤ 4294967296 := pow_le_h (by have := s.1.2.1; omega)
    have := less_l h hh (tot (spn h.toNat i j)) (spl h.toNat i j) (spl_sb s) hl (spl h.toNat i j).length 0 0 (k + 1) (by omega) (by omega) (by simp; omega)
    rw [sbs_len]
    simp only [List.drop_zero, Nat.zero_add, ht] at this
    rw [show ((0 : Nat) : Int) = 0 from rfl] at this
    rw [this]; simp
  · rw [if_neg s]; simp
theorem less_j0 (h : Int) {a0 a1 b0 b1 c0 c1 : Nat} (hi' : a0 < 18446744073709551616) (hj : a1 < 18446744073709551616) {k : Nat} (hk : 60 ≤ k) :
    medlarlaw08_SubLess.j0 k h true false (a0 : Int) (a1 : Int) (b0 : Int) (b1 : Int) (c0 : Int) (c1 : Int) = some true := by
  obtain ⟨k, rfl⟩ : ∃ m, k = m + 1 := ⟨k - 1, by omega⟩
  simp only [medlarlaw08_SubLess.j0]
  rw [if_neg (by simp), Less_eq _ _ _ _ (by omega), Less_eq _ _ _ _ (by omega), Less_eq _ _ _ _ (by omega)]; simp only [bnd]
  have e := less_j1 h hi' hj (k := k) (by omega)
  by_cases x : Lss (a0, a1) (b0, b1)
  · by_cases y : Lss (b0, b1) (c0, c1)
    · have z : Lss (a0, a1) (c0, c1) := by rw [lss_iff] at *; simp only at *; omega
      simp only [x, y, z, decide_true, if_true]; exact e
    · simp only [x, y, decide_true, decide_false, if_true, Bool.false_eq_true, if_false]; exact e
  · simp only [x, decide_false, Bool.false_eq_true, if_false]; exact e
theorem SubLess : medlarlaw08_SubLess.Pure := by
  intro h a0 a1 b0 b1 c0 c1 w0 w1 w2 w3 w4 w5 w6
  obtain ⟨a0, rfl, ha0⟩ := wf_u64 w1
  obtain ⟨a1, rfl, ha1⟩ := wf_u64 w2
  obtain ⟨b0, rfl, hb0⟩ := wf_u64 w3
  obtain ⟨b1, rfl, hb1⟩ := wf_u64 w4
  obtain ⟨c0, rfl, hc0⟩ := wf_u64 w5
  obtain ⟨c1, rfl, hc1⟩ := wf_u64 w6
  refine ⟨100, ?_⟩
  have e := less_j0 h (b0 := b0) (b1 := b1) (c0 := c0) (c1 := c1) ha0 ha1 (k := 100) (by omega)
  unfold medlarlaw08_SubLess.f
  rw [live8 (by omega), Less_eq _ _ _ _ (by omega), Less_eq _ _ _ _ (by omega), Less_eq _ _ _ _ (by omega)]; simp only [bnd]
  have n0 : ¬ Lss (a0, a1) (a0, a1) := by rw [lss_iff]; simp only; omega
  by_cases x : Lss (a0, a1) (b0, b1)
  · have y : ¬ Lss (b0, b1) (a0, a1) := by rw [lss_iff] at *; simp only at *; omega
    simp only [n0, x, y, decide_true, decide_false, Bool.false_eq_true, if_true, if_false, e]
    split <;> rfl
  · by_cases y : Lss (b0, b1) (a0, a1)
    · simp only [n0, x, y, decide_true, decide_false, Bool.false_eq_true, if_true, if_false, Bool.not_true, e]
      split <;> rfl
    · have z : a0 = b0 ∧ a1 = b1 := by rw [lss_iff] at *; simp only at *; omega
      obtain ⟨rfl, rfl⟩ := z
      simp only [n0, decide_false, Bool.false_eq_true, if_false]
      simpa using e
end Go.Proofs.Ytmaaibcnfhbajaa.Pure
