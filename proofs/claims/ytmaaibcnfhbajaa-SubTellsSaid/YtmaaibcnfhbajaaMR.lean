/- What the functions of package medlarref01 come to, on numbers. -/
import Derived.Test.YtmaaibcnfhbajaaMN
import Derived.Test.YtmaaibcnfhbajaaMPx5
import Derived.Test.YtmaaibcnfhbajaaMPx6
set_option linter.unusedVariables false
set_option linter.unusedSimpArgs false
namespace Go.Proofs.Ytmaaibcnfhbajaa.Med
open Go.RowKit Go.Proofs.YtmaaibcnfhbajaaW.PrintWords Go.Proofs.YtmaaibcnfhbajaaW.PrintMore Go.Proofs.Ytmaaibcnfhbajaa.MP

def ints (l : List Nat) : List Int := l.map Int.ofNat
theorem ints_len (l : List Nat) : (ints l).length = l.length := by simp [ints]
theorem ints_rd {l : List Nat} {i : Nat} (h : i < l.length) : rd (ints l) (i : Int) = ((l[i] : Nat) : Int) := by
  unfold rd ints
  simp [List.getD_eq_getElem?_getD, h]
theorem rd_cast (l : List Int) {i : Nat} (h : i < l.length) : rd l (i : Int) = l[i] := by
  unfold rd
  simp [List.getD_eq_getElem?_getD, h]

theorem power_l (d : Nat) (hd : d ≤ 63) : ∀ (m i k : Nat), i + m = d → m < k → medlarref01_power.l0 k ((2 ^ i : Nat) : Int) (d : Int) (i : Int) = some ((2 ^ d : Nat) : Int) := by
  intro m
  induction m with
  | zero =>
    intro i k hi hk
    obtain ⟨k, rfl⟩ : ∃ m, k = m + 1 := ⟨k - 1, by omega⟩
    simp only [medlarref01_power.l0]
    rw [if_neg (by omega)]
    rw [show i = d by omega]
  | succ m ih =>
    intro i k hi hk
    obtain ⟨k, rfl⟩ : ∃ m, k = m + 1 := ⟨k - 1, by omega⟩
    have hp : 2 ^ (i + 1) ≤ 2 ^ 63 := pow_mono (by omega)
    have hs : 2 ^ (i + 1) = 2 * 2 ^ i := by rw [Nat.pow_succ, Nat.mul_comm]
    simp only [medlarref01_power.l0]
    rw [if_pos (by omega), w64 (by omega) (by omega), wu64 (by omega) (by omega), show 2 * ((2 ^ i : Nat) : Int) = ((2 ^ (i + 1) : Nat) : Int) by omega, show (i : Int) + 1 = ((i + 1 : Nat) : Int) by omega]
    exact ih (i + 1) k (by omega) (by omega)
theorem power_eq {d k : Nat} (hd : d ≤ 63) (hk : 64 ≤ k) : medlarref01_power.f k (d : Int) = some ((2 ^ d : Nat) : Int) := by
  unfold medlarref01_power.f
  have := power_l d hd d 0 k (by omega) (by omega)
  simpa using this
theorem nd_lt {h n : Nat} : Nd h n ↔ 1 ≤ h ∧ h ≤ 32 ∧ 1 ≤ n ∧ n < 2 ^ (h + 1) := by
  rw [nd_iff]
  constructor
  · rintro ⟨a, b, c, d⟩; exact ⟨a, b, by omega, (Nat.log2_lt c).1 (by omega)⟩
  · rintro ⟨a, b, c, d⟩; exact ⟨a, b, by omega, by have := (Nat.log2_lt (n := n) (by omega)).2 d; omega⟩
theorem may_eq (h : Int) (n : Nat) {k : Nat} (hk : 64 ≤ k) : medlarref01_May.f k h (n : Int) = some (decide (Nd h.toNat n)) := by
  unfold medlarref01_May.f
  by_cases h1 : h ≥ 1
  · rw [if_pos h1]
    by_cases h2 : h ≤ 32
    · rw [if_pos h2]
      by_cases h3 : (n : Int) ≥ 1
      · rw [if_pos h3, w64 (by omega) (by omega), show h + 1 = ((h.toNat + 1 : Nat) : Int) by omega, power_eq (by omega) hk]
        simp only [Option.bind_some]
        congr 1
        rw [decide_eq_decide, nd_lt]
        have : ((n : Int) < ((2 ^ (h.toNat + 1) : Nat) : Int)) ↔ n < 2 ^ (h.toNat + 1) := Int.ofNat_lt
        rw [this]; omega
      · rw [if_neg h3]; congr 1; symm; rw [decide_eq_false_iff_not, nd_iff]; omega
    · rw [if_neg h2]; congr 1; symm; rw [decide_eq_false_iff_not, nd_iff]; omega
  · rw [if_neg h1]; congr 1; symm; rw [decide_eq_false_iff_not, nd_iff]; omega
theorem tdiv2 (n : Nat) : IntKind.u64.wrap (Int.tdiv (n : Int) 2) = ((n / 2 % 18446744073709551616 : Nat) : Int) := by
  have : IntKind.u64.wrap (Int.tdiv (n : Int) 2) = (Int.tdiv (n : Int) 2) % 18446744073709551616 := rfl
  rw [this, Int.tdiv_eq_ediv_of_nonneg (by omega)]; omega
theorem chain_eq : ∀ (k n : Nat), n ≠ 0 → n < 18446744073709551616 → n.log2 < k → medlarref01_Chain.f k (n : Int) = some (ints (chn n)) := by
  intro k
  induction k with
  | zero => intro n _ _ h; omega
  | succ k ih =>
    intro n h0 hn hk
    simp only [medlarref01_Chain.f]
    by_cases h1 : n = 1
    · subst h1; rw [if_pos (by rfl), chn_one]; rfl
    · have hl := log2_half (n := n) (by omega)
      have := log2_64 hn
      rw [if_neg (by omega), tdiv2, show n / 2 % 18446744073709551616 = n / 2 by omega, ih (n / 2) (by omega) (by omega) (by omega)]
      simp only [Option.bind_some]
      rw [ints_len, chn_len, if_pos (by omega), chn_snoc (n := n) (by omega)]
      simp [ints]
theorem is_l (a : Nat) (l : List Nat) (hl : l.length < 1000) : ∀ (m i k : Nat), i + m = l.length → m < k → medlarref01_Is.l0 k (a : Int) (ints l) (l.length : Int) (i : Int) = some (decide (a ∈ l.drop i)) := by
  intro m
  induction m with
  | zero =>
    intro i k hi hk
    obtain ⟨k, rfl⟩ : ∃ m, k = m + 1 := ⟨k - 1, by omega⟩
    simp only [medlarref01_Is.l0]
    rw [if_neg (by omega), List.drop_of_length_le (by omega)]; simp
  | succ m ih =>
    intro i k hi hk
    obtain ⟨k, rfl⟩ : ∃ m, k = m + 1 := ⟨k - 1, by omega⟩
    simp only [medlarref01_Is.l0]
    rw [if_pos (by omega), if_pos (by omega), if_pos (by rw [ints_len]; omega), ints_rd (by omega), List.drop_eq_getElem_cons (by omega)]
    by_cases h : l[i] = a
    · rw [if_pos (by omega)]; simp [h]
    · rw [if_neg (by omega), w64 (by omega) (by omega), show (i : Int) + 1 = ((i + 1 : Nat) : Int) by omega, ih (i + 1) k (by omega) (by omega)]
      congr 1; rw [decide_eq_decide, List.mem_cons]
      constructor
      · intro x; exact .inr x
      · rintro (x | x)
        · exact absurd x.symm h
        · exact x
theorem is_eq (a : Nat) {b : Nat} (hb0 : b ≠ 0) (hb : b < 18446744073709551616) {k : Nat} (hk : 70 ≤ k) : medlarref01_Is.f k (a : Int) (b : Int) = some (decide (Abv a b)) := by
  have h2 := log2_64 hb
  unfold medlarref01_Is.f
  rw [chain_eq k b hb0 hb (by omega)]; simp only [Option.bind_some]
  rw [ints_len]
  have := is_l a (chn b) (by rw [chn_len]; omega) (chn b).length 0 k (by omega) (by rw [chn_len]; omega)
  rw [show ((0 : Nat) : Int) = 0 by rfl] at this
  rw [this, List.drop_zero]
  congr 1; rw [decide_eq_decide, mem_chn hb0]
theorem rUp_eq (h : Int) {n : Nat} (hn : n < 18446744073709551616) (d : Int) {k : Nat} (hk : 70 ≤ k) :
    medlarref01_Up.f k h (n : Int) d = some (if Nd h.toNat n then (if 0 ≤ d ∧ d ≤ n.log2 then ((anc n d.toNat : Int), 0) else (0, 4)) else (0, 1)) := by
  have h2 := log2_64 hn
  unfold medlarref01_Up.f
  rw [may_eq h n (by omega)]; simp only [Option.bind_some]
  by_cases h1 : Nd h.toNat n
  · rw [decide_eq_true h1, if_pos rfl, if_pos h1, chain_eq k n h1.2.2.1 hn (by omega)]; simp only [Option.bind_some]
    rw [ints_len, chn_len]
    by_cases h3 : d < 0
    · rw [if_pos h3, if_neg (by omega)]
    · rw [if_neg h3]
      by_cases h4 : d > n.log2
      · rw [if_pos (by omega), if_neg (by omega)]
      · obtain ⟨e, rfl⟩ := Int.eq_ofNat_of_zero_le (show 0 ≤ d by omega)
        rw [if_neg (by omega), if_pos (by omega), if_pos (by omega), if_pos (by omega), ints_rd (by rw [chn_len]; omega), chn_get]
        rfl
  · rw [decide_eq_false h1, if_neg (by simp), if_neg h1]
end Go.Proofs.Ytmaaibcnfhbajaa.Med
