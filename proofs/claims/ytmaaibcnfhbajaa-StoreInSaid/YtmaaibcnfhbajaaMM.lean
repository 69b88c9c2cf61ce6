/- How many leaves spans have; whether a leaf is in a subset; whether two subsets touch: what the functions come to, on numbers. -/
import Derived.Test.YtmaaibcnfhbajaaML
import Derived.Test.YtmaaibcnfhbajaaMPx13
import Derived.Test.YtmaaibcnfhbajaaMPx15
import Derived.Test.YtmaaibcnfhbajaaMPx16
import Derived.Test.YtmaaibcnfhbajaaMPx18
import Derived.Test.YtmaaibcnfhbajaaMPx21
set_option linter.unusedVariables false
set_option linter.unusedSimpArgs false
namespace Go.Proofs.Ytmaaibcnfhbajaa.Med
open Go.RowKit Go.Proofs.YtmaaibcnfhbajaaW.PrintWords Go.Proofs.YtmaaibcnfhbajaaW.PrintMore Go.Proofs.Ytmaaibcnfhbajaa.MP

/-- There is such a leaf. -/
def Lfi (h : Int) (p : Nat) : Prop := Hi h ∧ p < 2 ^ h.toNat
instance (h : Int) (p : Nat) : Decidable (Lfi h p) := inferInstanceAs (Decidable (_ ∧ _))
theorem lfi_iff (h : Int) (p : Nat) : Lfi h p ↔ Hi h ∧ p < 2 ^ h.toNat := Iff.rfl
theorem lis_eq (h : Int) {p : Nat} (hp : p < 18446744073709551616) : leaf_is.f h (p : Int) = some (decide (Lfi h p)) := by
  unfold leaf_is.f
  rw [nLeaf_eq h hp]; simp only [Option.bind_some]
  by_cases h1 : Hi h
  · rw [if_pos h1]
    by_cases h2 : p < 2 ^ h.toNat
    · rw [if_pos h2, decide_eq_true ⟨h1, h2⟩]; simp [h2]
    · rw [if_neg h2, decide_eq_false (fun z => h2 z.2)]; simp [h2]
  · rw [if_neg h1, decide_eq_false (fun z => h1 z.1)]; rfl
theorem rdT_sps {l : List (Nat × Nat)} {i : Nat} (h : i < l.length) : rd_T50 (sps l) (i : Int) = ⟨(l[i].1 : Int), (l[i].2 : Int)⟩ := by
  unfold rd_T50 sps
  simp [List.getD_eq_getElem?_getD, h]
theorem sps_len (l : List (Nat × Nat)) : (sps l).length = l.length := by simp [sps]
/-- What rises, rises from each place on. -/
theorem Rise.at {m : Nat} : ∀ {l : List (Nat × Nat)} {a i : Nat} (h : Rise m a l) (hi : i < l.length), l[i].1 ≤ l[i].2 ∧ l[i].2 < m ∧ a ≤ l[i].1 ∧ (∀ (h0 : 0 < i), l[i - 1].2 < l[i].1) ∧ Rise m (l[i].2 + 1) (l.drop (i + 1))
  | [], _, _, _, hi => by simp at hi
  | x :: l, a, 0, r, _ => by
    obtain ⟨r1, r2, r3, r4⟩ := r
    simp only [List.getElem_cons_zero, List.drop_succ_cons, List.drop_zero]
    exact ⟨r2, r3, r1, fun h => absurd h (by omega), r4⟩
  | x :: l, a, i + 1, r, hi => by
    obtain ⟨r1, r2, r3, r4⟩ := r
    have hi' : i < l.length := by simpa using hi
    obtain ⟨p1, p2, p3, p4, p5⟩ := Rise.at r4 hi'
    simp only [List.getElem_cons_succ, List.drop_succ_cons]
    refine ⟨p1, p2, by omega, fun _ => ?_, p5⟩
    cases i with
    | zero => simp; omega
    | succ i => simpa using p4 (by omega)
theorem many_l (h : Int) (hh : Hi h) (l : List (Nat × Nat)) (hr : Rise (2 ^ h.toNat) 0 l) (hb : l.length < 4611686018427387904) : ∀ (q i n k : Nat), i + q = l.length → q < k → n + tot (l.drop i) ≤ 4294967296 →
    leaf_Many.l0 k h (sps l) (n : Int) (sps l) (l.length : Int) (i : Int) = some (((n + tot (l.drop i) : Nat) : Int), 0) := by
  have hp : 2 ^ h.toNat ≤ 4294967296 := pow_le_h (by rw [hi_iff] at hh; omega)
  intro q
  induction q with
  | zero =>
    intro i n k hi hk hn
    obtain ⟨k, rfl⟩ : ∃ m, k = m + 1 := ⟨k - 1, by omega⟩
    simp only [leaf_Many.l0]
    rw [if_neg (by omega), List.drop_of_length_le (by omega)]; simp [tot]
  | succ q ih =>
    intro i n k hi hk hn
    obtain ⟨k, rfl⟩ : ∃ m, k = m + 1 := ⟨k - 1, by omega⟩
    obtain ⟨r1, r2, r3, r4, r5⟩ := hr.at (show i < l.length by omega)
    have d1 : l.drop i = l[i] :: l.drop (i + 1) := List.drop_eq_getElem_cons (by omega)
    have dt : tot (l.drop i) = (l[i].2 - l[i].1 + 1) + tot (l.drop (i + 1)) := by rw [d1]; rfl
    simp only [leaf_Many.l0]
    rw [if_pos (by omega), if_pos (by omega), if_pos (by rw [sps_len]; omega), rdT_sps (show i < l.length by omega)]
    simp only
    rw [if_neg (by omega), lis_eq h (by omega), decide_eq_true (show Lfi h l[i].2 from ⟨hh, by omega⟩)]; simp only [Option.bind_some, if_true]
    rw [wu64 (x := (l[i].2 : Int) - l[i].1) (by omega) (by omega), wu64 (x := (l[i].2 : Int) - l[i].1 + 1) (by omega) (by omega), show (n : Int) + ((l[i].2 : Int) - l[i].1 + 1) = ((n + (l[i].2 - l[i].1 + 1) : Nat) : Int) by omega, wu64 (x := ((n + (l[i].2 - l[i].1 + 1) : Nat) : Int)) (by omega) (by omega),
      w64 (x := (i : Int) + 1) (by omega) (by omega), show (i : Int) + 1 = ((i + 1 : Nat) : Int) by omega, ih (i + 1) _ k (by omega) (by omega) (by omega)]
    have hfin : n + (l[i].2 - l[i].1 + 1) + tot (l.drop (i + 1)) = n + tot (l.drop i) := by omega
    rw [hfin]
    by_cases c : i = 0
    · rw [if_neg (by omega)]
    · have e : wrap64 ((i : Int) - 1) = ((i - 1 : Nat) : Int) := by rw [w64 (by omega) (by omega)]; omega
      have := r4 (by omega)
      rw [if_pos (by omega), e, if_pos (by omega), if_pos (by rw [sps_len]; omega), rdT_sps (show i - 1 < l.length by omega)]
      simp only
      rw [if_neg (by omega)]
theorem Many_eq (h : Int) (hh : Hi h) {l : List (Nat × Nat)} (hr : Rise (2 ^ h.toNat) 0 l) {k : Nat} (hk : l.length < k) (hb : l.length < 4611686018427387904) : leaf_Many.f k h (sps l) = some ((tot l : Int), 0) := by
  obtain ⟨k, rfl⟩ : ∃ m, k = m + 1 := ⟨k - 1, by omega⟩
  have hp : 2 ^ h.toNat ≤ 4294967296 := pow_le_h (by rw [hi_iff] at hh; omega)
  have ht := tot_le hr (Nat.zero_le _)
  unfold leaf_Many.f
  rw [checkRoot_eq, if_pos hh]; simp only [Option.bind_some, if_true]
  have := many_l h hh l hr hb l.length 0 0 (k + 1) (by omega) hk (by simp; omega)
  rw [sps_len]
  simpa using this
theorem Many_bad (h : Int) (hh : ¬ Hi h) (l : List S50) (k : Nat) : leaf_Many.f (k + 1) h l = some (0, 1) := by
  unfold leaf_Many.f
  rw [checkRoot_eq, if_neg hh]; simp
theorem lHas0_eq (h : Int) {p : Nat} (hp : p < 18446744073709551616) {k : Nat} (hk : 3 ≤ k) : leaf_Has.f k h [] (p : Int) = some (if Lfi h p then (false, 0) else (false, 1)) := by
  obtain ⟨k, rfl⟩ : ∃ m, k = m + 3 := ⟨k - 3, by omega⟩
  unfold leaf_Has.f leaf_find.f leaf_Check.f
  rw [checkRoot_eq]; simp only [Option.bind_some]
  by_cases hh : Hi h
  · rw [if_pos hh]; simp only [if_true, leaf_Check.j0]
    simp only [leaf_Check.l0]
    rw [lis_eq h hp]
    by_cases h1 : Lfi h p
    · rw [if_pos h1]
      simp [h1, slices_BinarySearch_uint64_uint64.f, slices_BinarySearch_uint64_uint64.l0]
    · simp [h1]
  · rw [if_neg hh]; simp [leaf_Check.j0, show ¬ Lfi h p from fun z => hh z.1]
theorem sHas_eq (h : Int) {i j p : Nat} (hi' : i < 18446744073709551616) (hj : j < 18446744073709551616) (hp : p < 18446744073709551616) {k : Nat} (hk : 3 ≤ k) :
    sub_Has.f k h (i : Int) (j : Int) (p : Int) = some (if Sb h.toNat i j ∧ Lfi h p then (decide (In h.toNat i j p), 0) else (false, 1)) := by
  obtain ⟨k, rfl⟩ : ∃ m, k = m + 1 := ⟨k - 1, by omega⟩
  unfold sub_Has.f
  rw [both_eq' h hi' hj, lHas0_eq h hp hk]; simp only [Option.bind_some]
  by_cases h1 : Sb h.toNat i j
  · rw [if_pos h1]; simp only [if_true]
    by_cases h2 : Lfi h p
    · have h12 : Sb h.toNat i j ∧ Lfi h p := ⟨h1, h2⟩
      rw [if_pos h2, if_pos h12]; simp only [if_true]
      congr 2
      rw [Bool.eq_iff_iff, decide_eq_true_iff, in_iff]
      by_cases h0 : j = 0
      · subst h0; simp
      · simp [h0]; omega
    · rw [if_neg h2]; simp [h2]
  · rw [if_neg h1]; simp [h1]
end Go.Proofs.Ytmaaibcnfhbajaa.Med
