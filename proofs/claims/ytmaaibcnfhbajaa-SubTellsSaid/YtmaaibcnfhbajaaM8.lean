/- What the functions of package medlarref08 come to, on numbers: whether a subset may be, the step, what is useful, what it is split into. -/
import Derived.Test.YtmaaibcnfhbajaaMS
import Derived.Test.YtmaaibcnfhbajaaMR
import Derived.Test.YtmaaibcnfhbajaaMPx2
import Derived.Test.YtmaaibcnfhbajaaMPx4
import Derived.Test.YtmaaibcnfhbajaaMPx5
import Derived.Test.YtmaaibcnfhbajaaMPx6
set_option linter.unusedVariables false
set_option linter.unusedSimpArgs false
namespace Go.Proofs.Ytmaaibcnfhbajaa.Med
open Go.RowKit Go.Proofs.YtmaaibcnfhbajaaW.PrintWords Go.Proofs.YtmaaibcnfhbajaaW.PrintMore Go.Proofs.Ytmaaibcnfhbajaa.MP

theorem rCheck8_eq (h : Int) {i j : Nat} (hi : i < 18446744073709551616) (hj : j < 18446744073709551616) {k : Nat} (hk : 70 ≤ k) :
    medlarref08_Check.f k h (i : Int) (j : Int) = some (if Sb h.toNat i j then 0 else 1) := by
  unfold medlarref08_Check.f
  rw [may_eq h i (by omega)]; simp only [Option.bind_some]
  by_cases h1 : Nd h.toNat i
  · rw [decide_eq_true h1, if_pos rfl]
    by_cases h0 : j = 0
    · rw [if_pos (by omega), if_pos ⟨h1, .inl h0⟩]
    · rw [if_neg (by omega), may_eq h j (by omega)]; simp only [Option.bind_some]
      by_cases h2 : Nd h.toNat j
      · rw [decide_eq_true h2, if_pos rfl]
        by_cases h3 : i = j
        · rw [if_pos (by omega), if_neg (fun z => z.2.elim h0 (fun y => y.2.1 h3))]
        · rw [if_neg (by omega), is_eq i h0 hj hk]; simp only [Option.bind_some]
          by_cases h4 : Abv i j
          · rw [decide_eq_true h4, if_pos rfl, if_pos ⟨h1, .inr ⟨h2, h3, h4⟩⟩]
          · rw [decide_eq_false h4, if_neg (by simp), if_neg (fun z => z.2.elim h0 (fun y => h4 y.2.2))]
      · rw [decide_eq_false h2, if_neg (by simp), if_neg (fun z => z.2.elim h0 (fun y => h2 y.1))]
  · rw [decide_eq_false h1, if_neg (by simp), if_neg (fun z => h1 z.1)]
theorem stepL8_eq : ∀ h : Fin 33, 1 ≤ h.val → medlarref08_Step.l0 8 (h.val : Int) 1 = some ((stp h.val : Int), 0) := by decide +kernel
theorem rStep_eq (h : Int) {k : Nat} (hk : 10 ≤ k) : medlarref08_Step.f k h = some (if Hi h then ((stp h.toNat : Int), 0) else (0, 1)) := by
  obtain ⟨k, rfl⟩ : ∃ m, k = m + 1 := ⟨k - 1, by omega⟩
  unfold medlarref08_Step.f
  by_cases h1 : Hi h
  · rw [if_pos h1]
    rw [hi_iff] at h1
    rw [if_neg (by omega)]; simp only [medlarref08_Step.j0]
    rw [decide_eq_false (by omega), if_neg (by simp)]
    have := stepL8_eq ⟨h.toNat, by omega⟩ (by show 1 ≤ h.toNat; omega)
    have e : ((h.toNat : Nat) : Int) = h := by omega
    simp only [e] at this
    exact at_rounds (g := fun k => medlarref08_Step.l0 k h 1) (fun k => (medlarref08_Step.mono_l k).2 _ _) (show 8 ≤ k by omega) this
  · rw [if_neg h1]
    rw [hi_iff] at h1
    by_cases h2 : h < 1
    · rw [if_pos h2]; simp only [medlarref08_Step.j0, if_true]
    · rw [if_neg h2]; simp only [medlarref08_Step.j0]; rw [decide_eq_true (by omega), if_pos rfl]
theorem special_eq {h : Nat} (h1 : 1 ≤ h) (h2 : h ≤ 32) (d : Nat) {k : Nat} (hk : 10 ≤ k) : medlarref08_special.f k (h : Int) (d : Int) = some (decide (Spc h d)) := by
  unfold medlarref08_special.f
  have hs := stp_pos h
  rw [rStep_eq _ hk, if_pos (by rw [hi_iff]; omega)]; simp only [Option.bind_some, Int.toNat_natCast]
  rw [if_neg (by omega), tmod_cast]
  by_cases c : d % stp h = 0
  · rw [if_pos (by omega), decide_eq_true (.inl c)]
  · rw [if_neg (by omega)]; congr 1
    by_cases e : d = h
    · rw [decide_eq_true (.inr e), e]; simp
    · rw [decide_eq_false (fun z => z.elim c e), beq_eq_false_iff_ne]; omega
theorem rdepth_eq {n : Nat} (h0 : n ≠ 0) (hn : n < 18446744073709551616) {k : Nat} (hk : 70 ≤ k) : medlarref08_depth.f k (n : Int) = some (n.log2 : Int) := by
  have := log2_64 hn
  unfold medlarref08_depth.f
  rw [chain_eq k n h0 hn (by omega)]; simp only [Option.bind_some]
  rw [ints_len, chn_len, w64 (by omega) (by omega)]; congr 1; omega
theorem next_all : ∀ h : Fin 33, ∀ i : Fin 33, 1 ≤ h.val → i.val < h.val → medlarref08_next.l0 20 (h.val : Int) ((i.val + 1 : Nat) : Int) = some (nxt h.val i.val : Int) := by decide +kernel
theorem rnext_eq {h i : Nat} (h1 : 1 ≤ h) (h2 : h ≤ 32) (hi : i < h) {k : Nat} (hk : 20 ≤ k) : medlarref08_next.f k (h : Int) (i : Int) = some (nxt h i : Int) := by
  unfold medlarref08_next.f
  have := next_all ⟨h, by omega⟩ ⟨i, by omega⟩ h1 hi
  simp only at this
  rw [w64 (by omega) (by omega), show (i : Int) + 1 = ((i + 1 : Nat) : Int) by omega]
  exact at_rounds (g := fun k => medlarref08_next.l0 k (h : Int) ((i + 1 : Nat) : Int)) (fun k => (medlarref08_next.mono_l k) _ _) hk this
theorem rUseful_eq (h : Int) {i j : Nat} (hi : i < 18446744073709551616) (hj : j < 18446744073709551616) {k : Nat} (hk : 70 ≤ k) :
    medlarref08_Useful.f k h (i : Int) (j : Int) = some (if Sb h.toNat i j then (decide (Usf h.toNat i j), 0) else (false, 1)) := by
  unfold medlarref08_Useful.f
  rw [rCheck8_eq h hi hj hk]; simp only [Option.bind_some]
  by_cases h1 : Sb h.toNat i j
  · have e := sb_h h1
    rw [if_pos h1, if_pos rfl, if_pos h1]
    by_cases h0 : j = 0
    · subst h0
      rw [if_pos (by rfl)]; congr 2
      by_cases c : i = 1
      · rw [decide_eq_true ((usf_0 _ _).2 c), c]; rfl
      · rw [decide_eq_false (fun z => c ((usf_0 _ _).1 z)), beq_eq_false_iff_ne]; omega
    · have hu := usf_j h.toNat i h0
      rw [if_neg (by omega), rdepth_eq h1.1.2.2.1 hi hk]; simp only [Option.bind_some]
      have hh := h1.1
      rw [nd_iff] at hh
      have hsp := special_eq (h := h.toNat) hh.1 hh.2.1 i.log2 (k := k) (by omega)
      rw [e] at hsp
      rw [hsp]; simp only [Option.bind_some]
      by_cases c : Spc h.toNat i.log2
      · rw [decide_eq_true c, if_pos rfl, decide_eq_true (hu.2 (.inl c))]
      · have hn := rnext_eq (h := h.toNat) (i := i.log2) hh.1 hh.2.1 (Nat.lt_of_le_of_ne hh.2.2.2 (fun z => c (.inr z))) (k := k) (by omega)
        rw [e] at hn
        rw [decide_eq_false c, if_neg (by simp), hn]; simp only [Option.bind_some]
        rw [rdepth_eq h0 hj hk]; simp only [Option.bind_some]
        congr 2; rw [decide_eq_decide, hu]
        constructor
        · intro z; right; omega
        · rintro (z | z)
          · exact absurd z c
          · omega
  · rw [if_neg h1, if_neg (by omega), if_neg h1]
theorem rSplit_eq (h : Int) {i j : Nat} (hi : i < 18446744073709551616) (hj : j < 18446744073709551616) {k : Nat} (hk : 71 ≤ k) :
    medlarref08_Split.f k h (i : Int) (j : Int) = some (if Sb h.toNat i j then (sbs (spl h.toNat i j), 0) else ([], 1)) := by
  obtain ⟨k, rfl⟩ : ∃ m, k = m + 1 := ⟨k - 1, by omega⟩
  unfold medlarref08_Split.f
  rw [rUseful_eq h hi hj (by omega)]; simp only [Option.bind_some]
  by_cases h1 : Sb h.toNat i j
  · have e := sb_h h1
    rw [if_pos h1, if_pos h1]; simp only [if_true]
    by_cases c : Usf h.toNat i j
    · rw [decide_eq_true c, if_pos rfl]
      simp only [medlarref08_Split.j0, if_true]
      unfold spl; rw [if_pos (.inl c)]; rfl
    · rw [decide_eq_false c, if_neg (by simp)]
      simp only [medlarref08_Split.j0]
      by_cases h0 : j = 0
      · subst h0
        rw [if_pos (by rfl)]
        unfold spl; rw [if_pos (.inr rfl)]; rfl
      · have hjn := ((h1.2).resolve_left h0).1
        have hn1 : ¬ Spc h.toNat i.log2 := fun z => c ((usf_j _ _ h0).2 (.inl z))
        have hn2 : ¬ (j.log2 ≤ nxt h.toNat i.log2) := fun z => c ((usf_j _ _ h0).2 (.inr z))
        have hh := h1.1
        rw [nd_iff] at hh
        have hn := rnext_eq (h := h.toNat) (i := i.log2) hh.1 hh.2.1 (Nat.lt_of_le_of_ne hh.2.2.2 (fun z => hn1 (.inr z))) (k := k) (by omega)
        rw [e] at hn
        rw [if_neg (by simpa using h0), rdepth_eq h1.1.2.2.1 hi (by omega)]; simp only [Option.bind_some]
        rw [hn]; simp only [Option.bind_some]
        rw [rUp_eq h hj _ (by omega), if_pos hjn, if_pos (by omega)]; simp only [Option.bind_some, Int.toNat_natCast]
        unfold spl; rw [if_neg (fun z => z.elim c h0)]; rfl
  · rw [if_neg h1, if_neg (by simp), if_neg h1]
instance decS : DecidableEq S24 := fun a b =>
  if h : a.f0 = b.f0 ∧ a.f1 = b.f1 then .isTrue (by obtain ⟨a0, a1⟩ := a; obtain ⟨b0, b1⟩ := b; obtain ⟨rfl, rfl⟩ := h; rfl) else .isFalse (fun e => h (by rw [e]; exact ⟨rfl, rfl⟩))
/-- Are two lists of subsets the same? -/
theorem same8_l (l m : List S24) (hl : l.length = m.length) (hb : l.length < 4611686018427387904) : ∀ (q i k : Nat), i + q = l.length → q < k →
    medlarref08_Same.l0 k l m (l.length : Int) (i : Int) = some (decide (l.drop i = m.drop i)) := by
  intro q
  induction q with
  | zero =>
    intro i k hi hk
    obtain ⟨k, rfl⟩ : ∃ m, k = m + 1 := ⟨k - 1, by omega⟩
    simp only [medlarref08_Same.l0]
    rw [if_neg (by omega), List.drop_of_length_le (by omega), List.drop_of_length_le (by omega)]; simp
  | succ q ih =>
    intro i k hi hk
    obtain ⟨k, rfl⟩ : ∃ m, k = m + 1 := ⟨k - 1, by omega⟩
    have r1 : rd_T24 l (i : Int) = l[i] := by unfold rd_T24; simp [List.getD_eq_getElem?_getD, show i < l.length by omega]
    have r2 : rd_T24 m (i : Int) = m[i] := by unfold rd_T24; simp [List.getD_eq_getElem?_getD, show i < m.length by omega]
    have d1 : l.drop i = l[i] :: l.drop (i + 1) := List.drop_eq_getElem_cons (by omega)
    have d2 : m.drop i = m[i] :: m.drop (i + 1) := List.drop_eq_getElem_cons (by omega)
    simp only [medlarref08_Same.l0]
    rw [if_pos (by omega), if_pos (by omega), if_pos (by omega), if_pos (by omega), r1, r2, w64 (by omega) (by omega), show (i : Int) + 1 = ((i + 1 : Nat) : Int) by omega, ih (i + 1) k (by omega) (by omega), d1, d2]
    generalize l[i] = x, m[i] = y
    obtain ⟨x0, x1⟩ := x
    obtain ⟨y0, y1⟩ := y
    by_cases e0 : x0 = y0 <;> by_cases e1 : x1 = y1 <;> simp [e0, e1]
theorem same8_eq (l m : List S24) (hb : l.length < 4611686018427387904) {k : Nat} (hk : l.length < k) : medlarref08_Same.f k l m = some (decide (l = m)) := by
  unfold medlarref08_Same.f
  by_cases h : l.length = m.length
  · rw [if_pos (by omega)]
    have := same8_l l m h hb l.length 0 k (by omega) hk
    simpa using this
  · rw [if_neg (by omega)]; congr 1; symm; rw [decide_eq_false_iff_not]; intro e; exact h (by rw [e])
end Go.Proofs.Ytmaaibcnfhbajaa.Med
