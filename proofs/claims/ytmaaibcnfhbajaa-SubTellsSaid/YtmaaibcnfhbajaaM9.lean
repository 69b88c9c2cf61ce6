/- The leaves of a subset by the document: what the functions of medlarref01, medlarref02 and medlarref08 come to, on numbers. -/
import Derived.Test.YtmaaibcnfhbajaaMT
import Derived.Test.YtmaaibcnfhbajaaM8
import Derived.Test.YtmaaibcnfhbajaaMPx10
import Derived.Test.YtmaaibcnfhbajaaMPx24
set_option linter.unusedVariables false
set_option linter.unusedSimpArgs false
namespace Go.Proofs.Ytmaaibcnfhbajaa.Med
open Go.RowKit Go.Proofs.YtmaaibcnfhbajaaW.PrintWords Go.Proofs.YtmaaibcnfhbajaaW.PrintMore Go.Proofs.Ytmaaibcnfhbajaa.MP

theorem rLeaf_eq (h : Int) {p : Nat} (hp : p < 18446744073709551616) {k : Nat} (hk : 70 ≤ k) : medlarref01_Leaf.f k h (p : Int) = some (if Hi h then (if p < 2 ^ h.toNat then ((2 ^ h.toNat + p : Nat) : Int) else 0, if p < 2 ^ h.toNat then 0 else 4) else (0, 1)) := by
  obtain ⟨k, rfl⟩ : ∃ m, k = m + 1 := ⟨k - 1, by omega⟩
  unfold medlarref01_Leaf.f
  by_cases h1 : Hi h
  · have hh := h1
    rw [hi_iff] at hh
    have e : ((h.toNat : Nat) : Int) = h := by omega
    have pw := power_eq (d := h.toNat) (k := k) (by omega) (by omega)
    rw [e] at pw
    have hp2 : 2 ^ h.toNat ≤ 4294967296 := pow_mono (b := 32) (by omega)
    rw [if_neg (by omega)]; simp only [medlarref01_Leaf.j0]
    rw [decide_eq_false (by omega), if_neg (by simp), pw]; simp only [bnd]
    rw [if_pos h1]
    by_cases c : p < 2 ^ h.toNat
    · rw [if_neg (by omega), if_pos c, if_pos c, wu64 (by omega) (by omega)]; congr 2
    · rw [if_pos (by omega), if_neg c, if_neg c]
  · rw [if_neg h1]
    rw [hi_iff] at h1
    by_cases h2 : h < 1
    · rw [if_pos h2]; simp [medlarref01_Leaf.j0]
    · rw [if_neg h2]; simp only [medlarref01_Leaf.j0]; rw [decide_eq_true (by omega), if_pos rfl]
theorem rLeaves_l {H n : Nat} (d : Nd H n) : ∀ (m t k : Nat), n.log2 + t + m = H → m + 70 ≤ k →
    medlarref01_Leaves.l0 k (H : Int) ((n * 2 ^ t : Nat) : Int) (((n + 1) * 2 ^ t - 1 : Nat) : Int) = some ((lo H n : Int), (hi H n : Int), 0) := by
  have d32 := d.2.1
  have p33 : 2 ^ (H + 1) ≤ 8589934592 := pow_le_32 (by omega)
  have pH : 2 ^ H ≤ 4294967296 := pow_le_h d32
  have hlo := log2_lo d.2.2.1
  have hhi := log2_hi n
  intro m
  induction m with
  | zero =>
    intro t k ht hk
    obtain ⟨k, rfl⟩ : ∃ m, k = m + 1 := ⟨k - 1, by omega⟩
    have e : t = H - n.log2 := by omega
    have e1 : n * 2 ^ t = lf H n := by subst e; rfl
    have e2 : (n + 1) * 2 ^ t = rt H n := by subst e; rfl
    have g1 := lf_ge d.2.2.1 d.2.2.2
    have g2 := rt_le d.2.2.2
    have g3 := lf_lt_rt H n
    simp only [medlarref01_Leaves.l0]
    rw [power_eq (by omega) (by omega)]; simp only [bnd]
    rw [e1, e2, if_neg (by omega)]
    unfold lo hi
    rw [wu64 (by omega) (by omega), wu64 (by omega) (by omega)]
    rw [show (lf H n : Int) - ((2 ^ H : Nat) : Int) = ((lf H n - 2 ^ H : Nat) : Int) by omega, show ((rt H n - 1 : Nat) : Int) - ((2 ^ H : Nat) : Int) = ((rt H n - 1 - 2 ^ H : Nat) : Int) by omega]
  | succ m ih =>
    intro t k ht hk
    obtain ⟨k, rfl⟩ : ∃ m, k = m + 1 := ⟨k - 1, by omega⟩
    have hp := pow_pos2 t
    have b1 : (n + 1) * 2 ^ t ≤ 2 ^ (n.log2 + 1) * 2 ^ t := Nat.mul_le_mul_right _ hhi
    rw [← Nat.pow_add] at b1
    have b2 : 2 ^ (n.log2 + 1 + t) ≤ 2 ^ H := pow_mono (by omega)
    have c1 : n * 2 ^ t < 2 ^ H := by
      have : n * 2 ^ t < (n + 1) * 2 ^ t := by rw [Nat.add_mul]; omega
      omega
    have c2 : 0 < (n + 1) * 2 ^ t := Nat.mul_pos (by omega) hp
    have s1 : n * 2 ^ (t + 1) = 2 * (n * 2 ^ t) := by rw [Nat.pow_succ, ← Nat.mul_assoc, Nat.mul_comm]
    have s2 : (n + 1) * 2 ^ (t + 1) = 2 * ((n + 1) * 2 ^ t) := by rw [Nat.pow_succ, ← Nat.mul_assoc, Nat.mul_comm]
    have r := ih (t + 1) k (by omega) (by omega)
    rw [s1, s2] at r
    generalize n * 2 ^ t = A at *
    generalize (n + 1) * 2 ^ t = B at *
    simp only [medlarref01_Leaves.l0]
    rw [power_eq (by omega) (by omega)]; simp only [bnd]
    rw [if_pos (by omega), wu64 (x := 2 * (A : Int)) (by omega) (by omega), wu64 (x := 2 * ((B - 1 : Nat) : Int)) (by omega) (by omega), wu64 (by omega) (by omega)]
    rw [show 2 * (A : Int) = ((2 * A : Nat) : Int) by omega, show 2 * ((B - 1 : Nat) : Int) + 1 = ((2 * B - 1 : Nat) : Int) by omega]
    exact r
theorem rNLeaves_eq (h : Int) {n : Nat} (hn : n < 18446744073709551616) {k : Nat} (hk : 110 ≤ k) :
    medlarref01_Leaves.f k h (n : Int) = some (if Nd h.toNat n then ((lo h.toNat n : Int), (hi h.toNat n : Int), 0) else (0, 0, 1)) := by
  unfold medlarref01_Leaves.f
  rw [may_eq h n (by omega)]; simp only [bnd]
  by_cases h1 : Nd h.toNat n
  · have e : ((h.toNat : Nat) : Int) = h := by have := h1.1; omega
    have r := rLeaves_l h1 (h.toNat - n.log2) 0 k (by have := h1.2.2.2; omega) (by have := h1.2.1; omega)
    rw [e] at r
    simp only [Nat.pow_zero, Nat.mul_one, Nat.add_sub_cancel] at r
    rw [decide_eq_true h1, if_pos rfl, if_pos h1, r]
  · rw [decide_eq_false h1, if_neg (by simp), if_neg h1]
theorem rSLeaves_eq (h : Int) {i j : Nat} (hi' : i < 18446744073709551616) (hj : j < 18446744073709551616) {k : Nat} (hk : 110 ≤ k) :
    medlarref08_Leaves.f k h (i : Int) (j : Int) = some (if Sb h.toNat i j then (sps (spn h.toNat i j), 0) else ([], 1)) := by
  unfold medlarref08_Leaves.f
  rw [rCheck8_eq h hi' hj (by omega)]; simp only [bnd]
  by_cases h1 : Sb h.toNat i j
  · rw [if_pos h1, if_pos rfl, if_pos h1, rNLeaves_eq h hi' hk, if_pos h1.1]; simp only [bnd]
    by_cases h0 : j = 0
    · subst h0; rw [if_pos (by rfl)]; simp [spn, sps]
    · have dj := (h1.2.resolve_left h0).1
      have hp : 2 ^ h.toNat ≤ 4294967296 := pow_le_h (by have := h1.1.2.1; omega)
      have l1 := hi_lt h1.1
      have l2 := hi_lt dj
      have q2 := hi_eq dj
      have w2 := wd_pos h.toNat j
      rw [if_neg (by omega), rNLeaves_eq h hj hk, if_pos dj]; simp only [bnd]
      unfold spn; rw [if_neg h0]
      by_cases c1 : lo h.toNat i < lo h.toNat j
      · rw [if_pos (by omega), if_pos (by simp), if_pos c1]
        rw [wu64 (x := (lo h.toNat j : Int) - 1) (by omega) (by omega)]
        by_cases c2 : hi h.toNat j < hi h.toNat i
        · rw [if_pos (by omega), if_pos (by simp), if_pos c2, wu64 (by omega) (by omega)]
          simp [sps]; omega
        · rw [if_neg (by omega), if_neg c2]; simp [sps]; omega
      · rw [if_neg (by omega), if_neg c1]
        by_cases c2 : hi h.toNat j < hi h.toNat i
        · rw [if_pos (by omega), if_pos (by simp), if_pos c2, wu64 (by omega) (by omega)]; simp [sps]
        · rw [if_neg (by omega), if_neg c2]; rfl
  · rw [if_neg h1, if_neg (by simp), if_neg h1]
/-- A leaf lies below a node just if its number lies between. -/
theorem abv_lo_hi {h n p : Nat} (d : Nd h n) (hp : p < 2 ^ h) : Abv n (2 ^ h + p) ↔ lo h n ≤ p ∧ p ≤ hi h n := by
  have g1 := lf_ge d.2.2.1 d.2.2.2
  have g3 := lf_lt_rt h n
  have hs : 2 ^ (h + 1) = 2 ^ h * 2 := Nat.pow_succ 2 h
  rw [abv_leaf d.2.2.1 d.2.2.2 (by omega) (by omega)]
  unfold lo hi; omega
theorem rHas_eq (h : Int) {i j p : Nat} (hi' : i < 18446744073709551616) (hj : j < 18446744073709551616) (hp : p < 18446744073709551616) {k : Nat} (hk : 110 ≤ k) :
    medlarref08_Has.f k h (i : Int) (j : Int) (p : Int) = some (if Sb h.toNat i j ∧ Lfi h p then (decide (In h.toNat i j p), 0) else (false, 1)) := by
  obtain ⟨k, rfl⟩ : ∃ m, k = m + 1 := ⟨k - 1, by omega⟩
  unfold medlarref08_Has.f
  rw [rLeaf_eq h hp (by omega), rCheck8_eq h hi' hj (by omega)]; simp only [bnd]
  by_cases h1 : Sb h.toNat i j
  · rw [if_pos h1]; simp only [if_true]
    by_cases h2 : Lfi h p
    · have h2' := h2
      obtain ⟨hh, hpp⟩ := h2
      have h12 : Sb h.toNat i j ∧ Lfi h p := ⟨h1, h2'⟩
      have hp2 : 2 ^ h.toNat ≤ 4294967296 := pow_le_h (by have := h1.1.2.1; omega)
      have ne : 2 ^ h.toNat + p ≠ 0 := by omega
      rw [if_pos hh, if_pos hpp, if_pos hpp, if_pos h12]
      simp only [medlarref08_Has.j0]
      rw [if_neg (by simp), is_eq i ne (by omega) (by omega)]; simp only [bnd]
      have a1 := abv_lo_hi h1.1 hpp
      by_cases c1 : Abv i (2 ^ h.toNat + p)
      · rw [decide_eq_true c1, if_pos rfl]
        by_cases h0 : j = 0
        · subst h0
          rw [if_pos (by rfl), decide_eq_true (show In h.toNat i 0 p from ⟨a1.1 c1, .inl rfl⟩)]
        · have a2 := abv_lo_hi (h1.2.resolve_left h0).1 hpp
          rw [if_neg (by omega), is_eq j ne (by omega) (by omega)]; simp only [bnd]
          congr 2
          by_cases c2 : Abv j (2 ^ h.toNat + p)
          · rw [decide_eq_true c2, decide_eq_false (show ¬ In h.toNat i j p from fun z => z.2.elim h0 (fun y => y (a2.1 c2)))]; rfl
          · rw [decide_eq_false c2, decide_eq_true (show In h.toNat i j p from ⟨a1.1 c1, .inr (fun y => c2 (a2.2 y))⟩)]; rfl
      · rw [decide_eq_false c1, if_neg (by simp), decide_eq_false (show ¬ In h.toNat i j p from fun z => c1 (a1.2 z.1))]
    · have h3 : ¬ (Sb h.toNat i j ∧ Lfi h p) := fun z => h2 z.2
      rw [if_neg h3]
      rw [lfi_iff] at h2
      by_cases hh : Hi h
      · have : ¬ p < 2 ^ h.toNat := fun z => h2 ⟨hh, z⟩
        rw [if_pos hh, if_neg this, if_neg this]; simp [medlarref08_Has.j0]
      · rw [if_neg hh]; simp [medlarref08_Has.j0]
  · rw [if_neg h1]; simp [h1, medlarref08_Has.j0]
/-- Do two spans have a number together? -/
def Ovl (s t : Nat × Nat) : Prop := s.1 ≤ t.2 ∧ t.1 ≤ s.2
instance (s t : Nat × Nat) : Decidable (Ovl s t) := inferInstanceAs (Decidable (_ ∧ _))
def ovl1 (s : Nat × Nat) (y : List (Nat × Nat)) : Bool := y.any fun t => decide (Ovl s t)
def ovl (x y : List (Nat × Nat)) : Bool := x.any fun s => ovl1 s y
theorem rTouch_l (x y : List (Nat × Nat)) (hx : x.length ≤ 2) (hy : y.length ≤ 2) : ∀ (q i k : Nat), i + q = x.length → 6 * q + 6 ≤ k →
    medlarref08_Touch.l0 k (sps y) (sps x) (x.length : Int) (i : Int) = some (ovl (x.drop i) y, 0) ∧
    (∀ (r j : Nat) (hi : i < x.length), j + r = y.length → r + 1 + 6 * (q - 1) + 6 ≤ k →
      medlarref08_Touch.l1 k (sps y) (sps x) (x.length : Int) (i : Int) (sps y) (y.length : Int) (j : Int) (x[i].1 : Int) (x[i].2 : Int) = some (ovl1 x[i] (y.drop j) || ovl (x.drop (i + 1)) y, 0)) := by
  intro q
  induction q with
  | zero =>
    intro i k hi hk
    refine ⟨?_, fun r j h _ _ => absurd h (by omega)⟩
    obtain ⟨k, rfl⟩ : ∃ m, k = m + 1 := ⟨k - 1, by omega⟩
    simp only [medlarref08_Touch.l0]
    rw [if_neg (by omega), List.drop_of_length_le (by omega)]; rfl
  | succ q ih =>
    have inner : ∀ (r j i k : Nat) (hi : i < x.length), i + (q + 1) = x.length → j + r = y.length → r + 1 + 6 * q + 6 ≤ k →
        medlarref08_Touch.l1 k (sps y) (sps x) (x.length : Int) (i : Int) (sps y) (y.length : Int) (j : Int) (x[i].1 : Int) (x[i].2 : Int) = some (ovl1 x[i] (y.drop j) || ovl (x.drop (i + 1)) y, 0) := by
      intro r
      induction r with
      | zero =>
        intro j i k hi hq hj hk
        obtain ⟨k, rfl⟩ : ∃ m, k = m + 1 := ⟨k - 1, by omega⟩
        simp only [medlarref08_Touch.l1]
        rw [if_neg (by omega), List.drop_of_length_le (l := y) (by omega), w64 (by omega) (by omega), show (i : Int) + 1 = ((i + 1 : Nat) : Int) by omega, (ih (i + 1) k (by omega) (by omega)).1]
        rfl
      | succ r ihr =>
        intro j i k hi hq hj hk
        obtain ⟨k, rfl⟩ : ∃ m, k = m + 1 := ⟨k - 1, by omega⟩
        have d1 : y.drop j = y[j] :: y.drop (j + 1) := List.drop_eq_getElem_cons (by omega)
        have do_ : ovl1 x[i] (y.drop j) = (decide (Ovl x[i] y[j]) || ovl1 x[i] (y.drop (j + 1))) := by unfold ovl1; rw [d1, List.any_cons]
        simp only [medlarref08_Touch.l1]
        rw [if_pos (by omega), if_pos (by omega), if_pos (by rw [sps_len]; omega), rdT_sps (show j < y.length by omega)]
        simp only
        rw [w64 (x := (j : Int) + 1) (by omega) (by omega), show (j : Int) + 1 = ((j + 1 : Nat) : Int) by omega, ihr (j + 1) i k hi hq (by omega) (by omega), do_]
        by_cases c1 : x[i].1 ≤ y[j].2
        · rw [if_pos (by omega)]
          by_cases c2 : y[j].1 ≤ x[i].2
          · rw [if_pos (by omega), decide_eq_true (show Ovl x[i] y[j] from ⟨c1, c2⟩)]; rfl
          · rw [if_neg (by omega), decide_eq_false (show ¬ Ovl x[i] y[j] from fun z => c2 z.2)]; rfl
        · rw [if_neg (by omega), decide_eq_false (show ¬ Ovl x[i] y[j] from fun z => c1 z.1)]; rfl
    intro i k hi hk
    refine ⟨?_, fun r j h hj hk' => inner r j i k h hi hj (by omega)⟩
    obtain ⟨k, rfl⟩ : ∃ m, k = m + 1 := ⟨k - 1, by omega⟩
    have d1 : x.drop i = x[i] :: x.drop (i + 1) := List.drop_eq_getElem_cons (by omega)
    have do_ : ovl (x.drop i) y = (ovl1 x[i] y || ovl (x.drop (i + 1)) y) := by unfold ovl; rw [d1, List.any_cons]
    simp only [medlarref08_Touch.l0]
    rw [if_pos (by omega), if_pos (by omega), if_pos (by rw [sps_len]; omega), rdT_sps (show i < x.length by omega)]
    simp only
    have := inner y.length 0 i k (by omega) hi (by omega) (by omega)
    rw [show ((0 : Nat) : Int) = 0 from rfl, List.drop_zero] at this
    rw [sps_len, this, do_]
theorem ovl_tch {m : Nat} {x y : List (Nat × Nat)} (hx : Rise m 0 x) (hy : Rise m 0 y) : ovl x y = tch x y := by
  rw [Bool.eq_iff_iff, tch_iff (m := m) _ x y 0 0 rfl hx hy]
  unfold ovl ovl1
  simp only [List.any_eq_true, decide_eq_true_iff]
  have hmem : ∀ {l : List (Nat × Nat)}, Rise m 0 l → ∀ s ∈ l, s.1 ≤ s.2 := by
    intro l hl s hs
    obtain ⟨i, hi, rfl⟩ := List.getElem_of_mem hs
    exact (hl.at hi).1
  constructor
  · rintro ⟨s, hs, t, ht, h1, h2⟩
    have g1 := hmem hx s hs
    have g2 := hmem hy t ht
    exact ⟨max s.1 t.1, ⟨s, hs, by omega, by omega⟩, ⟨t, ht, by omega, by omega⟩⟩
  · rintro ⟨p, ⟨s, hs, h1, h2⟩, ⟨t, ht, h3, h4⟩⟩
    exact ⟨s, hs, t, ht, by omega, by omega⟩
theorem rTouch_eq (h : Int) {i j a b : Nat} (hi' : i < 18446744073709551616) (hj : j < 18446744073709551616) (ha : a < 18446744073709551616) (hb : b < 18446744073709551616) {k : Nat} (hk : 111 ≤ k) :
    medlarref08_Touch.f k h (i : Int) (j : Int) (a : Int) (b : Int) = some (if Sb h.toNat i j ∧ Sb h.toNat a b then (tch (spn h.toNat i j) (spn h.toNat a b), 0) else (false, 1)) := by
  obtain ⟨k, rfl⟩ : ∃ m, k = m + 1 := ⟨k - 1, by omega⟩
  unfold medlarref08_Touch.f
  rw [rSLeaves_eq h hi' hj (by omega), rSLeaves_eq h ha hb (by omega)]; simp only [bnd]
  by_cases h1 : Sb h.toNat i j
  · by_cases h2 : Sb h.toNat a b
    · have h12 : Sb h.toNat i j ∧ Sb h.toNat a b := ⟨h1, h2⟩
      rw [if_pos h1, if_pos h2, if_pos h12]
      have l1 := spn_len h.toNat i j
      have l2 := spn_len h.toNat a b
      have := (rTouch_l (spn h.toNat i j) (spn h.toNat a b) l1 l2 _ 0 k (Nat.zero_add _) (by omega)).1
      rw [List.drop_zero, ovl_tch (spn_rise h1) (spn_rise h2)] at this
      simp only [if_true, medlarref08_Touch.j0]
      rw [sps_len]
      simpa using this
    · rw [if_pos h1]; simp [h2, medlarref08_Touch.j0]
  · rw [if_neg h1]; simp [h1, medlarref08_Touch.j0]
theorem rLess_eq (i j a b : Nat) : medlarref08_Less.f (i : Int) (j : Int) (a : Int) (b : Int) = some (decide (Lss (i, j) (a, b))) := by
  unfold medlarref08_Less.f
  by_cases c1 : i < a
  · rw [if_pos (by omega), decide_eq_true (show Lss (i, j) (a, b) from .inl c1)]
  · rw [if_neg (by omega)]
    by_cases c2 : i = a
    · rw [if_pos (by omega)]; congr 1; rw [decide_eq_decide, lss_iff]; simp only; omega
    · rw [if_neg (by omega), decide_eq_false (show ¬ Lss (i, j) (a, b) by rw [lss_iff]; simp only; omega)]
instance decSp : DecidableEq S50 := fun a b =>
  if h : a.f0 = b.f0 ∧ a.f1 = b.f1 then .isTrue (by obtain ⟨a0, a1⟩ := a; obtain ⟨b0, b1⟩ := b; obtain ⟨rfl, rfl⟩ := h; rfl) else .isFalse (fun e => h (by rw [e]; exact ⟨rfl, rfl⟩))
theorem sameSp_l (l : List S50) (hb : l.length < 4611686018427387904) : ∀ (q i k : Nat), i + q = l.length → q < k →
    medlarref02_SameSpans.l0 k l l (l.length : Int) (i : Int) = some true := by
  intro q
  induction q with
  | zero =>
    intro i k hi hk
    obtain ⟨k, rfl⟩ : ∃ m, k = m + 1 := ⟨k - 1, by omega⟩
    simp only [medlarref02_SameSpans.l0]
    rw [if_neg (by omega)]
  | succ q ih =>
    intro i k hi hk
    obtain ⟨k, rfl⟩ : ∃ m, k = m + 1 := ⟨k - 1, by omega⟩
    simp only [medlarref02_SameSpans.l0]
    rw [if_pos (by omega), if_pos (by omega), if_pos (by omega), if_pos (by omega), w64 (by omega) (by omega), show (i : Int) + 1 = ((i + 1 : Nat) : Int) by omega, ih (i + 1) k (by omega) (by omega)]
    simp
theorem sameSp_eq (l : List S50) (hb : l.length < 4611686018427387904) {k : Nat} (hk : l.length < k) : medlarref02_SameSpans.f k l l = some true := by
  unfold medlarref02_SameSpans.f
  rw [if_pos rfl]
  exact sameSp_l l hb l.length 0 k (by omega) hk
end Go.Proofs.Ytmaaibcnfhbajaa.Med
