/- Whether two subsets touch, and which one comes first: what the functions of sub come to, on numbers. -/
import Derived.Test.YtmaaibcnfhbajaaMM
import Derived.Test.YtmaaibcnfhbajaaMPx16
import Derived.Test.YtmaaibcnfhbajaaMPx18
set_option linter.unusedVariables false
set_option linter.unusedSimpArgs false
namespace Go.Proofs.Ytmaaibcnfhbajaa.Med
open Go.RowKit Go.Proofs.YtmaaibcnfhbajaaW.PrintWords Go.Proofs.YtmaaibcnfhbajaaW.PrintMore Go.Proofs.Ytmaaibcnfhbajaa.MP

theorem cmp_eq (a b : Int) : cmp_Compare_uint64.f a b = some (if a < b then -1 else if a > b then 1 else 0) := by
  unfold cmp_Compare_uint64.f cmp_isNaN_uint64.f
  simp
  split
  · rfl
  · split <;> rfl
/-- Which one comes first. -/
def Lss (a b : Nat × Nat) : Prop := a.1 < b.1 ∨ (a.1 = b.1 ∧ a.2 < b.2)
instance (a b : Nat × Nat) : Decidable (Lss a b) := inferInstanceAs (Decidable (_ ∨ _))
theorem lss_iff (a b : Nat × Nat) : Lss a b ↔ a.1 < b.1 ∨ (a.1 = b.1 ∧ a.2 < b.2) := Iff.rfl
theorem or_eq (x y : Int) (k : Nat) : cmp_Or_int.f (k + 3) [x, y] = some (if x = 0 then y else x) := by
  unfold cmp_Or_int.f
  have w1 : wrap64 1 = 1 := by unfold wrap64; omega
  have w2 : wrap64 2 = 2 := by unfold wrap64; omega
  simp only [cmp_Or_int.l0, List.length_cons, List.length_nil]
  by_cases h : x = 0
  · subst h
    by_cases h2 : y = 0
    · subst h2; simp [rd, w1, w2]
    · simp [rd, w1, w2, h2]
  · simp [rd, h]
theorem Less_eq (i j a b : Nat) {k : Nat} (hk : 3 ≤ k) : sub_Less.f k (i : Int) (j : Int) (a : Int) (b : Int) = some (decide (Lss (i, j) (a, b))) := by
  obtain ⟨k, rfl⟩ : ∃ m, k = m + 3 := ⟨k - 3, by omega⟩
  unfold sub_Less.f
  rw [cmp_eq, cmp_eq]; simp only [Option.bind_some]
  rw [or_eq]; simp only [Option.bind_some]
  congr 1; rw [decide_eq_decide, lss_iff]
  simp only
  repeat' split
  all_goals omega
/-- Do two rows of spans have a number together? -/
def tch : List (Nat × Nat) → List (Nat × Nat) → Bool
  | s :: x, t :: y => if s.2 < t.1 then tch x (t :: y) else if t.2 < s.1 then tch (s :: x) y else true
  | [], _ => false
  | _ :: _, [] => false
termination_by a b => a.length + b.length
def Cov (l : List (Nat × Nat)) (p : Nat) : Prop := ∃ x ∈ l, x.1 ≤ p ∧ p ≤ x.2
theorem Cov.ge {m : Nat} : ∀ {l : List (Nat × Nat)} {a p : Nat}, Rise m a l → Cov l p → a ≤ p
  | [], _, _, _, c => by obtain ⟨x, hx, _⟩ := c; simp at hx
  | s :: l, a, p, r, c => by
    obtain ⟨r1, r2, r3, r4⟩ := r
    obtain ⟨x, hx, h1, h2⟩ := c
    rcases List.mem_cons.1 hx with rfl | hx
    · omega
    · have := Cov.ge r4 ⟨x, hx, h1, h2⟩; omega
theorem cov_cons (s : Nat × Nat) (l : List (Nat × Nat)) (p : Nat) : Cov (s :: l) p ↔ (s.1 ≤ p ∧ p ≤ s.2) ∨ Cov l p := by
  unfold Cov
  simp only [List.mem_cons]
  constructor
  · rintro ⟨x, rfl | hx, h⟩
    · exact .inl h
    · exact .inr ⟨x, hx, h⟩
  · rintro (h | ⟨x, hx, h⟩)
    · exact ⟨s, .inl rfl, h⟩
    · exact ⟨x, .inr hx, h⟩
theorem cov_nil (p : Nat) : ¬ Cov [] p := by rintro ⟨x, hx, _⟩; simp at hx
theorem tch_iff {m : Nat} : ∀ (n : Nat) (x y : List (Nat × Nat)) (a b : Nat), x.length + y.length = n → Rise m a x → Rise m b y → (tch x y = true ↔ ∃ p, Cov x p ∧ Cov y p) := by
  intro n
  induction n using Nat.strongRecOn with
  | _ n ih =>
    intro x y a b hn hx hy
    match x, y with
    | [], y => rw [tch]; simp [cov_nil]
    | s :: x, [] => rw [tch]; simp [cov_nil]
    | s :: x, t :: y =>
      simp only [List.length_cons] at hn
      obtain ⟨r1, r2, r3, r4⟩ := hx
      obtain ⟨q1, q2, q3, q4⟩ := hy
      rw [tch]
      by_cases c1 : s.2 < t.1
      · rw [if_pos c1, ih (x.length + (y.length + 1)) (by omega) x (t :: y) (s.2 + 1) b (by simp) r4 ⟨q1, q2, q3, q4⟩]
        constructor
        · rintro ⟨p, h1, h2⟩; exact ⟨p, (cov_cons _ _ _).2 (.inr h1), h2⟩
        · rintro ⟨p, h1, h2⟩
          have := Cov.ge (m := m) (l := t :: y) (a := t.1) ⟨Nat.le_refl _, q2, q3, q4⟩ h2
          rcases (cov_cons _ _ _).1 h1 with h | h
          · omega
          · exact ⟨p, h, h2⟩
      · rw [if_neg c1]
        by_cases c2 : t.2 < s.1
        · rw [if_pos c2, ih (x.length + 1 + y.length) (by omega) (s :: x) y a (t.2 + 1) (by simp) ⟨r1, r2, r3, r4⟩ q4]
          constructor
          · rintro ⟨p, h1, h2⟩; exact ⟨p, h1, (cov_cons _ _ _).2 (.inr h2)⟩
          · rintro ⟨p, h1, h2⟩
            have := Cov.ge (m := m) (l := s :: x) (a := s.1) ⟨Nat.le_refl _, r2, r3, r4⟩ h1
            rcases (cov_cons _ _ _).1 h2 with h | h
            · omega
            · exact ⟨p, h1, h⟩
        · rw [if_neg c2]
          simp only [true_iff]
          refine ⟨max s.1 t.1, (cov_cons _ _ _).2 (.inl ?_), (cov_cons _ _ _).2 (.inl ?_)⟩ <;> omega
theorem touch_l (x y : List (Nat × Nat)) (hx : x.length < 4611686018427387904) (hy : y.length < 4611686018427387904) : ∀ (n i j k : Nat), i ≤ x.length → j ≤ y.length → (x.length - i) + (y.length - j) = n → 2 * n + 2 ≤ k →
    sub_Touch.l0 k (sps x) (sps y) (i : Int) (j : Int) = some (tch (x.drop i) (y.drop j), 0) := by
  intro n
  induction n using Nat.strongRecOn with
  | _ n ih =>
    intro i j k hi hj hn hk
    obtain ⟨k, rfl⟩ : ∃ m, k = m + 2 := ⟨k - 2, by omega⟩
    simp only [sub_Touch.l0]
    rw [sps_len, sps_len]
    by_cases c1 : i < x.length
    · rw [if_pos (by omega)]
      simp only [sub_Touch.j2]
      have d1 : x.drop i = x[i] :: x.drop (i + 1) := List.drop_eq_getElem_cons (by omega)
      by_cases c2 : j < y.length
      · have d2 : y.drop j = y[j] :: y.drop (j + 1) := List.drop_eq_getElem_cons (by omega)
        rw [decide_eq_true (show (j : Int) < (y.length : Int) by omega), if_pos rfl, sps_len, sps_len, if_pos (by omega), if_pos (by omega), if_pos (by omega), if_pos (by omega), rdT_sps c1, rdT_sps c2]
        simp only
        rw [w64 (x := (i : Int) + 1) (by omega) (by omega), w64 (x := (j : Int) + 1) (by omega) (by omega), show (i : Int) + 1 = ((i + 1 : Nat) : Int) by omega, show (j : Int) + 1 = ((j + 1 : Nat) : Int) by omega]
        rw [d1, d2, tch]
        by_cases e1 : x[i].2 < y[j].1
        · rw [if_pos (by omega), if_pos e1, ih (n - 1) (by omega) (i + 1) j k (by omega) (by omega) (by omega) (by omega), d2]
        · rw [if_neg (by omega), if_neg e1]
          by_cases e2 : y[j].2 < x[i].1
          · rw [if_pos (by omega), if_pos e2, ih (n - 1) (by omega) i (j + 1) k (by omega) (by omega) (by omega) (by omega), d1]
          · rw [if_neg (by omega), if_neg e2]
      · rw [decide_eq_false (show ¬ (j : Int) < (y.length : Int) by omega), if_neg (by simp), List.drop_of_length_le (l := y) (by omega), d1, tch]
    · rw [if_neg (by omega)]
      simp only [sub_Touch.j2]
      rw [if_neg (by simp), List.drop_of_length_le (l := x) (by omega), tch]
theorem spn_len (h i j : Nat) : (spn h i j).length ≤ 2 := by
  unfold spn
  split
  · simp
  · split <;> split <;> simp
/-- Two subsets touch. -/
def Tch (h i j a b : Nat) : Prop := ∃ p, In h i j p ∧ In h a b p
theorem Touch_eq (h : Int) {i j a b : Nat} (hi' : i < 18446744073709551616) (hj : j < 18446744073709551616) (ha : a < 18446744073709551616) (hb : b < 18446744073709551616) {k : Nat} (hk : 20 ≤ k) :
    sub_Touch.f k h (i : Int) (j : Int) (a : Int) (b : Int) = some (if Sb h.toNat i j ∧ Sb h.toNat a b then (tch (spn h.toNat i j) (spn h.toNat a b), 0) else (false, 1)) := by
  obtain ⟨k, rfl⟩ : ∃ m, k = m + 1 := ⟨k - 1, by omega⟩
  unfold sub_Touch.f
  rw [sLeaves_eq h hi' hj, sLeaves_eq h ha hb]; simp only [Option.bind_some]
  by_cases h1 : Sb h.toNat i j
  · by_cases h2 : Sb h.toNat a b
    · have h12 : Sb h.toNat i j ∧ Sb h.toNat a b := ⟨h1, h2⟩
      rw [if_pos h1, if_pos h2, if_pos h12]
      have l1 := spn_len h.toNat i j
      have l2 := spn_len h.toNat a b
      have := touch_l (spn h.toNat i j) (spn h.toNat a b) (by omega) (by omega) _ 0 0 k (by omega) (by omega) rfl (by omega)
      simp only [if_true, sub_Touch.j0]
      simpa using this
    · rw [if_pos h1]; simp [h2, sub_Touch.j0]
  · rw [if_neg h1]; simp [h1, sub_Touch.j0]
theorem tch_spn {h i j a b : Nat} (s : Sb h i j) (t : Sb h a b) : tch (spn h i j) (spn h a b) = true ↔ Tch h i j a b := by
  rw [tch_iff (m := 2 ^ h) _ _ _ 0 0 rfl (spn_rise s) (spn_rise t)]
  constructor
  · rintro ⟨p, h1, h2⟩; exact ⟨p, (mem_spn s p).1 h1, (mem_spn t p).1 h2⟩
  · rintro ⟨p, h1, h2⟩; exact ⟨p, (mem_spn s p).2 h1, (mem_spn t p).2 h2⟩
end Go.Proofs.Ytmaaibcnfhbajaa.Med
