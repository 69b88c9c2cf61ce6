/- Whether a subset may be of a scheme, and how many pairs a leaf has: what the functions of layer and store come to, on numbers. -/
import Derived.Test.YtmaaibcnfhbajaaMT
import Derived.Test.YtmaaibcnfhbajaaMQ
import Derived.Test.YtmaaibcnfhbajaaMPx12
import Derived.Test.YtmaaibcnfhbajaaMPx8
set_option linter.unusedVariables false
set_option linter.unusedSimpArgs false
namespace Go.Proofs.Ytmaaibcnfhbajaa.Med
open Go.RowKit Go.Proofs.YtmaaibcnfhbajaaW.PrintWords Go.Proofs.YtmaaibcnfhbajaaW.PrintMore Go.Proofs.Ytmaaibcnfhbajaa.MP

/-- There is such a scheme. -/
def Sch (s : Int) : Prop := 1 ≤ s ∧ s ≤ 3
instance (s : Int) : Decidable (Sch s) := inferInstanceAs (Decidable (_ ∧ _))
theorem sch_iff (s : Int) : Sch s ↔ 1 ≤ s ∧ s ≤ 3 := Iff.rfl
theorem lcheck_eq (h s : Int) (k : Nat) : layer_check.f (k + 1) h s = some (if Sch s ∧ Hi h then 0 else 1) := by
  unfold layer_check.f
  by_cases c1 : s < 1
  · rw [if_pos c1, if_neg (by rw [sch_iff]; omega)]
  · rw [if_neg c1]
    by_cases c2 : s > 3
    · rw [if_pos c2, if_neg (by rw [sch_iff]; omega)]
    · rw [if_neg c2, checkRoot_eq]; simp only [bnd]
      by_cases c3 : Hi h
      · rw [if_pos c3, if_pos ⟨(sch_iff s).2 (by omega), c3⟩]
      · rw [if_neg c3, if_neg (fun z => c3 z.2)]
/-- A subset may be of a scheme. -/
def May (h : Nat) (s : Int) (i j : Nat) : Prop := (s = 1 ∧ j = 0) ∨ (s = 2 ∧ (j ≠ 0 ∨ i = 1)) ∨ (s ≠ 1 ∧ s ≠ 2 ∧ Usf h i j)
instance (h : Nat) (s : Int) (i j : Nat) : Decidable (May h s i j) := inferInstanceAs (Decidable (_ ∨ _))
theorem may_iff (h : Nat) (s : Int) (i j : Nat) : May h s i j ↔ (s = 1 ∧ j = 0) ∨ (s = 2 ∧ (j ≠ 0 ∨ i = 1)) ∨ (s ≠ 1 ∧ s ≠ 2 ∧ Usf h i j) := Iff.rfl
theorem May_eq (h s : Int) {i j : Nat} (hi' : i < 18446744073709551616) (hj : j < 18446744073709551616) {k : Nat} (hk : 12 ≤ k) :
    layer_May.f k h s (i : Int) (j : Int) = some (if Sch s ∧ Sb h.toNat i j then (decide (May h.toNat s i j), 0) else (false, 1)) := by
  obtain ⟨k, rfl⟩ : ∃ m, k = m + 1 := ⟨k - 1, by omega⟩
  unfold layer_May.f
  rw [lcheck_eq, sCheck_eq h hi' hj]; simp only [bnd]
  by_cases c1 : Sch s ∧ Hi h
  · rw [if_pos c1]; simp only [if_true]
    by_cases c2 : Sb h.toNat i j
    · have c3 : Sch s ∧ Sb h.toNat i j := ⟨c1.1, c2⟩
      rw [if_pos c2, if_pos c3]
      simp only [layer_May.j0]
      rw [if_neg (by simp)]
      by_cases e1 : s = 1
      · rw [if_pos e1]; congr 2
        rw [Bool.eq_iff_iff, decide_eq_true_iff, may_iff]
        simp [e1]
      · rw [if_neg e1]
        by_cases e2 : s = 2
        · rw [if_pos e2]
          by_cases e3 : j = 0
          · subst e3
            rw [if_pos (by rfl)]; congr 2
            rw [Bool.eq_iff_iff, decide_eq_true_iff, may_iff]
            simp [e2]; omega
          · rw [if_neg (by omega)]; congr 2
            symm; rw [decide_eq_true_iff, may_iff]
            simp [e2, e3]
        · rw [if_neg e2, Useful_eq h hi' hj (by omega), if_pos c2]; simp only [bnd]
          congr 2
          rw [decide_eq_decide, may_iff]
          simp [e1, e2]
    · rw [if_neg c2, if_neg (fun z => c2 z.2)]; simp [layer_May.j0]
  · have c3 : ¬ (Sch s ∧ Sb h.toNat i j) := by
      rintro ⟨a, b⟩
      refine c1 ⟨a, ?_⟩
      have := b.1; rw [nd_iff] at this; rw [hi_iff]; omega
    rw [if_neg c1, if_neg c3]; simp [layer_May.j0]
/-- How many useful ones are beside the way to a leaf. -/
def lpn (h : Nat) : Nat := ((List.range h).map fun i => if i % stp h = 0 then h - i else nxt h i - i).sum
theorem lpairs_all : ∀ h : Fin 33, 1 ≤ h.val → layer_Pairs.l0 40 (h.val : Int) 0 (stp h.val : Int) (h.val : Int) 0 = some ((lpn h.val : Int), 0) := by decide +kernel
theorem lpn_all : ∀ h : Fin 33, 1 ≤ h.val → h.val ≤ lpn h.val ∧ 2 * lpn h.val ≤ h.val * (h.val + 1) ∧ (stp h.val ≤ 1 → 2 * lpn h.val = h.val * (h.val + 1)) := by decide +kernel
theorem lPairs_eq (h : Int) {k : Nat} (hk : 40 ≤ k) : layer_Pairs.f k h = some (if Hi h then ((lpn h.toNat : Int), 0) else (0, 1)) := by
  unfold layer_Pairs.f
  rw [Step_eq h (by omega)]; simp only [bnd]
  by_cases c : Hi h
  · have hh := c
    rw [hi_iff] at hh
    have e : ((h.toNat : Nat) : Int) = h := by omega
    have := lpairs_all ⟨h.toNat, by omega⟩ (by show 1 ≤ h.toNat; omega)
    simp only [e] at this
    rw [if_pos c]; simp only [if_true]
    exact at_rounds (g := fun k => layer_Pairs.l0 k h 0 (stp h.toNat : Int) h 0) (fun k => layer_Pairs.mono_l k _ _ _ _ _) hk (by rw [if_pos c]; exact this)
  · rw [if_neg c]; simp [c]
/-- How many pairs a leaf has. -/
def pmn (h : Nat) (s : Int) : Nat := if s = 1 then h + 1 else if s = 2 then h * (h + 1) / 2 + 1 else lpn h + 1
theorem pmn_le {h : Nat} (h1 : 1 ≤ h) (h2 : h ≤ 32) (s : Int) : pmn h s ≤ 529 := by
  have := lpn_all ⟨h, by omega⟩ h1
  simp only at this
  have h3 : h * (h + 1) ≤ 32 * 33 := Nat.mul_le_mul (by omega) (by omega)
  unfold pmn
  split
  · omega
  · split <;> omega
theorem Many14_eq (h s : Int) {k : Nat} (hk : 40 ≤ k) : store_Many.f k h s = some (if Sch s ∧ Hi h then ((pmn h.toNat s : Int), 0) else (0, 1)) := by
  unfold store_Many.f
  rw [lPairs_eq h hk]; simp only [bnd]
  by_cases c : Hi h
  · have hh := c
    rw [hi_iff] at hh
    obtain ⟨H, rfl⟩ := Int.eq_ofNat_of_zero_le (show 0 ≤ h by omega)
    have hl := lpn_all ⟨H, by omega⟩ (by show 1 ≤ H; omega)
    simp only at hl
    have h3 : H * (H + 1) ≤ 32 * 33 := Nat.mul_le_mul (by omega) (by omega)
    rw [if_pos c]; simp only [if_true, Int.toNat_natCast]
    by_cases s1 : s = 1
    · have : Sch s ∧ Hi (H : Int) := ⟨(sch_iff s).2 (by omega), c⟩
      rw [if_pos s1, if_pos this, w64 (by omega) (by omega)]; unfold pmn; rw [if_pos s1]; rfl
    · rw [if_neg s1]
      by_cases s2 : s = 2
      · have : Sch s ∧ Hi (H : Int) := ⟨(sch_iff s).2 (by omega), c⟩
        have e1 : (H : Int) * ((H : Int) + 1) = ((H * (H + 1) : Nat) : Int) := by push_cast; rfl
        rw [if_pos s2, if_pos this, w64 (x := (H : Int) + 1) (by omega) (by omega), e1]
        unfold pmn; rw [if_neg s1, if_pos s2]
        generalize H * (H + 1) = q at *
        rw [w64 (x := (q : Int)) (by omega) (by omega), Int.tdiv_eq_ediv_of_nonneg (by omega), w64 (x := (q : Int) / 2) (by omega) (by omega), w64 (by omega) (by omega)]
        congr 2
      · rw [if_neg s2]
        by_cases s3 : s = 3
        · have : Sch s ∧ Hi (H : Int) := ⟨(sch_iff s).2 (by omega), c⟩
          rw [if_pos s3, if_pos this]
          unfold pmn; rw [if_neg s1, if_neg s2]
          generalize H * (H + 1) = q at *
          rw [w64 (by omega) (by omega)]; rfl
        · rw [if_neg s3, if_neg (fun z => by have := z.1; rw [sch_iff] at this; omega)]
  · rw [if_neg c]; simp [c]
end Go.Proofs.Ytmaaibcnfhbajaa.Med
