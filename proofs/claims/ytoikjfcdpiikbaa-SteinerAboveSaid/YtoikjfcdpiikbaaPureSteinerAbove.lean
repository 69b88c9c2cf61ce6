/- SteinerAbove: for every height, list of at most thirty numbers, and two numbers: a node above one that is of the tree is of it; of a set with one leaf less the tree has no other nodes; no condition. -/
import Derived.Test.YtoikjfcdpiikbaaZSteinerAbove
import Derived.Test.YtoikjfcdpiikbaaMPx24
set_option linter.unusedVariables false
set_option linter.unusedSimpArgs false
set_option linter.unusedSectionVars false
namespace Go.Proofs.Ytoikjfcdpiikbaa.Pure
open Go.RowKit Go.Proofs.Ytoikjfcdpiikbaa.MP Go.Proofs.YtoikjfcdpiikbaaW.PrintWords Go.Proofs.YtoikjfcdpiikbaaW.PrintLast Go.Proofs.Ytoikjfcdpiikbaa.Med
theorem above_j1 {h : Int} {l : List Nat} (hb : ∀ x ∈ l, x < 18446744073709551616) (c : Lst h l) (n30 : l.length ≤ 30) {n a : Nat} (hn : n < 18446744073709551616) (dn : Nd h.toNat n) {K : Nat} (hK : 40050 ≤ K) :
    medlarlaw09_SteinerAbove.j1 K h (ints l) (n : Int) true (inT h.toNat l n) (inT h.toNat l a) false = some true := by
  obtain ⟨K, rfl⟩ : ∃ j, K = j + 1 := ⟨K - 1, by omega⟩
  have hh := c.1
  rw [hi_iff] at hh
  rw [medlarlaw09_SteinerAbove.j1, if_neg (by simp), ints_len]
  match l, hb, c, n30 with
  | [], _, _, _ =>
    rw [if_pos (by rfl)]; simp [inT]
  | i :: l, hb, c, n30 =>
    have c' := c
    obtain ⟨_, n1, hl, hu⟩ := c
    have ct : Lst h l := ⟨c'.1, by simp only [List.length_cons] at n1; omega, fun j hj => hl j (by simp [hj]), hu.tail⟩
    have hbt : ∀ x ∈ l, x < 18446744073709551616 := fun x hx => hb x (by simp [hx])
    simp only [List.length_cons] at n30 n1
    have tl := trs_len hl hu (h.toNat + 1) (Nat.le_refl _)
    have tm : (h.toNat + 1) * (i :: l).length ≤ 33 * 30 := Nat.mul_le_mul (by omega) (by simp only [List.length_cons]; omega)
    obtain ⟨t1, t2⟩ := tree_less hl hu
    have cd : Lst h l ∧ Nd h.toNat n := ⟨ct, dn⟩
    have ed : (ints (i :: l)).drop 1 = ints l := rfl
    rw [if_neg (by simp only [List.length_cons]; omega), if_pos (by simp only [List.length_cons]; omega), ed, Is_eq h hbt (by omega) hn (by omega), Many9_eq h hb (by simp only [List.length_cons]; omega) (by omega) (by simp only [List.length_cons]; omega), Many9_eq h hbt (by omega) (by omega) (by omega)]; simp only [bnd]
    rw [if_pos cd, if_pos c', if_pos ct]; dsimp only
    have imp : inT h.toNat l n = true → inT h.toNat (i :: l) n = true := by
      intro z
      obtain ⟨j, hj, y⟩ := inT_iff.1 z
      exact inT_iff.2 ⟨j, by simp [hj], y⟩
    have e1 : wrap64 (wrap64 (((trs h.toNat l (h.toNat + 1)).length : Int) + h) + 1) = ((trs h.toNat l (h.toNat + 1)).length : Int) + h + 1 := by
      rw [w64 (x := ((trs h.toNat l (h.toNat + 1)).length : Int) + h) (by omega) (by omega), w64 (by omega) (by omega)]
    have d1 : ((trs h.toNat l (h.toNat + 1)).length : Int) < ((trs h.toNat (i :: l) (h.toNat + 1)).length : Int) := by omega
    have d2 : ((trs h.toNat (i :: l) (h.toNat + 1)).length : Int) ≤ ((trs h.toNat l (h.toNat + 1)).length : Int) + h + 1 := by omega
    rw [e1]; simp only [if_true, d1, d2, decide_true]
    cases z : inT h.toNat l n
    · simp
    · rw [imp z]; simp
theorem SteinerAbove : medlarlaw09_SteinerAbove.Pure := by
  intro h l n a w0 w1 w2 w3 w4 w5
  obtain ⟨l, rfl, hb⟩ := ints_of l w3
  obtain ⟨n, rfl, hn⟩ := wf_u64 w4
  obtain ⟨a, rfl, ha⟩ := wf_u64 w5
  refine ⟨40100, ?_⟩
  generalize hK : (40100 : Nat) = K
  obtain ⟨K, rfl⟩ : ∃ j, K = j + 2 := ⟨K - 2, by omega⟩
  unfold medlarlaw09_SteinerAbove.f
  rw [live9 (by omega)]; simp only [bnd]
  rw [ints_len] at *
  by_cases l30 : (l.length : Int) > 30
  · rw [if_pos l30]
  · rw [if_neg l30, Is_eq h hb (by omega) hn (by omega), Is_eq h hb (by omega) ha (by omega), Above_eq h ha hn]; simp only [bnd]
    have bad : ∀ x y z, medlarlaw09_SteinerAbove.j0 (K + 2) h (ints l) (n : Int) true x y z true = some true := by
      intro x y z
      rw [medlarlaw09_SteinerAbove.j0, if_pos rfl]
    by_cases c : Lst h l
    · by_cases dn : Nd h.toNat n
      · by_cases da : Nd h.toNat a
        · have c1 : Lst h l ∧ Nd h.toNat n := ⟨c, dn⟩
          have c2 : Lst h l ∧ Nd h.toNat a := ⟨c, da⟩
          have c3 : Nd h.toNat a ∧ Nd h.toNat n := ⟨da, dn⟩
          rw [if_pos c1, if_pos c2, if_pos c3]; dsimp only
          have e0 : ((0 : Int) != 0) = false := by decide
          have J := above_j1 hb c (by omega) (a := a) hn dn (K := K + 1) (by omega)
          rw [if_pos rfl, if_pos rfl, e0, medlarlaw09_SteinerAbove.j0, if_neg (by simp)]
          by_cases ab : Abv a n
          · rw [decide_eq_true ab, if_pos rfl]
            cases z : inT h.toNat l n
            · rw [z] at J
              simpa using J
            · have := inT_up ab z
              rw [z, this] at J
              rw [this]
              simpa using J
          · rw [decide_eq_false ab, if_neg (by simp)]; exact J
        · have c2 : ¬ (Lst h l ∧ Nd h.toNat a) := fun z => da z.2
          rw [if_neg c2]; simp [bad]
      · have c1 : ¬ (Lst h l ∧ Nd h.toNat n) := fun z => dn z.2
        rw [if_neg c1]; simp [bad]
    · have c1 : ¬ (Lst h l ∧ Nd h.toNat n) := fun z => c z.1
      rw [if_neg c1]; simp [bad]
end Go.Proofs.Ytoikjfcdpiikbaa.Pure
