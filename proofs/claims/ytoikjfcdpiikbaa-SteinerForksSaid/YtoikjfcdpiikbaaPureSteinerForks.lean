/- SteinerForks: for every height, list of at most thirty numbers, and node: of a set that is not empty there is one fork less than leaves; both children of each fork are of its tree; of each node of it the deepest one is a fork, or a leaf; no condition. -/
import Derived.Test.YtoikjfcdpiikbaaZSteinerForks
import Derived.Test.YtoikjfcdpiikbaaMPx29
set_option linter.unusedVariables false
set_option linter.unusedSimpArgs false
set_option linter.unusedSectionVars false
namespace Go.Proofs.Ytoikjfcdpiikbaa.Pure
open Go.RowKit Go.Proofs.Ytoikjfcdpiikbaa.MP Go.Proofs.YtoikjfcdpiikbaaW.PrintWords Go.Proofs.YtoikjfcdpiikbaaW.PrintLast Go.Proofs.Ytoikjfcdpiikbaa.Med
theorem forks_l {H : Nat} (hH : 1 ≤ H ∧ H ≤ 32) {l : List Nat} (hb : ∀ x ∈ l, x < 18446744073709551616) (c : Lst (H : Int) l) (n30 : l.length ≤ 30) {n : Nat} (hn : n < 18446744073709551616) (F : List Nat) (hF : F = frk H l) (hlen : F.length ≤ 1000) :
    ∀ (q t k : Nat), t + q = F.length → 4 * q + 1100 ≤ k → medlarlaw09_SteinerForks.l0 k (H : Int) (ints l) (n : Int) true (ints F) (ints F) (F.length : Int) (t : Int) = some true := by
  have hl := c.2.2.1
  have hu := c.2.2.2
  rw [Int.toNat_natCast] at hl
  intro q
  induction q with
  | zero =>
    intro t k ht hk
    obtain ⟨k, rfl⟩ : ∃ m, k = m + 2 := ⟨k - 2, by omega⟩
    rw [medlarlaw09_SteinerForks.l0, if_neg (by omega), Down_eq (H : Int) hb (by omega) hn (by omega), Is_eq (H : Int) hb (by omega) hn (by omega)]; simp only [bnd, Int.toNat_natCast]
    by_cases dn : Nd H n
    · have c2 : Lst (H : Int) l ∧ Nd H n := ⟨c, dn⟩
      rw [if_pos c2, if_pos c2]
      by_cases t1 : inT H l n = true
      · have d0 := dwn_ne hl hu t1
        have d1 := dwn_below hl hu t1
        have d2 := dwn_le hl hu t1
        have dd : Nd H (dwn H l n) := ⟨hH.1, hH.2, d0, d2⟩
        have lt := dd.lt33
        have c3 : Nd H n ∧ Nd H (dwn H l n) := ⟨dn, dd⟩
        have ab := Above_eq (H : Int) hn (b := dwn H l n) (by omega) k
        have dp := Depth_eq (H : Int) (n := dwn H l n) (by omega) k
        rw [Int.toNat_natCast, if_pos c3, decide_eq_true d1] at ab
        rw [Int.toNat_natCast, if_pos dd] at dp
        rw [if_pos t1]; dsimp only
        rw [if_pos (by trivial), ab, dp]; simp only [bnd]
        simp only [if_true, t1]
        by_cases e : (dwn H l n).log2 = H
        · rw [if_pos (by omega)]
        · have fk := dwn_fork hl hu t1 (by omega)
          rw [if_neg (by omega), In_eq _ _ (by omega) (by omega)]; simp only [bnd]
          rw [hF, decide_eq_true fk]
      · rw [if_neg t1]
        have : inT H l n = false := by simpa using t1
        simp [this]
    · have c2 : ¬ (Lst (H : Int) l ∧ Nd H n) := fun z => dn z.2
      rw [if_neg c2, if_neg c2]; simp
  | succ q ih =>
    intro t k ht hk
    have htT : t < F.length := by omega
    have hf : F[t] ∈ frk H l := by rw [← hF]; exact List.getElem_mem htT
    obtain ⟨f0, f1, f2, f3⟩ := mem_frk.1 hf
    have lg := log2_dbl f0
    have nf : Nd H F[t] := ⟨hH.1, hH.2, f0, by omega⟩
    have lt := nf.lt33
    have step : ∀ (b j : Nat), b < 2 → k - 4 ≤ j → medlarlaw09_SteinerForks.l1 (j + 1) (H : Int) (ints l) (n : Int) true (ints F) (F[t] : Int) (ints F) (F.length : Int) (t : Int) (b : Int) =
        medlarlaw09_SteinerForks.l1 j (H : Int) (ints l) (n : Int) true (ints F) (F[t] : Int) (ints F) (F.length : Int) (t : Int) ((b + 1 : Nat) : Int) := by
      intro b j hb2 hj
      have nb : Nd H (2 * F[t] + b) := by
        refine ⟨hH.1, hH.2, by omega, ?_⟩
        rcases (show b = 0 ∨ b = 1 by omega) with rfl | rfl
        · rw [Nat.add_zero]; omega
        · omega
      have tb : inT H l (2 * F[t] + b) = true := by
        rcases (show b = 0 ∨ b = 1 by omega) with rfl | rfl
        · rw [Nat.add_zero]; exact f2
        · exact f3
      have c2 : Lst (H : Int) l ∧ Nd H (2 * F[t] + b) := ⟨c, nb⟩
      rw [medlarlaw09_SteinerForks.l1, if_pos (by omega), Child_eq nf hb2 (by omega), if_pos f1]; simp only [bnd]
      rw [Is_eq (H : Int) hb (by omega) (n := 2 * F[t] + b) (by omega) (by omega), Int.toNat_natCast, if_pos c2, tb]; simp only [bnd]
      simp only [if_true]
      rw [w64 (by omega) (by omega)]; rfl
    obtain ⟨k, rfl⟩ : ∃ m, k = m + 4 := ⟨k - 4, by omega⟩
    rw [medlarlaw09_SteinerForks.l0, if_pos (by omega), if_pos (by omega), if_pos (by rw [ints_len]; omega), ints_rd htT]
    have s0 := step 0 (k + 2) (by omega) (by omega)
    have s1 := step 1 (k + 1) (by omega) (by omega)
    rw [show ((0 : Nat) : Int) = 0 from rfl] at s0
    rw [s0, show ((0 + 1 : Nat) : Int) = ((1 : Nat) : Int) from rfl, s1, medlarlaw09_SteinerForks.l1, if_neg (by omega), w64 (by omega) (by omega), show (t : Int) + 1 = ((t + 1 : Nat) : Int) by omega]
    exact ih (t + 1) k (by omega) (by omega)
theorem SteinerForks : medlarlaw09_SteinerForks.Pure := by
  intro h l n w0 w1 w2 w3 w4
  obtain ⟨l, rfl, hb⟩ := ints_of l w3
  obtain ⟨n, rfl, hn⟩ := wf_u64 w4
  refine ⟨200100, ?_⟩
  generalize hK : (200100 : Nat) = K
  obtain ⟨K, rfl⟩ : ∃ j, K = j + 1 := ⟨K - 1, by omega⟩
  unfold medlarlaw09_SteinerForks.f
  rw [live9 (by omega)]; simp only [bnd]
  rw [ints_len] at *
  by_cases l30 : (l.length : Int) > 30
  · rw [if_pos l30]
  · rw [if_neg l30, Forks_eq h hb (by omega) (by omega) (by omega)]; simp only [bnd]
    by_cases c : Lst h l
    · obtain ⟨hh, n1, hl, hu⟩ := c
      have c : Lst h l := ⟨hh, n1, hl, hu⟩
      rw [hi_iff] at hh
      obtain ⟨H, rfl⟩ := Int.eq_ofNat_of_zero_le (show 0 ≤ h by omega)
      rw [Int.toNat_natCast] at *
      rw [if_pos c]; dsimp only
      rw [if_pos (by trivial), medlarlaw09_SteinerForks.j0]
      by_cases l0 : l = []
      · subst l0
        have : frk H [] = [] := by
          rw [List.eq_nil_iff_forall_not_mem]
          intro x hx
          have := (mem_frk.1 hx).2.2.1
          simp [inT] at this
        rw [this]; simp [ints]
      · have ln : l.length ≠ 0 := fun z => l0 (List.length_eq_zero_iff.1 z)
        have t2 := (tree_len hl hu l0).2
        have e0 : ((l.length : Int) == 0) = false := by rw [beq_eq_false_iff_ne]; omega
        rw [e0, if_neg (by simp), if_pos (by rw [ints_len, ints_len, w64 (by omega) (by omega)]; omega), ints_len]
        exact forks_l (by omega) hb c (by omega) hn _ rfl (by omega) (frk H l).length 0 K (by omega) (by omega)
    · rw [if_neg c]; simp [medlarlaw09_SteinerForks.j0]
end Go.Proofs.Ytoikjfcdpiikbaa.Pure
