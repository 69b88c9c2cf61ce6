/- StoreTwo: of two leaves each pair that both have has both in it; a pair of the one that has no J is the other one's where the other one is in it; and both have as many; no condition. -/
import Derived.Test.YtccmoohcpaohmaaZStoreTwo
import Derived.Test.YtccmoohcpaohmaaMPx28
set_option linter.unusedVariables false
set_option linter.unusedSimpArgs false
set_option linter.unusedSectionVars false
namespace Go.Proofs.Ytccmoohcpaohmaa.Pure
open Go.RowKit Go.Proofs.Ytccmoohcpaohmaa.MP Go.Proofs.YtccmoohcpaohmaaW.PrintWords Go.Proofs.YtccmoohcpaohmaaW.PrintLast Go.Proofs.Ytccmoohcpaohmaa.Med
theorem two_l_eq {H p q : Nat} {s : Int} (hs : Sch s) (hh : 1 ≤ H ∧ H ≤ 32) (hp : p < 2 ^ H) (hq : q < 2 ^ H) {k : Nat} (hk : 3 ≤ k) : ∀ l : List (Nat × Nat), (∀ z ∈ l, z ∈ prs H s (2 ^ H + p)) →
    two_l k (H : Int) (q : Int) (sbs (prs H s (2 ^ H + q))) (sbs l) = some () := by
  have pw := pow_mono hh.2
  have l2 : (2 ^ H + q).log2 = H := leaf_log2 (by omega) (by rw [Nat.pow_succ]; omega)
  have l1 : (2 ^ H + p).log2 = H := leaf_log2 (by omega) (by rw [Nat.pow_succ]; omega)
  have x2 : 2 ^ H + q ≠ 0 := by have := pow_pos2 H; omega
  have x1 : 2 ^ H + p ≠ 0 := by have := pow_pos2 H; omega
  have LF : Lfi (H : Int) q := ⟨by rw [hi_iff]; omega, by rw [Int.toNat_natCast]; exact hq⟩
  intro l
  induction l with
  | nil => intro _; rfl
  | cons z l ih =>
    intro hl
    obtain ⟨i, j⟩ := z
    have m1 := hl _ List.mem_cons_self
    obtain ⟨sb, ab, an, my⟩ := prs_mem hs hh x1 l1 m1
    simp only at sb ab an my
    have i64 : i < 18446744073709551616 := by have := sb.1.lt33; omega
    have j64 : j < 18446744073709551616 := by
      rcases sb.2 with z | z
      · omega
      · have := z.1.lt33; omega
    show two_l k (H : Int) (q : Int) (sbs (prs H s (2 ^ H + q))) (⟨(i : Int), (j : Int)⟩ :: sbs l) = some ()
    have hS := sHas_eq (H : Int) i64 j64 (p := q) (by omega) hk
    rw [Int.toNat_natCast, if_pos ⟨sb, LF⟩] at hS
    rw [two_l, hS]; simp only [bnd]
    have ihl := ih fun z hz => hl z (List.mem_cons_of_mem _ hz)
    have mm : ((⟨(i : Int), (j : Int)⟩ : S24) ∈ sbs (prs H s (2 ^ H + q))) ↔ (i, j) ∈ prs H s (2 ^ H + q) := mem_sbs (p := (i, j))
    rw [if_pos]
    · exact ihl
    · refine ⟨by trivial, ?_, ?_⟩
      · rw [mm]
        intro z
        obtain ⟨_, b, c, _⟩ := prs_mem hs hh x2 l2 z
        exact decide_eq_true ((in_abv sb hq).2 ⟨b, c⟩)
      · intro j0
        have j0 : j = 0 := by omega
        rw [decide_eq_decide, mm, in_abv sb hq]
        constructor
        · rintro ⟨a, _⟩
          rw [j0] at my ⊢
          exact prs_whole hs x2 l2 a my
        · intro z
          obtain ⟨_, b, c, _⟩ := prs_mem hs hh x2 l2 z
          exact ⟨b, c⟩
theorem StoreTwo : ∀ a0 a1 a2 a3 : Int, (Lit.int .i64 a0).wf = true → (Lit.int .i64 a1).wf = true → (Lit.int .u64 a2).wf = true → (Lit.int .u64 a3).wf = true → ∃ k, medlarlaw14_StoreTwo.f k a0 a1 a2 a3 = some true := by
  intro h s p q w0 w1 w2 w3
  obtain ⟨p, rfl, hp⟩ := wf_u64 w2
  obtain ⟨q, rfl, hq⟩ := wf_u64 w3
  refine ⟨2000, ?_⟩
  generalize hK : (2000 : Nat) = K
  unfold medlarlaw14_StoreTwo.f
  rw [live14 (by omega)]; simp only [bnd]
  rw [if_pos (by trivial)]
  by_cases c0 : h > 16 ∧ h ≤ 32
  · rw [if_pos c0]
  rw [if_neg c0, Pairs_eq h s hp (by omega), Pairs_eq h s hq (by omega)]; simp only [bnd]
  by_cases c1 : Sch s ∧ Lfi h p
  · rw [if_pos c1]
    by_cases c2 : Sch s ∧ Lfi h q
    · rw [if_pos c2]; dsimp only
      have hh := c1.2.1
      rw [hi_iff] at hh
      obtain ⟨H, rfl⟩ := Int.eq_ofNat_of_zero_le (show 0 ≤ h by omega)
      have hp' := c1.2.2
      have hq' := c2.2.2
      simp only [Int.toNat_natCast] at hp' hq' ⊢
      have hH : 1 ≤ H ∧ H ≤ 32 := by omega
      have l2 : (2 ^ H + q).log2 = H := leaf_log2 (by omega) (by rw [Nat.pow_succ]; omega)
      have l1 : (2 ^ H + p).log2 = H := leaf_log2 (by omega) (by rw [Nat.pow_succ]; omega)
      have x2 : 2 ^ H + q ≠ 0 := by have := pow_pos2 H; omega
      have x1 : 2 ^ H + p ≠ 0 := by have := pow_pos2 H; omega
      have b1 := prs_len (show H ≤ 32 by omega) s (2 ^ H + p)
      have b2 := prs_len (show H ≤ 32 by omega) s (2 ^ H + q)
      have wfs : ∀ (x : Nat), x ≠ 0 → x.log2 = H → ∀ z ∈ sbs (prs H s x), WfS z := by
        intro x x0 lx z hz
        unfold sbs at hz
        obtain ⟨⟨i, j⟩, hy, rfl⟩ := List.mem_map.1 hz
        obtain ⟨sb, _, _, _⟩ := prs_mem c1.1 hH x0 lx hy
        simp only at sb
        have i64 : i < 8589934592 := by have := sb.1.lt33; omega
        have j64 : j < 8589934592 := by
          rcases sb.2 with z | z
          · omega
          · have := z.1.lt33; omega
        have wu : ∀ n : Nat, n < 8589934592 → (Lit.int .u64 (n : Int)).wf = true := fun n hn => by
          have h0 : IntKind.u64.min = 0 := by decide
          have h1 : IntKind.u64.max = 18446744073709551615 := by decide
          simp [Lit.wf, h0, h1]; omega
        exact ⟨wu i i64, wu j j64⟩
      rw [if_pos ⟨by trivial, by trivial⟩, if_pos ⟨wfs _ x1 l1, wfs _ x2 l2, by rw [sbs_len]; omega, by rw [sbs_len]; omega⟩,
        two_l_eq c1.1 hH hp' hq' (by omega) _ fun z hz => hz]
      simp only [bnd]
      rw [if_pos (by rw [sbs_len, sbs_len]; exact prs_dep s x1 x2 l1 l2)]
    · rw [if_neg c2]; simp
  · rw [if_neg c1]; simp
end Go.Proofs.Ytccmoohcpaohmaa.Pure
