/- StoreMany: a leaf has just as many pairs as are told, none twice, and each may be of the scheme; no condition. -/
import Derived.Test.YtccmoohcpaohmaaZStoreMany
import Derived.Test.YtccmoohcpaohmaaMPx28
set_option linter.unusedVariables false
set_option linter.unusedSimpArgs false
set_option linter.unusedSectionVars false
namespace Go.Proofs.Ytccmoohcpaohmaa.Pure
open Go.RowKit Go.Proofs.Ytccmoohcpaohmaa.MP Go.Proofs.YtccmoohcpaohmaaW.PrintWords Go.Proofs.YtccmoohcpaohmaaW.PrintLast Go.Proofs.Ytccmoohcpaohmaa.Med
theorem many_l_eq {H x : Nat} {s : Int} (hs : Sch s) (hh : 1 ≤ H ∧ H ≤ 32) (hx : x ≠ 0) (lx : x.log2 = H) {k : Nat} (hk : 40 ≤ k) : ∀ l : List (Nat × Nat), (∀ z ∈ l, z ∈ prs H s x) →
    MP.many_l k (H : Int) s (sbs l) = some () := by
  intro l
  induction l with
  | nil => intro _; rfl
  | cons z l ih =>
    intro hl
    obtain ⟨i, j⟩ := z
    obtain ⟨sb, ab, an, my⟩ := prs_mem hs hh hx lx (hl _ List.mem_cons_self)
    simp only at sb ab an my
    have i64 : i < 18446744073709551616 := by have := sb.1.lt33; omega
    have j64 : j < 18446744073709551616 := by
      rcases sb.2 with z | z
      · omega
      · have := z.1.lt33; omega
    show MP.many_l k (H : Int) s (⟨(i : Int), (j : Int)⟩ :: sbs l) = some ()
    have hM := May_eq (H : Int) s i64 j64 (show 12 ≤ k by omega)
    rw [Int.toNat_natCast, if_pos ⟨hs, sb⟩, decide_eq_true my] at hM
    rw [MP.many_l, hM]; simp only [bnd]
    rw [if_pos (by simp)]
    exact ih fun z hz => hl z (List.mem_cons_of_mem _ hz)
theorem StoreMany : ∀ a0 a1 a2 : Int, (Lit.int .i64 a0).wf = true → (Lit.int .i64 a1).wf = true → (Lit.int .u64 a2).wf = true → ∃ k, medlarlaw14_StoreMany.f k a0 a1 a2 = some true := by
  intro h s p w0 w1 w2
  obtain ⟨p, rfl, hp⟩ := wf_u64 w2
  refine ⟨2000, ?_⟩
  generalize hK : (2000 : Nat) = K
  unfold medlarlaw14_StoreMany.f
  rw [live14 (by omega)]; simp only [bnd]
  rw [if_pos (by trivial), Pairs_eq h s hp (by omega)]; simp only [bnd]
  by_cases c1 : Sch s ∧ Lfi h p
  · have hi := c1.2.1
    have PQ : Sch s ∧ Hi h := ⟨c1.1, hi⟩
    rw [if_pos c1, Many14_eq h s (by omega), lPairs_eq h (by omega), if_pos PQ, if_pos hi]; simp only [bnd]
    have hh := hi
    rw [hi_iff] at hh
    obtain ⟨H, rfl⟩ := Int.eq_ofNat_of_zero_le (show 0 ≤ h by omega)
    have hp' := c1.2.2
    simp only [Int.toNat_natCast] at hp' ⊢
    have hH : 1 ≤ H ∧ H ≤ 32 := by omega
    have l1 : (2 ^ H + p).log2 = H := leaf_log2 (by omega) (by rw [Nat.pow_succ]; omega)
    have x1 : 2 ^ H + p ≠ 0 := by have := pow_pos2 H; omega
    have b1 := prs_len (show H ≤ 32 by omega) s (2 ^ H + p)
    have ln := prs_pmn c1.1 hH.2 x1 l1
    have pb := pmn_le hH.1 hH.2 s
    have hsq : H * (H + 1) ≤ 32 * 33 := Nat.mul_le_mul (by omega) (by omega)
    have lpb := (lpn_all ⟨H, by omega⟩ hH.1).2.1
    simp only at lpb
    have sc := c1.1
    rw [sch_iff] at sc
    have wfs : ∀ z ∈ sbs (prs H s (2 ^ H + p)), WfS z := by
      intro z hz
      unfold sbs at hz
      obtain ⟨⟨i, j⟩, hy, rfl⟩ := List.mem_map.1 hz
      obtain ⟨sb, _, _, _⟩ := prs_mem c1.1 hH x1 l1 hy
      simp only at sb
      have i64 : i < 8589934592 := by have := sb.1.lt33; omega
      have j64 : j < 8589934592 := by
        rcases sb.2 with z | z
        · omega
        · have := z.1.lt33; omega
      have wu : ∀ n : Nat, n < 8589934592 → (Lit.int .u64 (n : Int)).wf = true := fun n hn => by
        have h0 : IntKind.u64.min = 0 := by decide
        have h1 : IntKind.u64.max = 18446744073709551615 := by decide
        simp [Lit.wf, h0, h1]; omega
      exact ⟨wu i i64, wu j j64⟩
    have nd : (sbs (prs H s (2 ^ H + p))).Nodup := by
      unfold sbs
      rw [List.nodup_iff_pairwise_ne, List.pairwise_map]
      refine List.Pairwise.imp ?_ (List.nodup_iff_pairwise_ne.1 (prs_nd (s := s) x1 l1))
      intro a b ab e
      refine ab ?_
      have e1 := congrArg (fun z : S24 => z.f0) e
      have e2 := congrArg (fun z : S24 => z.f1) e
      simp only at e1 e2
      ext <;> omega
    refine (if_pos trivial).trans ?_
    refine (if_pos ?_).trans ?_
    · refine ⟨⟨by trivial, by trivial, by rw [sbs_len, ln]⟩, ?_⟩
      unfold pmn
      by_cases s1 : s = 1
      · left
        rw [if_pos s1, w64 (by omega) (by omega)]
        exact ⟨s1, by omega⟩
      · right
        by_cases s2 : s = 2
        · left
          rw [if_neg s1, if_pos s2]
          have m1 : (H : Int) * ((H : Int) + 1) = ((H * (H + 1) : Nat) : Int) := by push_cast; rfl
          generalize H * (H + 1) = Q at *
          rw [w64 (x := (H : Int) + 1) (by omega) (by omega), m1, w64 (x := (Q : Int)) (by omega) (by omega), Int.tdiv_eq_ediv_of_nonneg (by omega), w64 (x := (Q : Int) / 2) (by omega) (by omega), w64 (by omega) (by omega)]
          exact ⟨s2, by omega⟩
        · right
          rw [if_neg s1, if_neg s2, w64 (by omega) (by omega)]
          exact ⟨by omega, by omega⟩
    · rw [if_pos ⟨wfs, by rw [sbs_len]; omega, nd⟩, many_l_eq c1.1 hH x1 l1 (by omega) _ fun z hz => hz]
      simp only [bnd]
  · rw [if_neg c1]; simp
end Go.Proofs.Ytccmoohcpaohmaa.Pure
