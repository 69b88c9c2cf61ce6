/- ImageMakes, plainly. -/
import Derived.Test.YtoljdfgkkkpnbaaZImageMakes
import Derived.Test.YtoljdfgkkkpnbaaMPx2
import Derived.Test.YtoljdfgkkkpnbaaMPx5
import Derived.Test.YtoljdfgkkkpnbaaMPx9
set_option linter.unusedVariables false
set_option linter.unusedSimpArgs false
set_option linter.unusedSectionVars false
namespace Go.Proofs.Ytoljdfgkkkpnbaa.Pure
open Go.RowKit Go.Proofs.YtoljdfgkkkpnbaaW.PrintWords Go.Proofs.YtoljdfgkkkpnbaaW.PrintMore Go.Proofs.Ytoljdfgkkkpnbaa.MP Go.Proofs.Ytoljdfgkkkpnbaa.Med
theorem live17m : medlarlaw17_live.f 200 = some true := by decide +kernel
theorem smm_l (L : List S65) (hn : L.length ≤ 100000) : ∀ (q j k : Nat), j + q = L.length → q < k → api_Entry_82.l0 k L L (L.length : Int) (j : Int) = some true := by
  intro q
  induction q with
  | zero =>
    intro j k hj hk
    obtain ⟨k, rfl⟩ : ∃ m, k = m + 1 := ⟨k - 1, by omega⟩
    simp only [api_Entry_82.l0]
    rw [if_neg (by omega)]
  | succ q ih =>
    intro j k hj hk
    obtain ⟨k, rfl⟩ : ∃ m, k = m + 1 := ⟨k - 1, by omega⟩
    simp only [api_Entry_82.l0]
    rw [if_pos (by omega), if_pos (by omega), if_pos (by omega), if_pos (by omega), if_neg (by simp), w64 (by omega) (by omega), show (j : Int) + 1 = ((j + 1 : Nat) : Int) by omega]
    exact ih (j + 1) k (by omega) (by omega)
theorem smm_eq (L : List S65) (hn : L.length ≤ 100000) {k : Nat} (hk : L.length < k) : store_Same.f k L L = some true := by
  unfold store_Same.f api_Entry_82.f
  rw [if_pos rfl]
  have := smm_l L hn L.length 0 k (by omega) hk
  rw [show ((0 : Nat) : Int) = 0 from rfl] at this
  rw [this]; rfl
theorem ImageMakes (a b h s i : Int) (wa : (Lit.int .u64 a).wf = true) (wb : (Lit.int .u64 b).wf = true) (wh : (Lit.int .i64 h).wf = true) (ws : (Lit.int .i64 s).wf = true) (wi : (Lit.int .u64 i).wf = true) :
    ∃ k, medlarlaw17_ImageMakes.f k a b h s i = some true := by
  obtain ⟨a, rfl, ha⟩ := wf_u64 wa
  obtain ⟨b, rfl, hb⟩ := wf_u64 wb
  obtain ⟨p, rfl, hp⟩ := wf_u64 wi
  refine ⟨60000, ?_⟩
  have lv : medlarlaw17_live.f 60000 = some true := at_rounds (g := fun k => medlarlaw17_live.f k) medlarlaw17_live.mono (by omega) live17m
  obtain ⟨K, hK⟩ : ∃ K : Nat, K = 60000 := ⟨_, rfl⟩
  rw [← hK] at lv ⊢
  unfold medlarlaw17_ImageMakes.f
  rw [lv]; simp only [bnd]
  by_cases c8 : h > 8
  · rw [if_pos c8]
  rw [if_neg c8]
  rcases Make_vl h s hp (a, b) ⟨ha, hb⟩ (k := K) (by omega) with ⟨cs, cl, V, v1, v2, e⟩ | ⟨_, e⟩
  · rw [e]; simp only [bnd]
    have ch := cl.1
    rw [hi_iff] at ch
    have ms : Sch s ∧ Hi h := ⟨cs, cl.1⟩
    have pl := prs_len (show h.toNat ≤ 32 by omega) s (2 ^ h.toNat + p)
    rw [Many14_eq h s (by omega), if_pos ms]; simp only [bnd]
    rw [if_pos trivial]
    have el : (ens (prs h.toNat s (2 ^ h.toNat + p)) V).length = (prs h.toNat s (2 ^ h.toNat + p)).length := ens_len v1
    have eU : ∀ x ∈ ens (prs h.toNat s (2 ^ h.toNat + p)) V, Ub x := by
      intro x hx
      unfold ens at hx
      obtain ⟨j, hj, rfl⟩ := List.getElem_of_mem hx
      rw [List.getElem_zipWith]
      have u := v2 _ (List.getElem_mem (show j < V.length by rw [List.length_zipWith] at hj; omega))
      unfold U2 at u
      unfold Ub en vl
      dsimp only
      omega
    rcases iStore_eq h s hp _ (by rw [el]; omega) eU (k := K) (by omega) (by rw [el]; omega) with ⟨W, c1, c2, c3, c4, c5, e2⟩ | ⟨c, _⟩
    · have ve : W = V := (ens_inj (P := prs h.toNat s (2 ^ h.toNat + p)) v1 c3 c4).symm
      subst ve
      have cs := c1
      unfold Sch at cs
      rw [e2]; simp only [bnd]
      obtain ⟨H, rfl⟩ := Int.eq_ofNat_of_zero_le (show 0 ≤ h by omega)
      obtain ⟨S, rfl⟩ := Int.eq_ofNat_of_zero_le (show 0 ≤ s by omega)
      rw [Int.toNat_natCast] at *
      rw [Int.toNat_natCast]
      have sb := stx_lt (H := H) (S := S) (p := p) (by omega) (by omega) W
      have f := stx_f (H := H) (S := S) (V := W) hp []
      rw [List.append_nil, List.append_nil] at f
      rw [iRead_eq sb (by rw [stx_len]; omega) (by omega), if_neg (by rw [stx_len]; omega), if_pos (stx_Rdb hp c1 c2 c3)]; simp only [bnd]
      have pv := pcs_bdy W [] c5
      rw [List.append_nil] at pv
      have pm : pmn H (S : Int) = W.length := by
        rw [c3]
        have hx : 2 ^ H + p ≠ 0 := by have := Nat.pow_pos (n := H) (show 0 < 2 by decide); omega
        exact (prs_pmn c1 (by omega) hx (by rw [Nat.log2_eq_iff hx]; have := c2.2; rw [Int.toNat_natCast] at this; rw [Nat.pow_succ]; omega)).symm
      rw [if_pos trivial, if_pos trivial, if_pos trivial, if_pos trivial, if_pos (by simp), pm, if_pos (by rw [ints_len, stx_len, w64 (x := 16 * (W.length : Int)) (by omega) (by omega), w64 (by omega) (by omega)]; omega), stx_fP hp, f.2.1, f.2.2.1, f.2.2.2.1, f.2.2.2.2, ← c3, pv, if_pos rfl, if_pos rfl, if_pos rfl, smm_eq _ (by rw [el]; omega) (by rw [el]; omega)]; simp only [bnd]
    · exact (c ⟨cs, cl, ens_okn _ _ v1⟩).elim
  · rw [e]; simp only [bnd]
    by_cases m : Sch s ∧ Hi h
    · rw [Many14_eq h s (by omega), if_pos m]; simp only [bnd]
      rw [if_neg (by decide)]
    · rw [Many14_eq h s (by omega), if_neg m]; simp only [bnd]
      rw [if_neg (by decide)]
end Go.Proofs.Ytoljdfgkkkpnbaa.Pure
