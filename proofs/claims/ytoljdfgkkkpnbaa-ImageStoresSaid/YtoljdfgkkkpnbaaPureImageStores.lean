/- ImageStores, plainly. -/
import Derived.Test.YtoljdfgkkkpnbaaZImageStores
import Derived.Test.YtoljdfgkkkpnbaaMPx2
import Derived.Test.YtoljdfgkkkpnbaaMPx3
import Derived.Test.YtoljdfgkkkpnbaaMPx5
import Derived.Test.YtoljdfgkkkpnbaaMPx6
import Derived.Test.YtoljdfgkkkpnbaaMPx7
import Derived.Test.YtoljdfgkkkpnbaaMPx8
import Derived.Test.YtoljdfgkkkpnbaaMPx9
set_option linter.unusedVariables false
set_option linter.unusedSimpArgs false
set_option linter.unusedSectionVars false
namespace Go.Proofs.Ytoljdfgkkkpnbaa.Pure
open Go.RowKit Go.Proofs.YtoljdfgkkkpnbaaW.PrintWords Go.Proofs.YtoljdfgkkkpnbaaW.PrintMore Go.Proofs.Ytoljdfgkkkpnbaa.MP Go.Proofs.Ytoljdfgkkkpnbaa.Med
def WfE2 (z : S65) : Prop := (Lit.int .u64 z.f0.f0).wf = true ∧ (Lit.int .u64 z.f0.f1).wf = true ∧ (Lit.int .u64 z.f1.f2.f0).wf = true ∧ (Lit.int .u64 z.f1.f2.f1).wf = true ∧ (Lit.int .u64 z.f1.f3.f0.f0).wf = true ∧ (Lit.int .u64 z.f1.f3.f0.f1).wf = true ∧ (Lit.int .u64 z.f1.f3.f1.f0).wf = true ∧ (Lit.int .u64 z.f1.f3.f1.f1).wf = true ∧ (Lit.int .i64 z.f1.f4).wf = true
theorem ub_of2 {z : S65} (h : WfE2 z) : Ub z := by
  obtain ⟨m, h1, h2⟩ := wf_u64 h.2.2.1
  obtain ⟨n, h3, h4⟩ := wf_u64 h.2.2.2.1
  exact ⟨⟨by omega, by omega⟩, by omega, by omega⟩
theorem octs_of2 (l : List Int) (h : ∀ x ∈ l, (Lit.int .u8 x).wf = true) : ∃ m : List Nat, l = ints m ∧ ∀ x ∈ m, x < 256 := by
  induction l with
  | nil => exact ⟨[], rfl, by simp⟩
  | cons x l ih =>
    obtain ⟨m, rfl, hm⟩ := ih fun y hy => h y (List.mem_cons_of_mem _ hy)
    have hx := h x List.mem_cons_self
    have h0 : IntKind.u8.min = 0 := by decide
    have h1 : IntKind.u8.max = 255 := by decide
    simp [Lit.wf, h0, h1] at hx
    obtain ⟨n, rfl⟩ := Int.eq_ofNat_of_zero_le hx.1
    refine ⟨n :: m, rfl, fun y hy => ?_⟩
    rcases List.mem_cons.1 hy with rfl | hy
    · omega
    · exact hm y hy
theorem live17s : medlarlaw17_live.f 200 = some true := by decide +kernel
theorem rsm_l (L : List S65) (hn : L.length ≤ 100000) : ∀ (q j k : Nat), j + q = L.length → q < k → medlarref14_Same.l0 k L L (L.length : Int) (j : Int) = some true := by
  intro q
  induction q with
  | zero =>
    intro j k hj hk
    obtain ⟨k, rfl⟩ : ∃ m, k = m + 1 := ⟨k - 1, by omega⟩
    simp only [medlarref14_Same.l0]
    rw [if_neg (by omega)]
  | succ q ih =>
    intro j k hj hk
    obtain ⟨k, rfl⟩ : ∃ m, k = m + 1 := ⟨k - 1, by omega⟩
    simp only [medlarref14_Same.l0]
    rw [if_pos (by omega), if_pos (by omega), if_pos (by omega), if_pos (by omega), if_neg (by simp), w64 (by omega) (by omega), show (j : Int) + 1 = ((j + 1 : Nat) : Int) by omega]
    exact ih (j + 1) k (by omega) (by omega)
theorem rsm_eq (L : List S65) (hn : L.length ≤ 100000) {k : Nat} (hk : L.length < k) : medlarref14_Same.f k L L = some true := by
  unfold medlarref14_Same.f
  rw [if_pos rfl]
  have := rsm_l L hn L.length 0 k (by omega) hk
  rw [show ((0 : Nat) : Int) = 0 from rfl] at this
  exact this
theorem sb_eq (l : List Int) : medlarref16_SameBytes.f l l = some true := by
  unfold medlarref16_SameBytes.f
  simp
theorem sl_l (b : List Int) (n : Nat) (hn : n ≤ 100000) : ∀ (q j k : Nat) (T : List S65), j + q = n → T.length = n → q < k → medlarlaw17_ImageStores.l0 k b true (strOfNums b) T true (n : Int) (j : Int) = some true := by
  intro q
  induction q with
  | zero =>
    intro j k T hj hT hk
    obtain ⟨k, rfl⟩ : ∃ m, k = m + 1 := ⟨k - 1, by omega⟩
    rw [medlarlaw17_ImageStores.l0, if_neg (by omega), if_pos rfl, if_pos rfl]
    simp
  | succ q ih =>
    intro j k T hj hT hk
    obtain ⟨k, rfl⟩ : ∃ m, k = m + 1 := ⟨k - 1, by omega⟩
    rw [medlarlaw17_ImageStores.l0, if_pos (by omega), if_pos (by omega), if_pos (by omega), w64 (by omega) (by omega), show (j : Int) + 1 = ((j + 1 : Nat) : Int) by omega]
    exact ih (j + 1) k _ (by omega) (by rw [List.length_set]; exact hT) (by omega)
theorem iS_both (h s : Int) {p : Nat} (hp : p < 18446744073709551616) (L : List S65) (hn : L.length ≤ 600) (hU : ∀ x ∈ L, Ub x) {k : Nat} (hk : 1700 ≤ k) :
    ∃ X e, image_Store.f k h s (p : Int) L = some (X, e) ∧ medlarref17_Store.f k h s (p : Int) L = some (X, e) := by
  rcases iStore_eq h s hp L (by omega) hU (k := k) (by omega) (by omega) with ⟨V, c1, c2, c3, c4, c5, e⟩ | ⟨c, e⟩
  · rcases rStore17_eq h s hp L (by omega) hU (k := k) (by omega) (by omega) with ⟨V', _, _, d3, d4, _, d⟩ | ⟨d, _⟩
    · have ve : V = V' := ens_inj c3 d3 (c4.symm.trans d4)
      subst ve
      exact ⟨_, _, e, d⟩
    · exact (d ⟨c1, c2, by rw [c4]; exact ens_okn _ _ c3⟩).elim
  · rcases rStore17_eq h s hp L (by omega) hU (k := k) (by omega) (by omega) with ⟨V', d1, d2, d3, d4, _, d⟩ | ⟨_, d⟩
    · exact (c ⟨d1, d2, by rw [d4]; exact ens_okn _ _ d3⟩).elim
    · exact ⟨_, _, e, d⟩
open Classical in
theorem iR_both {b : List Nat} (hb : ∀ c ∈ b, c < 256) (hB : b.length ≤ 70000) {k : Nat} (hk : 20000 ≤ k) :
    ∃ x y z T e, T.length ≤ 5000 ∧ image_Read.f k (ints b) = some (x, y, z, T, e) ∧ medlarref17_Read.f k (ints b) = some (x, y, z, T, e) := by
  have e1 := iRead_eq hb (by omega) (k := k) (by omega)
  have e2 := rRead17_eq hb (by omega) (k := k) (by omega)
  by_cases c1 : b.length > 65536
  · rw [if_pos c1] at e1 e2
    exact ⟨_, _, _, _, _, by simp, e1, e2⟩
  rw [if_neg c1] at e1 e2
  by_cases c2 : Rdb b
  · rw [if_pos c2] at e1 e2
    refine ⟨_, _, _, _, _, ?_, e1, e2⟩
    rw [ens_len (pcs_len _ _)]
    have := c2.2.2.2.2
    omega
  · rw [if_neg c2] at e1 e2
    exact ⟨_, _, _, _, _, by simp, e1, e2⟩
theorem ImageStores (h s i : Int) (L : List S65) (b : List Int)
    (wh : (Lit.int .i64 h).wf = true) (ws : (Lit.int .i64 s).wf = true) (wi : (Lit.int .u64 i).wf = true) (lL : L.length ≤ maxLen) (hL : ∀ z ∈ L, WfE2 z) (lb : b.length ≤ maxLen) (hb : ∀ x ∈ b, (Lit.int .u8 x).wf = true) :
    ∃ k, medlarlaw17_ImageStores.f k h s i L b = some true := by
  obtain ⟨p, rfl, hp⟩ := wf_u64 wi
  obtain ⟨b, rfl, hbb⟩ := octs_of2 b hb
  have hb := hbb
  have hU : ∀ z ∈ L, Ub z := fun z hz => ub_of2 (hL z hz)
  refine ⟨60000, ?_⟩
  have lv : medlarlaw17_live.f 60000 = some true := at_rounds (g := fun k => medlarlaw17_live.f k) medlarlaw17_live.mono (by omega) live17s
  obtain ⟨K, hK⟩ : ∃ K : Nat, K = 60000 := ⟨_, rfl⟩
  rw [← hK] at lv ⊢
  have J1 : ∀ (k : Nat) (T : List S65), 20000 ≤ k → T.length ≤ 5000 → medlarlaw17_ImageStores.j1 k (ints b) true (strOfNums (ints b)) T true = some true := by
    intro k T hk hT
    obtain ⟨k, rfl⟩ : ∃ n, k = n + 1 := ⟨k - 1, by omega⟩
    rw [medlarlaw17_ImageStores.j1]
    exact sl_l (ints b) T.length (by omega) T.length 0 k T (by omega) rfl (by omega)
  have J0 : ∀ x, (x = false → L.length ≤ 600 ∧ b.length ≤ 70000) → medlarlaw17_ImageStores.j0 K h s (p : Int) L (ints b) true x = some true := by
    intro x hx
    obtain ⟨k, rfl⟩ : ∃ n, K = n + 1 := ⟨K - 1, by omega⟩
    cases x
    · obtain ⟨n1, n2⟩ := hx rfl
      obtain ⟨X, e, e1, e2⟩ := iS_both h s hp L n1 hU (k := k) (by omega)
      obtain ⟨x, y, z, T, g, hT, f1, f2⟩ := iR_both hb n2 (k := k) (by omega)
      rw [medlarlaw17_ImageStores.j0, if_neg (by simp), e1]; simp only [bnd]
      rw [e2]; simp only [bnd]
      rw [f1]; simp only [bnd]
      rw [f2]; simp only [bnd]
      rw [sb_eq]; simp only [bnd]
      simp only [if_true]
      rw [rsm_eq T (by omega) (by omega)]; simp only [bnd]
      simp only [if_true]
      rw [show (g == g) = true by simp]
      exact J1 k T (by omega) hT
    · rw [medlarlaw17_ImageStores.j0, if_pos rfl]
  unfold medlarlaw17_ImageStores.f
  rw [lv]; simp only [bnd]
  rw [ints_len]
  by_cases c1 : (L.length : Int) > 600
  · rw [if_pos c1]; exact J0 true (by simp)
  rw [if_neg c1]
  by_cases c2 : (b.length : Int) > 9000
  · rw [if_pos c2]
    by_cases c3 : (b.length : Int) ≤ 65536
    · rw [if_pos c3]; exact J0 true (by simp)
    rw [if_neg c3]
    refine J0 _ fun q => ?_
    rw [decide_eq_false_iff_not] at q
    omega
  rw [if_neg c2]
  refine J0 _ fun q => ?_
  rw [decide_eq_false_iff_not] at q
  omega
end Go.Proofs.Ytoljdfgkkkpnbaa.Pure
