/- ImageBack, plainly. -/
import Derived.Test.YtoljdfgkkkpnbaaZImageBack
import Derived.Test.YtoljdfgkkkpnbaaMPx12
import Derived.Test.YtoljdfgkkkpnbaaMPx13
import Derived.Test.YtoljdfgkkkpnbaaMPx3
set_option linter.unusedVariables false
set_option linter.unusedSimpArgs false
set_option linter.unusedSectionVars false
namespace Go.Proofs.Ytoljdfgkkkpnbaa.Pure
open Go.RowKit Go.Proofs.YtoljdfgkkkpnbaaW.PrintWords Go.Proofs.YtoljdfgkkkpnbaaW.PrintMore Go.Proofs.Ytoljdfgkkkpnbaa.MP Go.Proofs.Ytoljdfgkkkpnbaa.Med
def WfE' (z : S65) : Prop := (Lit.int .u64 z.f0.f0).wf = true ∧ (Lit.int .u64 z.f0.f1).wf = true ∧ (Lit.int .u64 z.f1.f2.f0).wf = true ∧ (Lit.int .u64 z.f1.f2.f1).wf = true ∧ (Lit.int .u64 z.f1.f3.f0.f0).wf = true ∧ (Lit.int .u64 z.f1.f3.f0.f1).wf = true ∧ (Lit.int .u64 z.f1.f3.f1.f0).wf = true ∧ (Lit.int .u64 z.f1.f3.f1.f1).wf = true ∧ (Lit.int .i64 z.f1.f4).wf = true
theorem ub_of' {z : S65} (h : WfE' z) : Ub z := by
  obtain ⟨m, h1, h2⟩ := wf_u64 h.2.2.1
  obtain ⟨n, h3, h4⟩ := wf_u64 h.2.2.2.1
  exact ⟨⟨by omega, by omega⟩, by omega, by omega⟩
theorem octs_of' (l : List Int) (h : ∀ x ∈ l, (Lit.int .u8 x).wf = true) : ∃ m : List Nat, l = ints m ∧ ∀ x ∈ m, x < 256 := by
  induction l with
  | nil => exact ⟨[], rfl, by simp⟩
  | cons x l ih =>
    obtain ⟨m, rfl, hm⟩ := ih fun y hy => h y (List.mem_cons_of_mem _ hy)
    have hx := h x List.mem_cons_self
    have h0 : IntKind.u8.min = 0 := by decide
    have h1 : IntKind.u8.max = 255 := by decide
    simp [Lit.wf, h0, h1] at hx
    obtain ⟨n, rfl⟩ := Int.eq_ofNat_of_zero_le hx.1
    refine ⟨n :: m, rfl, fun y hy => ?_⟩
    rcases List.mem_cons.1 hy with rfl | hy
    · omega
    · exact hm y hy
theorem live17b : medlarlaw17_live.f 200 = some true := by decide +kernel
theorem sm_l (L : List S65) (hn : L.length ≤ 100000) : ∀ (q j k : Nat), j + q = L.length → q < k → api_Entry_82.l0 k L L (L.length : Int) (j : Int) = some true := by
  intro q
  induction q with
  | zero =>
    intro j k hj hk
    obtain ⟨k, rfl⟩ : ∃ m, k = m + 1 := ⟨k - 1, by omega⟩
    simp only [api_Entry_82.l0]
    rw [if_neg (by omega)]
  | succ q ih =>
    intro j k hj hk
    obtain ⟨k, rfl⟩ : ∃ m, k = m + 1 := ⟨k - 1, by omega⟩
    simp only [api_Entry_82.l0]
    rw [if_pos (by omega), if_pos (by omega), if_pos (by omega), if_pos (by omega), if_neg (by simp), w64 (by omega) (by omega), show (j : Int) + 1 = ((j + 1 : Nat) : Int) by omega]
    exact ih (j + 1) k (by omega) (by omega)
theorem sm_eq (L : List S65) (hn : L.length ≤ 100000) {k : Nat} (hk : L.length < k) : store_Same.f k L L = some true := by
  unfold store_Same.f api_Entry_82.f
  rw [if_pos rfl]
  have := sm_l L hn L.length 0 k (by omega) hk
  rw [show ((0 : Nat) : Int) = 0 from rfl] at this
  rw [this]; rfl
theorem ImageBack (h s i : Int) (L : List S65) (l b : List Int)
    (wh : (Lit.int .i64 h).wf = true) (ws : (Lit.int .i64 s).wf = true) (wi : (Lit.int .u64 i).wf = true) (lL : L.length ≤ maxLen) (hL : ∀ z ∈ L, WfE' z) (ll : l.length ≤ maxLen) (hl : ∀ x ∈ l, (Lit.int .u64 x).wf = true) (lb : b.length ≤ maxLen) (hb : ∀ x ∈ b, (Lit.int .u8 x).wf = true) :
    ∃ k, medlarlaw17_ImageBack.f k h s i L l b = some true := by
  obtain ⟨p, rfl, hp⟩ := wf_u64 wi
  obtain ⟨l, rfl, hlb⟩ := ints_of l hl
  obtain ⟨b, rfl, hbb⟩ := octs_of' b hb
  have hb := hbb
  have hU : ∀ z ∈ L, Ub z := fun z hz => ub_of' (hL z hz)
  refine ⟨60000, ?_⟩
  have lv : medlarlaw17_live.f 60000 = some true := at_rounds (g := fun k => medlarlaw17_live.f k) medlarlaw17_live.mono (by omega) live17b
  obtain ⟨K, hK⟩ : ∃ K : Nat, K = 60000 := ⟨_, rfl⟩
  rw [← hK] at lv ⊢
  have J3 : ∀ (k : Nat) (e : Int), 50000 ≤ k → (e = 0 → Rdb b) → medlarlaw17_ImageBack.j3 k (ints b) true e = some true := by
    intro k e hk he
    obtain ⟨k, rfl⟩ : ∃ n, k = n + 1 := ⟨k - 1, by omega⟩
    obtain ⟨a, M, f, e1, e2⟩ := Leaves_all hb (k := k) (by omega)
    rw [medlarlaw17_ImageBack.j3, e1]; simp only [bnd]
    rcases e2 with ⟨rfl, _, h2, rfl, q1, q2⟩ | ⟨rfl, _⟩ | ⟨rfl, _⟩
    · have cl := q1
      rw [lst_iff] at cl
      have ch := cl.1
      rw [hi_iff] at ch
      have p32 : 2 ^ (h2 : Int).toNat ≤ 2 ^ 32 := Nat.pow_le_pow_right (by decide) (by omega)
      rw [if_pos rfl, Set_eq (h2 : Int) (l := M) (fun x hx => by have := cl.2.2.1 x hx; omega) (by omega) (by omega), if_pos q1]; simp only [bnd]
      rw [if_pos trivial, Int.toNat_natCast, q2, if_pos rfl, if_neg]
      intro e0
      have r := he e0
      have r2 := r.2.2.1
      rw [← q2] at r2
      unfold fS txt Sch at r2
      simp at r2
    · rw [if_neg (by decide)]
    · rw [if_neg (by decide)]
  have J2 : ∀ (k : Nat), 51000 ≤ k → b.length ≤ 9000 → medlarlaw17_ImageBack.j2 k (ints b) true = some true := by
    intro k hk b9
    obtain ⟨k, rfl⟩ : ∃ n, k = n + 1 := ⟨k - 1, by omega⟩
    rw [medlarlaw17_ImageBack.j2, iRead_eq hb (by omega) (by omega), if_neg (by omega)]
    by_cases r : Rdb b
    · rw [if_pos r]; simp only [bnd]
      rw [if_pos trivial]
      have ch := r.2.2.2.1.1
      rw [hi_iff] at ch
      have cs := r.2.2.1
      have hI := fI_lt hb r.1
      have pl := prs_len (show fH b ≤ 32 by omega) (fS b : Int) (2 ^ fH b + fI b)
      have pl' : (fP b).length ≤ 1025 := pl
      have vU := pcs_U (fP b).length (b.drop 11) (fun c hc => hb c (List.mem_of_mem_drop hc))
      have el : (ens (fP b) (pcs (fP b).length (b.drop 11))).length = (fP b).length := ens_len (pcs_len _ _)
      have eok := ens_okn (fP b) (pcs (fP b).length (b.drop 11)) (pcs_len _ _)
      have eU : ∀ x ∈ ens (fP b) (pcs (fP b).length (b.drop 11)), Ub x := by
        intro x hx
        unfold ens at hx
        obtain ⟨j, hj, rfl⟩ := List.getElem_of_mem hx
        rw [List.getElem_zipWith]
        have u := vU _ (List.getElem_mem (show j < (pcs (fP b).length (b.drop 11)).length by rw [List.length_zipWith] at hj; omega))
        unfold U2 at u
        unfold Ub en vl
        dsimp only
        omega
      rcases iStore_eq (fH b : Int) (fS b : Int) hI _ (by rw [el]; omega) eU (k := k) (by omega) (by rw [el]; omega) with ⟨V, c1, c2, c3, c4, c5, e⟩ | ⟨c, _⟩
      · rw [e]; simp only [bnd]
        have ve : V = pcs (fP b).length (b.drop 11) := by
          rw [Int.toNat_natCast] at c3 c4
          have q1 := ens_inj (P := fP b) (by rw [pcs_len]) c3 c4
          exact q1.symm
        rw [if_pos trivial, Int.toNat_natCast, Int.toNat_natCast, ve, stx_read hb r, if_pos rfl]
        exact J3 k 0 (by omega) (fun _ => r)
      · exact (c ⟨r.2.2.1, r.2.2.2.1, by rw [Int.toNat_natCast]; exact eok⟩).elim
    · rw [if_neg r]; simp only [bnd]
      rw [if_neg (by decide)]
      exact J3 k 2 (by omega) (fun q => absurd q (by decide))
  have J1 : ∀ (k : Nat), 52000 ≤ k → l.length ≤ 60 → b.length ≤ 9000 → medlarlaw17_ImageBack.j1 k h (ints l) (ints b) true = some true := by
    intro k hk l60 b9
    obtain ⟨k, rfl⟩ : ∃ n, k = n + 1 := ⟨k - 1, by omega⟩
    rw [medlarlaw17_ImageBack.j1, Set_eq h hlb (by omega) (by omega)]; simp only [bnd]
    by_cases c : Lst h l
    · have cl := c
      rw [lst_iff] at cl
      have ch := cl.1
      rw [hi_iff] at ch
      obtain ⟨H, rfl⟩ := Int.eq_ofNat_of_zero_le (show 0 ≤ h by omega)
      rw [if_pos c, Int.toNat_natCast]; dsimp only
      rw [if_pos rfl]
      obtain ⟨a, M, f, e1, e2⟩ := Leaves_txt c (k := k) (by omega)
      rw [e1]; simp only [bnd]
      obtain ⟨rfl, rfl, rfl⟩ := e2
      rw [if_pos rfl, if_pos rfl, Same2_eq _ _ (by omega) (by omega) (by omega)]; simp only [bnd]
      rw [if_pos (by simp), if_pos (by rw [ints_len, ints_len, txt_len, w64 (x := 8 * (M.length : Int)) (by omega) (by omega), w64 (by omega) (by omega)]; omega)]
      exact J2 k (by omega) b9
    · rw [if_neg c]; dsimp only
      rw [if_neg (by decide)]
      exact J2 k (by omega) b9
  have J0 : ∀ x, (x = false → L.length ≤ 600 ∧ l.length ≤ 60 ∧ b.length ≤ 9000) → medlarlaw17_ImageBack.j0 K h s (p : Int) L (ints l) (ints b) true x = some true := by
    intro x hx
    obtain ⟨k, rfl⟩ : ∃ n, K = n + 1 := ⟨K - 1, by omega⟩
    cases x
    · obtain ⟨n1, n2, n3⟩ := hx rfl
      have j1 := J1 k (by omega) n2 n3
      rw [medlarlaw17_ImageBack.j0, if_neg (by simp)]
      rcases iStore_eq h s hp L (by omega) hU (k := k) (by omega) (by omega) with ⟨V, c1, c2, c3, c4, c5, e⟩ | ⟨_, e⟩
      · have ch := c2.1
        rw [hi_iff] at ch
        have cs := c1
        unfold Sch at cs
        obtain ⟨H, rfl⟩ := Int.eq_ofNat_of_zero_le (show 0 ≤ h by omega)
        obtain ⟨S, rfl⟩ := Int.eq_ofNat_of_zero_le (show 0 ≤ s by omega)
        rw [Int.toNat_natCast] at c3 c4 e
        rw [Int.toNat_natCast] at e
        have pl := prs_len (show H ≤ 32 by omega) (S : Int) (2 ^ H + p)
        have sb := stx_lt (H := H) (S := S) (p := p) (by omega) (by omega) V
        have f := stx_f (H := H) (S := S) (V := V) hp []
        rw [List.append_nil, List.append_nil] at f
        have ll : L.length = V.length := by rw [c4, ens_len c3, c3]
        rw [e]; simp only [bnd]
        rw [if_pos trivial, iRead_eq sb (by rw [stx_len]; omega) (by omega), if_neg (by rw [stx_len]; omega), if_pos (stx_Rdb hp c1 c2 c3)]; simp only [bnd]
        have pv := pcs_bdy V [] c5
        rw [List.append_nil] at pv
        rw [if_pos trivial, stx_fP hp, f.2.1, f.2.2.1, f.2.2.2.1, f.2.2.2.2, ← c3, pv, ← c4, if_pos rfl, if_pos rfl, if_pos rfl, sm_eq L (by omega) (by omega)]; simp only [bnd]
        rw [if_pos trivial, if_pos (by rw [ints_len, stx_len, w64 (x := 16 * (L.length : Int)) (by omega) (by omega), w64 (by omega) (by omega)]; omega)]
        exact j1
      · rw [e]; simp only [bnd]
        rw [if_neg (by decide)]
        exact j1
    · rw [medlarlaw17_ImageBack.j0, if_pos rfl]
  unfold medlarlaw17_ImageBack.f
  rw [lv]; simp only [bnd]
  rw [ints_len, ints_len]
  by_cases c1 : (L.length : Int) > 600
  · rw [if_pos c1]; exact J0 true (by simp)
  rw [if_neg c1]
  by_cases c2 : (l.length : Int) > 60
  · rw [if_pos c2]; exact J0 true (by simp)
  rw [if_neg c2]
  refine J0 _ fun q => ?_
  rw [decide_eq_false_iff_not] at q
  omega
end Go.Proofs.Ytoljdfgkkkpnbaa.Pure
