/- HeadDoes, plainly. -/
import Derived.Test.YtoljdfgkkkpnbaaZHeadDoes
import Derived.Test.YtoljdfgkkkpnbaaMPx10
import Derived.Test.YtoljdfgkkkpnbaaMPx3
import Derived.Test.YtoljdfgkkkpnbaaMPx4
import Derived.Test.YtoljdfgkkkpnbaaMPx5
import Derived.Test.YtoljdfgkkkpnbaaMPx6
import Derived.Test.YtoljdfgkkkpnbaaMPx7
import Derived.Test.YtoljdfgkkkpnbaaMPx8
set_option linter.unusedVariables false
set_option linter.unusedSimpArgs false
set_option linter.unusedSectionVars false
namespace Go.Proofs.Ytoljdfgkkkpnbaa.Pure
open Go.RowKit Go.Proofs.YtoljdfgkkkpnbaaW.PrintWords Go.Proofs.YtoljdfgkkkpnbaaW.PrintMore Go.Proofs.Ytoljdfgkkkpnbaa.MP Go.Proofs.Ytoljdfgkkkpnbaa.Med
theorem u_of2 {x : Int} (h : (Lit.int .u64 x).wf = true) : U x := by obtain ⟨n, rfl, hn⟩ := wf_u64 h; exact ⟨by omega, by omega⟩
def WfP2 (z : S41) : Prop := (Lit.int .u64 z.f0.f0).wf = true ∧ (Lit.int .u64 z.f0.f1).wf = true ∧ (Lit.int .u64 z.f1.f2.f0).wf = true ∧ (Lit.int .u64 z.f1.f2.f1).wf = true ∧ (Lit.int .u64 z.f1.f3.f0.f0).wf = true ∧ (Lit.int .u64 z.f1.f3.f0.f1).wf = true ∧ (Lit.int .u64 z.f1.f3.f1.f0).wf = true ∧ (Lit.int .u64 z.f1.f3.f1.f1).wf = true ∧ (Lit.int .i64 z.f1.f4).wf = true
theorem upt_of2 {z : S41} (h : WfP2 z) : Upt z := by
  obtain ⟨h1, h2, _, _, h5, h6, h7, h8, _⟩ := h
  exact ⟨u_of2 h1, u_of2 h2, u_of2 h5, u_of2 h6, u_of2 h7, u_of2 h8⟩
theorem hdl_l (b : List Int) (n : Nat) (hn : n ≤ 100000) (x0 x1 x2 : Int) (x4 x5 : Bool) (x6 x7 x8 x9 x10 x11 x12 : Int) : ∀ (q j k : Nat) (T : List S41), j + q = n → T.length = n → q < k →
    medlarlaw16_HeadDoes.l0 k b true (strOfNums b) true (n : Int) (j : Int) x0 x1 x2 T x4 x5 x6 x7 x8 x9 x10 x11 x12 = some true := by
  intro q
  induction q with
  | zero =>
    intro j k T hj hT hk
    obtain ⟨k, rfl⟩ : ∃ m, k = m + 1 := ⟨k - 1, by omega⟩
    rw [medlarlaw16_HeadDoes.l0, if_neg (by omega), if_pos rfl, if_pos rfl]
    simp
  | succ q ih =>
    intro j k T hj hT hk
    obtain ⟨k, rfl⟩ : ∃ m, k = m + 1 := ⟨k - 1, by omega⟩
    rw [medlarlaw16_HeadDoes.l0, if_pos (by omega), if_pos (by omega), if_pos (by omega), w64 (by omega) (by omega), show (j : Int) + 1 = ((j + 1 : Nat) : Int) by omega]
    exact ih (j + 1) k _ (by omega) (by rw [List.length_set]; exact hT) (by omega)
theorem hB_both (s h e : Int) (L : List S41) (v : S29) (hL : ∀ p ∈ L, Upt p) (hv : Us v.f3) (hn : L.length ≤ 200) {k : Nat} (hk : 400 ≤ k) :
    ∃ X y, head_Bytes.f k s h e L v.f0 v.f1 v.f2.f0 v.f2.f1 v.f3.f0.f0 v.f3.f0.f1 v.f3.f1.f0 v.f3.f1.f1 v.f4 = some (X, y) ∧ medlarref16_Bytes.f k s h e L v.f0 v.f1 v.f2.f0 v.f2.f1 v.f3.f0.f0 v.f3.f0.f1 v.f3.f1.f0 v.f3.f1.f1 v.f4 = some (X, y) := by
  have e1 := Bytes_eq s h e L v hL hv (by omega) (k := k) (by omega)
  have e2 := qBytes_eq s h e L v hL hv (by omega) (k := k) (by omega)
  exact ⟨_, _, e1, e2⟩
theorem hC_both (s h e : Int) (L : List S41) (v : S29) (hL : ∀ p ∈ L, Upt p) (hn : L.length ≤ 200) {k : Nat} (hk : 400 ≤ k) :
    ∃ y, head_Check.f k s h e L v.f0 v.f1 v.f2.f0 v.f2.f1 v.f3.f0.f0 v.f3.f0.f1 v.f3.f1.f0 v.f3.f1.f1 v.f4 = some y ∧ medlarref16_Check.f k s h e L v.f0 v.f1 v.f2.f0 v.f2.f1 v.f3.f0.f0 v.f3.f0.f1 v.f3.f1.f0 v.f3.f1.f1 v.f4 = some y :=
  ⟨_, Check_eq s h e L v hL (by omega) (k := k) (by omega), qCheck_eq s h e L v hL (by omega) (k := k) (by omega)⟩
theorem hF_both (b : List Nat) (hb : ∀ x ∈ b, x < 256) (hn : b.length ≤ 9000 ∨ 2097152 < b.length) {k : Nat} (hk : 1000 ≤ k) :
    ∃ (s h e : Int) (L : List S41) (v : S29) (y : Int), L.length ≤ 5000 ∧ head_From.f k (ints b) = some (s, h, e, L, v.f0, v.f1, v.f2.f0, v.f2.f1, v.f3.f0.f0, v.f3.f0.f1, v.f3.f1.f0, v.f3.f1.f1, v.f4, y) ∧ medlarref16_From.f k (ints b) = some (s, h, e, L, v.f0, v.f1, v.f2.f0, v.f2.f1, v.f3.f0.f0, v.f3.f0.f1, v.f3.f1.f0, v.f3.f1.f1, v.f4, y) := by
  have no : ∀ c : Int, head_From.f k (ints b) = some (resNo c) → medlarref16_From.f k (ints b) = some (resNo c) → ∃ (s h e : Int) (L : List S41) (v : S29) (y : Int), L.length ≤ 5000 ∧ head_From.f k (ints b) = some (s, h, e, L, v.f0, v.f1, v.f2.f0, v.f2.f1, v.f3.f0.f0, v.f3.f0.f1, v.f3.f1.f0, v.f3.f1.f1, v.f4, y) ∧ medlarref16_From.f k (ints b) = some (s, h, e, L, v.f0, v.f1, v.f2.f0, v.f2.f1, v.f3.f0.f0, v.f3.f0.f1, v.f3.f1.f0, v.f3.f1.f1, v.f4, y) :=
    fun c e1 e2 => ⟨0, 0, 0, [], ⟨false, false, ⟨0, 0⟩, ⟨⟨0, 0⟩, ⟨0, 0⟩⟩, 0⟩, c, by simp, e1, e2⟩
  by_cases c0 : b.length > 2097152
  · exact no 3 (From_long b c0 k) (qFrom_long b c0 k)
  by_cases d : b.length < 47 ∨ (b.length - 47) % 48 ≠ 0
  · exact no 2 (From_no b d (by omega) k) (qFrom_no b d (by omega) (by omega))
  have hm : b.length = 47 + 48 * ((b.length - 47) / 48) := by omega
  generalize (b.length - 47) / 48 = m at hm
  have e1 := From_eq b hb m hm (by omega) (k := k) (by omega)
  have e2 := qFrom_eq b hb m hm (by omega) (k := k) (by omega)
  by_cases r : Rd m b
  · rw [if_pos r] at e1 e2
    exact ⟨_, _, _, _, _, _, by rw [hprs_len]; omega, e1, e2⟩
  · rw [if_neg r] at e1 e2
    exact no 2 e1 e2
theorem HeadDoes (s h e : Int) (L : List S41) (v0 v1 : Bool) (v2 v3 v4 v5 v6 v7 v8 : Int) (s' h' e' : Int) (L' : List S41) (v0' v1' : Bool) (v2' v3' v4' v5' v6' v7' v8' : Int) (b : List Int) (a : Int)
    (ws : (Lit.int .i64 s).wf = true) (wh : (Lit.int .i64 h).wf = true) (we : (Lit.int .i64 e).wf = true) (lL : L.length ≤ maxLen) (hL : ∀ p ∈ L, WfP2 p)
    (w2 : (Lit.int .u64 v2).wf = true) (w3 : (Lit.int .u64 v3).wf = true) (w4 : (Lit.int .u64 v4).wf = true) (w5 : (Lit.int .u64 v5).wf = true) (w6 : (Lit.int .u64 v6).wf = true) (w7 : (Lit.int .u64 v7).wf = true) (w8 : (Lit.int .i64 v8).wf = true)
    (ws' : (Lit.int .i64 s').wf = true) (wh' : (Lit.int .i64 h').wf = true) (we' : (Lit.int .i64 e').wf = true) (lL' : L'.length ≤ maxLen) (hL' : ∀ p ∈ L', WfP2 p)
    (w2' : (Lit.int .u64 v2').wf = true) (w3' : (Lit.int .u64 v3').wf = true) (w4' : (Lit.int .u64 v4').wf = true) (w5' : (Lit.int .u64 v5').wf = true) (w6' : (Lit.int .u64 v6').wf = true) (w7' : (Lit.int .u64 v7').wf = true) (w8' : (Lit.int .i64 v8').wf = true)
    (lb : b.length ≤ maxLen) (wb : ∀ x ∈ b, (Lit.int .u8 x).wf = true) (wa : (Lit.int .i64 a).wf = true) : ∃ k, medlarlaw16_HeadDoes.f k s h e L v0 v1 v2 v3 v4 v5 v6 v7 v8 s' h' e' L' v0' v1' v2' v3' v4' v5' v6' v7' v8' b a = some true := by
  obtain ⟨c, rfl, hc⟩ := ints_of8 b wb
  have hU : ∀ p ∈ L, Upt p := fun p hp => upt_of2 (hL p hp)
  obtain ⟨v, hv⟩ : ∃ v : S29, v = ⟨v0, v1, ⟨v2, v3⟩, ⟨⟨v4, v5⟩, ⟨v6, v7⟩⟩, v8⟩ := ⟨_, rfl⟩
  have hvs : Us v.f3 := by rw [hv]; exact ⟨u_of2 w4, u_of2 w5, u_of2 w6, u_of2 w7⟩
  obtain ⟨rfl, rfl, rfl, rfl, rfl, rfl, rfl, rfl, rfl⟩ : v0 = v.f0 ∧ v1 = v.f1 ∧ v2 = v.f2.f0 ∧ v3 = v.f2.f1 ∧ v4 = v.f3.f0.f0 ∧ v5 = v.f3.f0.f1 ∧ v6 = v.f3.f1.f0 ∧ v7 = v.f3.f1.f1 ∧ v8 = v.f4 := by rw [hv]; exact ⟨rfl, rfl, rfl, rfl, rfl, rfl, rfl, rfl, rfl⟩
  obtain ⟨v', hv'⟩ : ∃ v' : S29, v' = ⟨v0', v1', ⟨v2', v3'⟩, ⟨⟨v4', v5'⟩, ⟨v6', v7'⟩⟩, v8'⟩ := ⟨_, rfl⟩
  obtain ⟨rfl, rfl, rfl, rfl, rfl, rfl, rfl, rfl, rfl⟩ : v0' = v'.f0 ∧ v1' = v'.f1 ∧ v2' = v'.f2.f0 ∧ v3' = v'.f2.f1 ∧ v4' = v'.f3.f0.f0 ∧ v5' = v'.f3.f0.f1 ∧ v6' = v'.f3.f1.f0 ∧ v7' = v'.f3.f1.f1 ∧ v8' = v'.f4 := by rw [hv']; exact ⟨rfl, rfl, rfl, rfl, rfl, rfl, rfl, rfl, rfl⟩
  clear hv w2 w3 w4 w5 w6 w7 w8 hv' w2' w3' w4' w5' w6' w7' w8'
  refine ⟨60000, ?_⟩
  have lv : medlarlaw16_live.f 60000 = some true := live16 (by decide)
  obtain ⟨K, hK⟩ : ∃ K : Nat, K = 60000 := ⟨_, rfl⟩
  rw [← hK] at lv ⊢
  have J0 : ∀ x, (x = false → L.length ≤ 200 ∧ L'.length ≤ 200 ∧ (c.length ≤ 9000 ∨ 2097152 < c.length)) → medlarlaw16_HeadDoes.j0 K (ints c) a true x s h e L v.f0 v.f1 v.f2.f0 v.f2.f1 v.f3.f0.f0 v.f3.f0.f1 v.f3.f1.f0 v.f3.f1.f1 v.f4 s' h' e' L' v'.f0 v'.f1 v'.f2.f0 v'.f2.f1 v'.f3.f0.f0 v'.f3.f0.f1 v'.f3.f1.f0 v'.f3.f1.f1 v'.f4 = some true := by
    intro x hx
    obtain ⟨k, rfl⟩ : ∃ n, K = n + 1 := ⟨K - 1, by omega⟩
    cases x
    · obtain ⟨n1, n2, n3⟩ := hx rfl
      obtain ⟨X, y, e1, e2⟩ := hB_both s h e L v hU hvs n1 (k := k) (by omega)
      obtain ⟨s1, h1, e0, T, u, g, hT, f1, f2⟩ := hF_both c hc n3 (k := k) (by omega)
      obtain ⟨p1, p2, g1, g2⟩ := qLen_both a
      obtain ⟨z, c1, c2⟩ := hC_both s h e L v hU n1 (k := k) (by omega)
      rw [medlarlaw16_HeadDoes.j0, if_neg (by simp), e1]; simp only [bnd]
      rw [e2]; simp only [bnd]
      rw [f1]; simp only [bnd]
      rw [f2]; simp only [bnd]
      rw [g1]; simp only [bnd]
      rw [g2]; simp only [bnd]
      rw [show medlarref16_SameBytes.f X X = some true by unfold medlarref16_SameBytes.f; simp]; simp only [bnd]
      simp only [if_true]
      rw [qSame_eq s1 h1 e0 s1 h1 e0 T T u u (by omega) (by omega)]; simp only [bnd]
      simp only [and_self, decide_true, if_true]
      rw [c1]; simp only [bnd]
      rw [c2]; simp only [bnd]
      simp only [if_true]
      rw [Same_eq s h e s' h' e' L L' v v' (by omega) (by omega)]; simp only [bnd]
      rw [qSame_eq s h e s' h' e' L L' v v' (by omega) (by omega)]; simp only [bnd]
      rw [beq_self_eq_true]
      obtain ⟨k, rfl⟩ : ∃ n, k = n + 1 := ⟨k - 1, by omega⟩
      rw [medlarlaw16_HeadDoes.j1]
      exact hdl_l (ints c) T.length (by omega) s1 h1 e0 u.f0 u.f1 u.f2.f0 u.f2.f1 u.f3.f0.f0 u.f3.f0.f1 u.f3.f1.f0 u.f3.f1.f1 u.f4 T.length 0 k T (by omega) rfl (by omega)
    · rw [medlarlaw16_HeadDoes.j0, if_pos rfl]
  unfold medlarlaw16_HeadDoes.f
  rw [lv]; simp only [bnd]
  rw [ints_len]
  by_cases c1 : (L.length : Int) > 200
  · rw [if_pos c1]; exact J0 true (by simp)
  rw [if_neg c1]
  by_cases c2 : (L'.length : Int) > 200
  · rw [if_pos c2]; exact J0 true (by simp)
  rw [if_neg c2]
  by_cases c3 : (c.length : Int) > 9000
  · rw [if_pos c3]
    by_cases c4 : (c.length : Int) ≤ 2097152
    · rw [if_pos c4]; exact J0 true (by simp)
    rw [if_neg c4]
    refine J0 _ fun q => ?_
    exact ⟨by omega, by omega, by omega⟩
  rw [if_neg c3]
  refine J0 _ fun q => ?_
  exact ⟨by omega, by omega, by omega⟩
end Go.Proofs.Ytoljdfgkkkpnbaa.Pure
