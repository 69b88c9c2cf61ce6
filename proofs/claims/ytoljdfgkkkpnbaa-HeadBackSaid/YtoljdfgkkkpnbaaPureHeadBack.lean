/- HeadBack, plainly. -/
import Derived.Test.YtoljdfgkkkpnbaaZHeadBack
import Derived.Test.YtoljdfgkkkpnbaaMPx9
set_option linter.unusedVariables false
set_option linter.unusedSimpArgs false
set_option linter.unusedSectionVars false
namespace Go.Proofs.Ytoljdfgkkkpnbaa.Pure
open Go.RowKit Go.Proofs.YtoljdfgkkkpnbaaW.PrintWords Go.Proofs.YtoljdfgkkkpnbaaW.PrintMore Go.Proofs.Ytoljdfgkkkpnbaa.MP Go.Proofs.Ytoljdfgkkkpnbaa.Med
theorem u_of {x : Int} (h : (Lit.int .u64 x).wf = true) : U x := by obtain ⟨n, rfl, hn⟩ := wf_u64 h; exact ⟨by omega, by omega⟩
def WfP (z : S41) : Prop := (Lit.int .u64 z.f0.f0).wf = true ∧ (Lit.int .u64 z.f0.f1).wf = true ∧ (Lit.int .u64 z.f1.f2.f0).wf = true ∧ (Lit.int .u64 z.f1.f2.f1).wf = true ∧ (Lit.int .u64 z.f1.f3.f0.f0).wf = true ∧ (Lit.int .u64 z.f1.f3.f0.f1).wf = true ∧ (Lit.int .u64 z.f1.f3.f1.f0).wf = true ∧ (Lit.int .u64 z.f1.f3.f1.f1).wf = true ∧ (Lit.int .i64 z.f1.f4).wf = true
theorem upt_of {z : S41} (h : WfP z) : Upt z := by
  obtain ⟨h1, h2, _, _, h5, h6, h7, h8, _⟩ := h
  exact ⟨u_of h1, u_of h2, u_of h5, u_of h6, u_of h7, u_of h8⟩
open Classical in
theorem HeadBack (s h e : Int) (L : List S41) (v0 v1 : Bool) (v2 v3 v4 v5 v6 v7 v8 : Int) (b : List Int) (ws : (Lit.int .i64 s).wf = true) (wh : (Lit.int .i64 h).wf = true) (we : (Lit.int .i64 e).wf = true) (lL : L.length ≤ maxLen) (hL : ∀ p ∈ L, WfP p)
    (w2 : (Lit.int .u64 v2).wf = true) (w3 : (Lit.int .u64 v3).wf = true) (w4 : (Lit.int .u64 v4).wf = true) (w5 : (Lit.int .u64 v5).wf = true) (w6 : (Lit.int .u64 v6).wf = true) (w7 : (Lit.int .u64 v7).wf = true) (w8 : (Lit.int .i64 v8).wf = true)
    (lb : b.length ≤ maxLen) (wb : ∀ x ∈ b, (Lit.int .u8 x).wf = true) : ∃ k, medlarlaw16_HeadBack.f k s h e L v0 v1 v2 v3 v4 v5 v6 v7 v8 b = some true := by
  obtain ⟨b, rfl, hb⟩ := ints_of8 b wb
  have hU : ∀ p ∈ L, Upt p := fun p hp => upt_of (hL p hp)
  obtain ⟨v, hv⟩ : ∃ v : S29, v = ⟨v0, v1, ⟨v2, v3⟩, ⟨⟨v4, v5⟩, ⟨v6, v7⟩⟩, v8⟩ := ⟨_, rfl⟩
  have hvs : Us v.f3 := by rw [hv]; exact ⟨u_of w4, u_of w5, u_of w6, u_of w7⟩
  obtain ⟨rfl, rfl, rfl, rfl, rfl, rfl, rfl, rfl, rfl⟩ : v0 = v.f0 ∧ v1 = v.f1 ∧ v2 = v.f2.f0 ∧ v3 = v.f2.f1 ∧ v4 = v.f3.f0.f0 ∧ v5 = v.f3.f0.f1 ∧ v6 = v.f3.f1.f0 ∧ v7 = v.f3.f1.f1 ∧ v8 = v.f4 := by rw [hv]; exact ⟨rfl, rfl, rfl, rfl, rfl, rfl, rfl, rfl, rfl⟩
  clear hv w2 w3 w4 w5 w6 w7 w8
  refine ⟨1000, ?_⟩
  unfold medlarlaw16_HeadBack.f
  rw [live16 (by decide), bnd]
  have big : medlarlaw16_HeadBack.j0 1000 (ints b) true true s h e L v.f0 v.f1 v.f2.f0 v.f2.f1 v.f3.f0.f0 v.f3.f0.f1 v.f3.f1.f0 v.f3.f1.f1 v.f4 = some true := by rw [medlarlaw16_HeadBack.j0, if_pos rfl]
  by_cases c1 : (L.length : Int) > 200
  · rw [if_pos c1, big]
  rw [if_neg c1]
  by_cases c2 : ((ints b).length : Int) > 9000
  · rw [decide_eq_true c2, big]
  rw [decide_eq_false c2]
  rw [ints_len] at c2
  have tail : medlarlaw16_HeadBack.j1 999 true s h e L v.f0 v.f1 v.f2.f0 v.f2.f1 v.f3.f0.f0 v.f3.f0.f1 v.f3.f1.f0 v.f3.f1.f1 v.f4 = some true := by
    rw [medlarlaw16_HeadBack.j1, Bytes_eq s h e L v hU hvs (by omega) (by omega), bnd]
    by_cases c : Ck s h e L v
    · rw [if_pos c]
      dsimp only
      rw [if_pos rfl, From_text c hU hvs (by omega), bnd, Len_eq _ (by omega), bnd, if_pos rfl]
      dsimp only [resOf]
      refine (if_pos rfl).trans ?_
      rw [if_pos rfl, Same_eq s h e s h e L L v v (by omega) (by omega), bnd, if_pos (by simp), ints_len, text_len]
      simp
    · rw [if_neg c]
      dsimp only
      refine (if_neg (show ¬ ((1 : Int) = 0) by decide)).trans ?_
      rw [if_pos rfl, Check_eq s h e L v hU (by omega) (by omega), bnd, if_neg c, if_pos rfl]
      rfl
  rw [medlarlaw16_HeadBack.j0, if_neg (by decide)]
  by_cases d : b.length < 47 ∨ (b.length - 47) % 48 ≠ 0
  · rw [From_no b d (by omega), bnd]
    dsimp only [resNo]
    exact (if_neg (show ¬ ((2 : Int) = 0) by decide)).trans tail
  · have hm : b.length = 47 + 48 * ((b.length - 47) / 48) := by omega
    generalize (b.length - 47) / 48 = m at hm
    rw [From_eq b hb m hm (by omega) (by omega), bnd]
    by_cases r : Rd m b
    · have hb15 : ∀ x ∈ b.drop 15, x < 256 := fun y hy => hb y (List.mem_of_mem_drop hy)
      have hbm : ∀ x ∈ b.drop (15 + 48 * m), x < 256 := fun y hy => hb y (List.mem_of_mem_drop hy)
      rw [if_pos r]
      dsimp only [resOf]
      refine (if_pos rfl).trans ?_
      rw [Bytes_eq _ _ _ _ _ (hprs_U m _ hb15) (slv_U hbm) (by rw [hprs_len]; omega) (by rw [hprs_len]; omega), bnd, if_pos r.1, hprs_len, Len_eq _ (by omega), bnd]
      dsimp only
      rw [if_pos rfl, if_pos rfl, r.2, if_pos rfl, if_pos (by rw [ints_len]; omega), Check_eq _ _ _ _ _ (hprs_U m _ hb15) (by rw [hprs_len]; omega) (by rw [hprs_len]; omega), bnd, if_pos r.1, if_pos rfl]
      exact tail
    · rw [if_neg r]
      dsimp only [resNo]
      exact (if_neg (show ¬ ((2 : Int) = 0) by decide)).trans tail
end Go.Proofs.Ytoljdfgkkkpnbaa.Pure
