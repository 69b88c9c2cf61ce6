/- HeadCut, plainly. -/
import Derived.Test.YtoljdfgkkkpnbaaZHeadCut
import Derived.Test.YtoljdfgkkkpnbaaMPx10
import Derived.Test.YtoljdfgkkkpnbaaMPx6
set_option linter.unusedVariables false
set_option linter.unusedSimpArgs false
set_option linter.unusedSectionVars false
namespace Go.Proofs.Ytoljdfgkkkpnbaa.Pure
open Go.RowKit Go.Proofs.YtoljdfgkkkpnbaaW.PrintWords Go.Proofs.YtoljdfgkkkpnbaaW.PrintMore Go.Proofs.Ytoljdfgkkkpnbaa.MP Go.Proofs.Ytoljdfgkkkpnbaa.Med
theorem u_of' {x : Int} (h : (Lit.int .u64 x).wf = true) : U x := by obtain ⟨n, rfl, hn⟩ := wf_u64 h; exact ⟨by omega, by omega⟩
def WfP' (z : S41) : Prop := (Lit.int .u64 z.f0.f0).wf = true ∧ (Lit.int .u64 z.f0.f1).wf = true ∧ (Lit.int .u64 z.f1.f2.f0).wf = true ∧ (Lit.int .u64 z.f1.f2.f1).wf = true ∧ (Lit.int .u64 z.f1.f3.f0.f0).wf = true ∧ (Lit.int .u64 z.f1.f3.f0.f1).wf = true ∧ (Lit.int .u64 z.f1.f3.f1.f0).wf = true ∧ (Lit.int .u64 z.f1.f3.f1.f1).wf = true ∧ (Lit.int .i64 z.f1.f4).wf = true
theorem upt_of' {z : S41} (h : WfP' z) : Upt z := by
  obtain ⟨h1, h2, _, _, h5, h6, h7, h8, _⟩ := h
  exact ⟨u_of' h1, u_of' h2, u_of' h5, u_of' h6, u_of' h7, u_of' h8⟩
theorem text_front (s h e : Int) (L : List S41) (v : S29) : (text s h e L v).take 15 = front s h e L.length := by
  unfold text; rw [List.take_append_of_le_length (by rw [front_len]; exact Nat.le_refl _), List.take_of_length_le (by rw [front_len]; exact Nat.le_refl _)]
theorem front_n {s h e s' h' e' : Int} {m n : Nat} (hm : m < 65536) (hn : n < 65536) (q : front s h e m = front s' h' e' n) : m = n := by
  have a : (front s h e m).drop 11 = oct m 4 := by unfold front; rw [← List.append_assoc, List.drop_append_of_le_length (by simp [oct_len]), List.drop_of_length_le (by simp [oct_len]), List.nil_append]
  have b : (front s' h' e' n).drop 11 = oct n 4 := by unfold front; rw [← List.append_assoc, List.drop_append_of_le_length (by simp [oct_len]), List.drop_of_length_le (by simp [oct_len]), List.nil_append]
  rw [q, b] at a
  have p : (256 : Nat) ^ 4 = 4294967296 := by decide
  have := congrArg nm a
  rw [nm_oct 4 _ (by omega), nm_oct 4 _ (by omega)] at this
  exact this.symm
/-- Octets that begin as a text does are none, but the text itself. -/
theorem From_like {s h e : Int} {L : List S41} {v : S29} (c : Ck s h e L v) (b : List Nat) (hb : ∀ x ∈ b, x < 256) (hf : 47 ≤ b.length → b.take 15 = (text s h e L v).take 15) (hl : b.length ≠ 47 + 48 * L.length) (hbl : b.length ≤ 20000) {k : Nat} (hk : 700 ≤ k) :
    head_From.f k (ints b) = some (resNo 2) := by
  by_cases d : b.length < 47 ∨ (b.length - 47) % 48 ≠ 0
  · exact From_no b d (by omega) k
  · have hm : b.length = 47 + 48 * ((b.length - 47) / 48) := by omega
    generalize (b.length - 47) / 48 = m at hm
    rw [From_eq b hb m hm (by omega) (by omega), if_neg]
    intro r
    have q := hf (by omega)
    have r2 := r.2
    rw [← r2, text_front, text_front, hprs_len] at q
    have := c.2.2.2.2.1
    have := front_n (by omega) (by omega) q
    omega
open Classical in
theorem HeadCut (s h e : Int) (L : List S41) (v0 v1 : Bool) (v2 v3 v4 v5 v6 v7 v8 : Int) (s' h' e' : Int) (L' : List S41) (u0 u1 : Bool) (u2 u3 u4 u5 u6 u7 u8 : Int) (cut : Int) (more : List Int)
    (ws : (Lit.int .i64 s).wf = true) (wh : (Lit.int .i64 h).wf = true) (we : (Lit.int .i64 e).wf = true) (lL : L.length ≤ maxLen) (hL : ∀ p ∈ L, WfP' p)
    (w2 : (Lit.int .u64 v2).wf = true) (w3 : (Lit.int .u64 v3).wf = true) (w4 : (Lit.int .u64 v4).wf = true) (w5 : (Lit.int .u64 v5).wf = true) (w6 : (Lit.int .u64 v6).wf = true) (w7 : (Lit.int .u64 v7).wf = true) (w8 : (Lit.int .i64 v8).wf = true)
    (ws' : (Lit.int .i64 s').wf = true) (wh' : (Lit.int .i64 h').wf = true) (we' : (Lit.int .i64 e').wf = true) (lL' : L'.length ≤ maxLen) (hL' : ∀ p ∈ L', WfP' p)
    (x2 : (Lit.int .u64 u2).wf = true) (x3 : (Lit.int .u64 u3).wf = true) (x4 : (Lit.int .u64 u4).wf = true) (x5 : (Lit.int .u64 u5).wf = true) (x6 : (Lit.int .u64 u6).wf = true) (x7 : (Lit.int .u64 u7).wf = true) (x8 : (Lit.int .i64 u8).wf = true)
    (wc : (Lit.int .i64 cut).wf = true) (lb : more.length ≤ maxLen) (wb : ∀ x ∈ more, (Lit.int .u8 x).wf = true) : ∃ k, medlarlaw16_HeadCut.f k s h e L v0 v1 v2 v3 v4 v5 v6 v7 v8 s' h' e' L' u0 u1 u2 u3 u4 u5 u6 u7 u8 cut more = some true := by
  obtain ⟨b, rfl, hb⟩ := ints_of8 more wb
  have hU : ∀ p ∈ L, Upt p := fun p hp => upt_of' (hL p hp)
  have hU' : ∀ p ∈ L', Upt p := fun p hp => upt_of' (hL' p hp)
  obtain ⟨v, hv⟩ : ∃ v : S29, v = ⟨v0, v1, ⟨v2, v3⟩, ⟨⟨v4, v5⟩, ⟨v6, v7⟩⟩, v8⟩ := ⟨_, rfl⟩
  have hvs : Us v.f3 := by rw [hv]; exact ⟨u_of' w4, u_of' w5, u_of' w6, u_of' w7⟩
  obtain ⟨rfl, rfl, rfl, rfl, rfl, rfl, rfl, rfl, rfl⟩ : v0 = v.f0 ∧ v1 = v.f1 ∧ v2 = v.f2.f0 ∧ v3 = v.f2.f1 ∧ v4 = v.f3.f0.f0 ∧ v5 = v.f3.f0.f1 ∧ v6 = v.f3.f1.f0 ∧ v7 = v.f3.f1.f1 ∧ v8 = v.f4 := by rw [hv]; exact ⟨rfl, rfl, rfl, rfl, rfl, rfl, rfl, rfl, rfl⟩
  obtain ⟨u, hu⟩ : ∃ v : S29, v = ⟨u0, u1, ⟨u2, u3⟩, ⟨⟨u4, u5⟩, ⟨u6, u7⟩⟩, u8⟩ := ⟨_, rfl⟩
  have hus : Us u.f3 := by rw [hu]; exact ⟨u_of' x4, u_of' x5, u_of' x6, u_of' x7⟩
  obtain ⟨rfl, rfl, rfl, rfl, rfl, rfl, rfl, rfl, rfl⟩ : u0 = u.f0 ∧ u1 = u.f1 ∧ u2 = u.f2.f0 ∧ u3 = u.f2.f1 ∧ u4 = u.f3.f0.f0 ∧ u5 = u.f3.f0.f1 ∧ u6 = u.f3.f1.f0 ∧ u7 = u.f3.f1.f1 ∧ u8 = u.f4 := by rw [hu]; exact ⟨rfl, rfl, rfl, rfl, rfl, rfl, rfl, rfl, rfl⟩
  clear hv hu w2 w3 w4 w5 w6 w7 w8 x2 x3 x4 x5 x6 x7 x8
  refine ⟨1000, ?_⟩
  unfold medlarlaw16_HeadCut.f
  rw [live16 (by decide), bnd]
  have big : medlarlaw16_HeadCut.j0 1000 cut (ints b) true true s h e L v.f0 v.f1 v.f2.f0 v.f2.f1 v.f3.f0.f0 v.f3.f0.f1 v.f3.f1.f0 v.f3.f1.f1 v.f4 s' h' e' L' u.f0 u.f1 u.f2.f0 u.f2.f1 u.f3.f0.f0 u.f3.f0.f1 u.f3.f1.f0 u.f3.f1.f1 u.f4 = some true := by rw [medlarlaw16_HeadCut.j0, if_pos rfl]
  by_cases c1 : (L.length : Int) > 60
  · rw [if_pos c1, big]
  rw [if_neg c1]
  by_cases c2 : (L'.length : Int) > 60
  · rw [if_pos c2, big]
  rw [if_neg c2]
  by_cases c3 : ((ints b).length : Int) > 100
  · rw [decide_eq_true c3, big]
  rw [decide_eq_false c3]
  rw [ints_len] at c3
  rw [medlarlaw16_HeadCut.j0, if_neg (by decide), Bytes_eq s h e L v hU hvs (by omega) (by omega), bnd, Bytes_eq s' h' e' L' u hU' hus (by omega) (by omega), bnd]
  by_cases c : Ck s h e L v
  · have tl := text_len s h e L v
    have tlt := text_lt s h e L v
    have j2 : medlarlaw16_HeadCut.j1 999 cut (ints b) true (ints (text s h e L v)) false = some true := by
      have fin : ∀ k, 700 ≤ k → (head_From.f k (ints (text s h e L v) ++ ints b)).bind (fun bt => (if true = true then (some ((bt.2.2.2.2.2.2.2.2.2.2.2.2.2 == 0) == (((ints b).length : Int) == 0))) else (some false))) = some true := by
        intro k hk
        rw [ints_app, ints_len]
        by_cases z : b = []
        · subst z
          rw [List.append_nil, From_text c hU hvs (by omega), bnd]; rfl
        · have hz : b.length ≠ 0 := fun q => z (List.length_eq_zero_iff.1 q)
          rw [From_like c (text s h e L v ++ b) (fun x hx => by rcases List.mem_append.1 hx with hx | hx; exact tlt x hx; exact hb x hx) (fun _ => List.take_append_of_le_length (by omega)) (by rw [List.length_append]; omega) (by rw [List.length_append]; omega) hk, bnd, if_pos rfl]
          have : ((b.length : Int) == 0) = false := beq_eq_false_iff_ne.mpr (by omega)
          rw [this]; rfl
      rw [medlarlaw16_HeadCut.j1, if_neg (by decide)]
      have no : medlarlaw16_HeadCut.j2 998 cut (ints b) true (ints (text s h e L v)) false = some true := by
        rw [medlarlaw16_HeadCut.j2, if_neg (by decide), if_pos (by rw [ints_len]; simp; omega), bnd, List.nil_append, if_pos (by rw [ints_len, ints_len]; omega)]
        exact fin _ (by omega)
      by_cases g : cut ≥ 0
      · rw [if_pos g]
        by_cases q : cut < ((ints (text s h e L v)).length : Int)
        · rw [decide_eq_true q, medlarlaw16_HeadCut.j2, if_pos rfl, if_pos g, if_pos (by omega), ints_take]
          rw [ints_len] at q
          have l1 : ((text s h e L v).take cut.toNat).length = cut.toNat := by rw [List.length_take]; omega
          rw [From_like c ((text s h e L v).take cut.toNat) (fun x hx => tlt x (List.mem_of_mem_take hx)) (fun y => by rw [List.take_take, Nat.min_eq_left (by omega)]) (by omega) (by omega) (by omega), bnd, if_pos rfl, if_pos (by rw [ints_len]; simp; omega), bnd, List.nil_append, if_pos (by rw [ints_len, ints_len]; omega)]
          exact fin _ (by omega)
        · rw [decide_eq_false q]; exact no
      · rw [if_neg g]; exact no
    rw [if_pos c]
    by_cases d : Ck s' h' e' L' u
    · rw [if_pos d]
      dsimp only
      rw [if_pos rfl, if_pos rfl, Same_eq s h e s' h' e' L L' v u (by omega) (by omega), bnd, str_beq _ _ tlt (text_lt _ _ _ _ _)]
      have iff : (text s h e L v = text s' h' e' L' u) ↔ (s = s' ∧ h = h' ∧ e = e' ∧ L = L' ∧ v = u) := by
        constructor
        · intro q
          obtain ⟨_, a1, a2, a3, a4, a5⟩ := Rd_text c hU hvs
          obtain ⟨_, b1, b2, b3, b4, b5⟩ := Rd_text d hU' hus
          have ll : L.length = L'.length := by have := congrArg List.length q; rw [text_len, text_len] at this; omega
          rw [q] at a1 a2 a3 a4 a5
          rw [ll] at a4 a5
          exact ⟨a1.symm.trans b1, a2.symm.trans b2, a3.symm.trans b3, a4.symm.trans b4, a5.symm.trans b5⟩
        · rintro ⟨rfl, rfl, rfl, rfl, rfl⟩; rfl
      have : (decide (text s h e L v = text s' h' e' L' u) != decide (s = s' ∧ h = h' ∧ e = e' ∧ L = L' ∧ v = u)) = false := by
        rw [bne_eq_false_iff_eq, decide_eq_decide]; exact iff
      have e2 : ∀ (x y : Bool), x = y → medlarlaw16_HeadCut.j1 999 cut (ints b) true (ints (text s h e L v)) (x != y) = some true := by
        rintro x _ rfl; rw [bne_self_eq_false]; exact j2
      exact e2 _ _ (by rw [decide_eq_decide]; exact iff)
    · rw [if_neg d]
      dsimp only
      rw [if_pos rfl]
      exact (if_neg (show ¬ ((1 : Int) = 0) by decide)).trans j2
  · rw [if_neg c]
    dsimp only
    exact if_neg (show ¬ ((1 : Int) = 0) by decide)
end Go.Proofs.Ytoljdfgkkkpnbaa.Pure
