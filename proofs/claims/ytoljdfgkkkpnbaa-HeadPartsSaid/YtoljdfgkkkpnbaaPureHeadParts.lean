/- HeadParts, plainly. -/
import Derived.Test.YtoljdfgkkkpnbaaZHeadParts
import Derived.Test.YtoljdfgkkkpnbaaMPx4
import Derived.Test.YtoljdfgkkkpnbaaMPx5
set_option linter.unusedVariables false
set_option linter.unusedSimpArgs false
set_option linter.unusedSectionVars false
namespace Go.Proofs.Ytoljdfgkkkpnbaa.Pure
open Go.RowKit Go.Proofs.YtoljdfgkkkpnbaaW.PrintWords Go.Proofs.YtoljdfgkkkpnbaaW.PrintMore Go.Proofs.Ytoljdfgkkkpnbaa.MP Go.Proofs.Ytoljdfgkkkpnbaa.Med
theorem u_of3 {x : Int} (h : (Lit.int .u64 x).wf = true) : U x := by obtain ⟨n, rfl, hn⟩ := wf_u64 h; exact ⟨by omega, by omega⟩
def WfP3 (z : S41) : Prop := (Lit.int .u64 z.f0.f0).wf = true ∧ (Lit.int .u64 z.f0.f1).wf = true ∧ (Lit.int .u64 z.f1.f2.f0).wf = true ∧ (Lit.int .u64 z.f1.f2.f1).wf = true ∧ (Lit.int .u64 z.f1.f3.f0.f0).wf = true ∧ (Lit.int .u64 z.f1.f3.f0.f1).wf = true ∧ (Lit.int .u64 z.f1.f3.f1.f0).wf = true ∧ (Lit.int .u64 z.f1.f3.f1.f1).wf = true ∧ (Lit.int .i64 z.f1.f4).wf = true
theorem upt_of3 {z : S41} (h : WfP3 z) : Upt z := by
  obtain ⟨h1, h2, _, _, h5, h6, h7, h8, _⟩ := h
  exact ⟨u_of3 h1, u_of3 h2, u_of3 h5, u_of3 h6, u_of3 h7, u_of3 h8⟩
theorem xor_one {x : Int} (h : U x) : U (Go.bits .xor .u64 x 1) ∧ Go.bits .xor .u64 x 1 ≠ x := by
  obtain ⟨n, rfl⟩ := Int.eq_ofNat_of_zero_le h.1
  have hn : n < 18446744073709551616 := by have := h.2; omega
  have e : Go.bits .xor .u64 (n : Int) 1 = ((n ^^^ 1 : Nat) : Int) := Go.bits_xor_u64_nat n 1 hn (by decide)
  have l : n ^^^ 1 < 2 ^ 64 := Nat.xor_lt_two_pow (n := 64) (by omega) (by decide)
  have d : n ^^^ 1 ≠ n := by
    intro q
    have := congrArg (fun z => Nat.testBit z 0) q
    simp at this
    omega
  rw [e]
  have p : (2 : Nat) ^ 64 = 18446744073709551616 := by decide
  exact ⟨⟨by omega, by omega⟩, by omega⟩
theorem lss_trans {a b c : Nat × Nat} (h : Lss a b) (k : Lss b c) : Lss a c := by unfold Lss at *; omega
/-- Without part i. -/
def wo (i : Nat) (L : List S41) : List S41 := L.take i ++ L.drop (i + 1)
theorem wo_len {i : Nat} {L : List S41} (h : i < L.length) : (wo i L).length = L.length - 1 := by
  unfold wo; rw [List.length_append, List.length_take, List.length_drop]; omega
theorem wo_get {i : Nat} {L : List S41} (h : i < L.length) (j : Nat) : (wo i L)[j]? = if j < i then L[j]? else L[j + 1]? := by
  unfold wo
  by_cases c : j < i
  · rw [if_pos c, List.getElem?_append_left (by rw [List.length_take]; omega), List.getElem?_take, if_pos c]
  · rw [if_neg c, List.getElem?_append_right (by rw [List.length_take]; omega), List.getElem?_drop, List.length_take, show i + 1 + (j - min i L.length) = j + 1 by omega]
theorem wo_mem {i : Nat} {L : List S41} {p : S41} (h : p ∈ wo i L) : p ∈ L := by
  unfold wo at h
  rcases List.mem_append.1 h with h | h
  · exact List.mem_of_mem_take h
  · exact List.mem_of_mem_drop h
theorem ck_wo {s h e : Int} {L : List S41} {v : S29} (c : Ck s h e L v) {i : Nat} (hi : i < L.length) : Ck s h e (wo i L) v := by
  obtain ⟨c1, c2, c3, c4, c5, c6, c7⟩ := c
  refine ⟨c1, c2, c3, c4, by rw [wo_len hi]; omega, c6, fun j hj => ?_⟩
  rw [wo_len hi] at hj
  by_cases a : j < i
  · obtain ⟨p, gp, r1, r2, r3, r4, r5⟩ := c7 j (by omega)
    refine ⟨p, by rw [wo_get hi, if_pos a]; exact gp, r1, r2, r3, r4, fun h0 => ?_⟩
    obtain ⟨q, gq, lq⟩ := r5 h0
    exact ⟨q, by rw [wo_get hi, if_pos (by omega)]; exact gq, lq⟩
  · obtain ⟨p, gp, r1, r2, r3, r4, r5⟩ := c7 (j + 1) (by omega)
    refine ⟨p, by rw [wo_get hi, if_neg a]; exact gp, r1, r2, r3, r4, fun h0 => ?_⟩
    obtain ⟨q, gq, lq⟩ := r5 (by omega)
    rw [show j + 1 - 1 = j by omega] at gq
    by_cases b : j = i
    · subst b
      obtain ⟨p', gp', _, _, _, _, r5'⟩ := c7 j (by omega)
      rw [gq] at gp'; cases gp'
      obtain ⟨q', gq', lq'⟩ := r5' h0
      exact ⟨q', by rw [wo_get hi, if_pos (by omega)]; exact gq', lss_trans lq' lq⟩
    · exact ⟨q, by rw [wo_get hi, if_neg (by omega), show j - 1 + 1 = j by omega]; exact gq, lq⟩
theorem eta_part (p : S41) : (⟨(⟨p.f0.f0, p.f0.f1⟩ : S39), (⟨p.f1.f0, p.f1.f1, (⟨p.f1.f2.f0, p.f1.f2.f1⟩ : S25), (⟨(⟨p.f1.f3.f0.f0, p.f1.f3.f0.f1⟩ : S25), (⟨p.f1.f3.f1.f0, p.f1.f3.f1.f1⟩ : S25)⟩ : S27), p.f1.f4⟩ : S29)⟩ : S41) = p := rfl
theorem ck_turned {s h e : Int} {L : List S41} {v : S29} (c : Ck s h e L v) {i : Nat} (hi : i < L.length) (h0 : 0 < i) : ¬ Ck s h e ((L.set i L[i - 1]).set (i - 1) L[i]) v := by
  intro d
  obtain ⟨p, gp, _, _, _, _, r⟩ := c.2.2.2.2.2.2 i hi
  obtain ⟨q, gq, lq⟩ := r h0
  rw [List.getElem?_eq_getElem hi] at gp; cases gp
  rw [List.getElem?_eq_getElem (by omega)] at gq; cases gq
  obtain ⟨p', gp', _, _, _, _, r'⟩ := d.2.2.2.2.2.2 i (by simp; exact hi)
  obtain ⟨q', gq', lq'⟩ := r' h0
  rw [List.getElem?_set_ne (by omega), List.getElem?_set_self hi] at gp'; cases gp'
  rw [List.getElem?_set_self (by simp; omega)] at gq'; cases gq'
  unfold Lss at lq lq'
  dsimp only at lq lq'
  omega
open Classical in
theorem HeadParts (s h e : Int) (L : List S41) (v0 v1 : Bool) (v2 v3 v4 v5 v6 v7 v8 : Int) (t : Int) (ws : (Lit.int .i64 s).wf = true) (wh : (Lit.int .i64 h).wf = true) (we : (Lit.int .i64 e).wf = true) (lL : L.length ≤ maxLen) (hL : ∀ p ∈ L, WfP3 p)
    (w2 : (Lit.int .u64 v2).wf = true) (w3 : (Lit.int .u64 v3).wf = true) (w4 : (Lit.int .u64 v4).wf = true) (w5 : (Lit.int .u64 v5).wf = true) (w6 : (Lit.int .u64 v6).wf = true) (w7 : (Lit.int .u64 v7).wf = true) (w8 : (Lit.int .i64 v8).wf = true)
    (wt : (Lit.int .i64 t).wf = true) : ∃ k, medlarlaw16_HeadParts.f k s h e L v0 v1 v2 v3 v4 v5 v6 v7 v8 t = some true := by
  obtain ⟨t1, t2⟩ := wf_i64 wt
  have hU : ∀ p ∈ L, Upt p := fun p hp => upt_of3 (hL p hp)
  obtain ⟨v, hv⟩ : ∃ v : S29, v = ⟨v0, v1, ⟨v2, v3⟩, ⟨⟨v4, v5⟩, ⟨v6, v7⟩⟩, v8⟩ := ⟨_, rfl⟩
  have hvs : Us v.f3 := by rw [hv]; exact ⟨u_of3 w4, u_of3 w5, u_of3 w6, u_of3 w7⟩
  obtain ⟨rfl, rfl, rfl, rfl, rfl, rfl, rfl, rfl, rfl⟩ : v0 = v.f0 ∧ v1 = v.f1 ∧ v2 = v.f2.f0 ∧ v3 = v.f2.f1 ∧ v4 = v.f3.f0.f0 ∧ v5 = v.f3.f0.f1 ∧ v6 = v.f3.f1.f0 ∧ v7 = v.f3.f1.f1 ∧ v8 = v.f4 := by rw [hv]; exact ⟨rfl, rfl, rfl, rfl, rfl, rfl, rfl, rfl, rfl⟩
  clear hv w2 w3 w4 w5 w6 w7 w8
  refine ⟨1000, ?_⟩
  unfold medlarlaw16_HeadParts.f
  rw [live16 (by decide), bnd]
  have big : medlarlaw16_HeadParts.j0 1000 t true true s h e L v.f0 v.f1 v.f2.f0 v.f2.f1 v.f3.f0.f0 v.f3.f0.f1 v.f3.f1.f0 v.f3.f1.f1 v.f4 = some true := by rw [medlarlaw16_HeadParts.j0, if_pos rfl]
  by_cases c1 : (L.length : Int) > 60
  · rw [if_pos c1, big]
  rw [if_neg c1, Check_eq s h e L v hU (by omega) (by omega), bnd]
  by_cases c : Ck s h e L v
  rotate_left
  · rw [if_neg c, if_neg (by decide), big]
  rw [if_pos c, if_pos rfl]
  by_cases c2 : L.length = 0
  · rw [show ((L.length : Int) == 0) = true from beq_iff_eq.mpr (by omega), big]
  rw [show ((L.length : Int) == 0) = false from beq_eq_false_iff_ne.mpr (by omega)]
  -- the part that is left out
  have km : -(L.length : Int) < Int.tmod t L.length ∧ Int.tmod t L.length < L.length := by
    have := Int.tmod_lt_of_pos t (b := (L.length : Int)) (by omega)
    have := Int.lt_tmod_of_pos t (b := (L.length : Int)) (by omega)
    omega
  have kw : wrap64 (Int.tmod t (L.length : Int) + (L.length : Int)) = Int.tmod t (L.length : Int) + (L.length : Int) := w64 (by omega) (by omega)
  obtain ⟨i, hi⟩ : ∃ i : Nat, Int.tmod (wrap64 (Int.tmod t (L.length : Int) + (L.length : Int))) (L.length : Int) = (i : Int) := by
    rw [kw]; exact Int.eq_ofNat_of_zero_le (by rw [Int.tmod_eq_emod_of_nonneg (by omega)]; exact Int.emod_nonneg _ (by omega))
  have il : i < L.length := by
    have : (i : Int) < L.length := by rw [← hi, kw, Int.tmod_eq_emod_of_nonneg (by omega)]; exact Int.emod_lt_of_pos _ (by omega)
    omega
  have cw := ck_wo c il
  have hUw : ∀ p ∈ wo i L, Upt p := fun p hp => hU p (wo_mem hp)
  obtain ⟨x1, x2⟩ := xor_one (x := v.f3.f1.f0) hvs.2.2.1
  obtain ⟨u, hu⟩ : ∃ u : S29, u = ⟨v.f0, v.f1, v.f2, ⟨v.f3.f0, ⟨Go.bits .xor .u64 v.f3.f1.f0 1, v.f3.f1.f1⟩⟩, v.f4⟩ := ⟨_, rfl⟩
  have hus : Us u.f3 := by rw [hu]; exact ⟨hvs.1, hvs.2.1, x1, hvs.2.2.2⟩
  have cu : Ck s h e L u := by
    obtain ⟨d1, d2, d3, d4, d5, d6, d7⟩ := c
    exact ⟨d1, d2, d3, d4, d5, by rw [hu]; exact d6, d7⟩
  have B1 := Bytes_eq s h e L v hU hvs (by omega) (k := 999) (by omega)
  have B2 := Bytes_eq s h e (wo i L) v hUw hvs (by rw [wo_len il]; omega) (k := 999) (by rw [wo_len il]; omega)
  have B3 := Bytes_eq s h e L u hU hus (by omega) (k := 999) (by omega)
  rw [if_pos c] at B1
  rw [if_pos cw] at B2
  rw [if_pos cu] at B3
  have B3' : head_Bytes.f 999 s h e L v.f0 v.f1 v.f2.f0 v.f2.f1 v.f3.f0.f0 v.f3.f0.f1 (Go.bits .xor .u64 v.f3.f1.f0 1) v.f3.f1.f1 v.f4 = some (ints (text s h e L u), 0) := by rw [← B3, hu]
  have w1 : wrap64 ((i : Int) + 1) = ((i + 1 : Nat) : Int) := by rw [w64 (by omega) (by omega)]; omega
  have tne : ((strOfNums (ints (text s h e L u))).toList == (strOfNums (ints (text s h e L v))).toList) = false := by
    rw [str_beq _ _ (text_lt _ _ _ _ _) (text_lt _ _ _ _ _), decide_eq_false_iff_not]
    intro q
    have a := (Rd_text cu hU hus).2.2.2.2.2
    have b := (Rd_text c hU hvs).2.2.2.2.2
    rw [q, b] at a
    have := congrArg (fun z => z.f3.f1.f0) a
    rw [hu] at this
    exact x2 this.symm
  rw [medlarlaw16_HeadParts.j0, if_neg (by decide), if_neg (by omega), hi, if_pos (by omega), if_pos (by omega), bnd, Int.toNat_natCast, if_pos (by simp; omega), bnd, w1, if_pos (by omega), if_pos (by omega), bnd, Int.toNat_natCast, List.nil_append, if_pos (by rw [List.length_take, List.length_drop]; omega), B1, bnd]
  rw [show L.take i ++ L.drop (i + 1) = wo i L from rfl, B2, bnd, B3', bnd]
  dsimp only
  rw [if_pos rfl, if_pos rfl, if_pos rfl, if_pos (by rw [ints_len, ints_len, text_len, text_len, wo_len il, w64 (by omega) (by omega)]; omega), if_pos (by rw [ints_len, ints_len, text_len, text_len]), tne, medlarlaw16_HeadParts.j1, if_neg (by decide)]
  by_cases c3 : i = 0
  · rw [if_pos (by omega)]
  rw [if_neg (by omega), if_pos (by simp; omega), bnd, List.nil_append]
  have w2 : wrap64 ((i : Int) - 1) = ((i - 1 : Nat) : Int) := by rw [w64 (by omega) (by omega)]; omega
  have r1 : rd_T41 L (i : Int) = L[i] := by unfold rd_T41; simp [List.getD_eq_getElem?_getD, il]
  have il' : i - 1 < L.length := by omega
  have r2 : rd_T41 L ((i - 1 : Nat) : Int) = L[i - 1] := by unfold rd_T41; simp [List.getD_eq_getElem?_getD, il']
  have hUt : ∀ p ∈ (L.set i L[i - 1]).set (i - 1) L[i], Upt p := by
    intro p hp
    rcases List.mem_or_eq_of_mem_set hp with hp | rfl
    · rcases List.mem_or_eq_of_mem_set hp with hp | rfl
      · exact hU p hp
      · exact hU _ (List.getElem_mem il')
    · exact hU _ (List.getElem_mem il)
  rw [w2, if_pos (by omega), if_pos (by omega), if_pos (by omega), if_pos (by omega), if_pos (by omega), if_pos (by omega), if_pos rfl, r1, r2, eta_part, eta_part, Int.toNat_natCast, Int.toNat_natCast,
    Check_eq s h e _ v hUt (by simp; omega) (by simp; omega), bnd, if_neg (ck_turned c il (by omega))]
  rfl
end Go.Proofs.Ytoljdfgkkkpnbaa.Pure
