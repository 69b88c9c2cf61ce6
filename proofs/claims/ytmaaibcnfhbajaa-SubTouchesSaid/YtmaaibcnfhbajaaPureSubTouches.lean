/- SubTouches: for all heights, subsets and leaves: two subsets touch just if they have a leaf together, found at a span's begin; it goes both ways, and each touches itself; no condition. -/
import Derived.Test.YtmaaibcnfhbajaaMT
import Derived.Test.YtmaaibcnfhbajaaMV8
import Derived.Test.YtmaaibcnfhbajaaMPx24
set_option linter.unusedVariables false
namespace Go.Proofs.Ytmaaibcnfhbajaa.Pure
open Go.RowKit Go.Proofs.Ytmaaibcnfhbajaa.MP Go.Proofs.YtmaaibcnfhbajaaW.PrintWords Go.Proofs.YtmaaibcnfhbajaaW.PrintLast Go.Proofs.Ytmaaibcnfhbajaa.Med

def metl (h i j a b : Nat) (l : List (Nat × Nat)) : Bool := l.any fun s => decide (In h i j s.1) && decide (In h a b s.1)
theorem touches_l (h : Int) {i j a b : Nat} (s1 : Sb h.toNat i j) (s2 : Sb h.toNat a b) (hi' : i < 18446744073709551616) (hj : j < 18446744073709551616) (ha : a < 18446744073709551616) (hb : b < 18446744073709551616) (tt : Bool)
    (l : List (Nat × Nat)) (hl : ∀ s ∈ l, Lfi h s.1) (hn : l.length ≤ 4) (hd : ∀ s ∈ l, s.1 < 18446744073709551616) : ∀ (q t k : Nat) (m : Bool), t + q = l.length → q + 5 ≤ k →
    medlarlaw08_SubTouches.l0 k h true tt m (sps l) (l.length : Int) (t : Int) (i : Int) (j : Int) (a : Int) (b : Int) = some ((m || metl h.toNat i j a b (l.drop t)) == tt) := by
  intro q
  induction q with
  | zero =>
    intro t k m ht hk
    obtain ⟨k, rfl⟩ : ∃ m, k = m + 1 := ⟨k - 1, by omega⟩
    simp only [medlarlaw08_SubTouches.l0]
    rw [if_neg (by omega), List.drop_of_length_le (by omega)]
    simp [metl]
  | succ q ih =>
    intro t k m ht hk
    obtain ⟨k, rfl⟩ : ∃ m, k = m + 1 := ⟨k - 1, by omega⟩
    have d1 : l.drop t = l[t] :: l.drop (t + 1) := List.drop_eq_getElem_cons (by omega)
    have da : metl h.toNat i j a b (l.drop t) = ((decide (In h.toNat i j l[t].1) && decide (In h.toNat a b l[t].1)) || metl h.toNat i j a b (l.drop (t + 1))) := by unfold metl; rw [d1, List.any_cons]
    have lf1 := hl l[t] (List.getElem_mem (by omega))
    have lf2 := hd l[t] (List.getElem_mem (by omega))
    have h1 : Sb h.toNat i j ∧ Lfi h l[t].1 := ⟨s1, lf1⟩
    have h2 : Sb h.toNat a b ∧ Lfi h l[t].1 := ⟨s2, lf1⟩
    simp only [medlarlaw08_SubTouches.l0]
    rw [if_pos (by omega), if_pos (by omega), if_pos (by rw [sps_len]; omega), rdT_sps (show t < l.length by omega)]
    simp only
    rw [sHas_eq h hi' hj lf2 (by omega), sHas_eq h ha hb lf2 (by omega), if_pos h1, if_pos h2]; simp only [bnd]
    rw [w64 (x := (t : Int) + 1) (by omega) (by omega), show (t : Int) + 1 = ((t + 1 : Nat) : Int) by omega,
      ih (t + 1) k true (by omega) (by omega), ih (t + 1) k _ (by omega) (by omega), ih (t + 1) k false (by omega) (by omega), da]
    cases m with
    | true => simp
    | false =>
      by_cases c1 : In h.toNat i j l[t].1
      · simp [c1]
      · simp [c1]
theorem spn_mem {h i j : Nat} (s : Sb h i j) {x : Nat × Nat} (hx : x ∈ spn h i j) : x.1 ≤ x.2 ∧ x.2 < 2 ^ h := by
  obtain ⟨t, ht, rfl⟩ := List.getElem_of_mem hx
  have := (spn_rise s).at ht
  exact ⟨this.1, this.2.1⟩
theorem met_iff {h i j a b : Nat} (s1 : Sb h i j) (s2 : Sb h a b) : metl h i j a b (spn h i j ++ spn h a b) = tch (spn h i j) (spn h a b) := by
  rw [Bool.eq_iff_iff, tch_spn s1 s2]
  unfold metl
  simp only [List.any_eq_true, Bool.and_eq_true, decide_eq_true_iff, List.mem_append]
  constructor
  · rintro ⟨s, _, h1, h2⟩; exact ⟨s.1, h1, h2⟩
  · rintro ⟨p, h1, h2⟩
    obtain ⟨x, hx, x1, x2⟩ := (mem_spn s1 p).2 h1
    obtain ⟨y, hy, y1, y2⟩ := (mem_spn s2 p).2 h2
    by_cases c : y.1 ≤ x.1
    · exact ⟨x, .inl hx, (mem_spn s1 x.1).1 ⟨x, hx, by omega, by omega⟩, (mem_spn s2 x.1).1 ⟨y, hy, by omega, by omega⟩⟩
    · exact ⟨y, .inr hy, (mem_spn s1 y.1).1 ⟨x, hx, by omega, by omega⟩, (mem_spn s2 y.1).1 ⟨y, hy, by omega, by omega⟩⟩
theorem some_leaf {h i j : Nat} (s : Sb h i j) : ∃ p, In h i j p := by
  have t := spn_tot s
  have hw : (if j = 0 then 0 else wd h j) < wd h i := by
    split
    · exact wd_pos h i
    · rename_i c; exact wd_lt s c
  match e : spn h i j with
  | [] => rw [e] at t; simp only [tot] at t; omega
  | x :: l =>
    have hx : x ∈ spn h i j := by rw [e]; simp
    exact ⟨x.1, (mem_spn s x.1).1 ⟨x, hx, by omega, (spn_mem s hx).1⟩⟩
theorem tch_comm {h i j a b : Nat} (s1 : Sb h i j) (s2 : Sb h a b) : tch (spn h a b) (spn h i j) = tch (spn h i j) (spn h a b) := by
  rw [Bool.eq_iff_iff, tch_spn s1 s2, tch_spn s2 s1]
  constructor <;> (rintro ⟨p, h1, h2⟩; exact ⟨p, h2, h1⟩)
theorem touches_j1 (h : Int) {i j a b : Nat} (s1 : Sb h.toNat i j) (s2 : Sb h.toNat a b) {k : Nat} (hk : 40 ≤ k) :
    medlarlaw08_SubTouches.j1 k h true (tch (spn h.toNat i j) (spn h.toNat a b)) false (i : Int) (j : Int) (a : Int) (b : Int) = some true := by
  obtain ⟨k, rfl⟩ : ∃ m, k = m + 2 := ⟨k - 2, by omega⟩
  have b1 := sb_lt s1
  have b2 := sb_lt s2
  have hh : Hi h := by have := s1.1; rw [nd_iff] at this; rw [hi_iff]; omega
  have hp2 : 2 ^ h.toNat ≤ 4294967296 := pow_le_h (by have := s1.1.2.1; omega)
  rw [medlarlaw08_SubTouches.j1, if_neg (by simp), sLeaves_eq h b1.1 b1.2, sLeaves_eq h b2.1 b2.2, if_pos s1, if_pos s2]; simp only [bnd]
  rw [if_pos trivial, show ((0 : Int) != 0) = false by rfl, medlarlaw08_SubTouches.j2, if_neg (by simp)]
  have l1 := spn_len h.toNat i j
  have l2 := spn_len h.toNat a b
  have ap : ([] : List S50) ++ sps (spn h.toNat i j) ++ sps (spn h.toNat a b) = sps (spn h.toNat i j ++ spn h.toNat a b) := by simp [sps]
  rw [if_pos (by simp [sps_len]; omega)]; simp only [bnd]
  rw [if_pos (by simp [sps_len]; omega)]
  rw [ap, sps_len]
  have hm : ∀ s ∈ spn h.toNat i j ++ spn h.toNat a b, s.1 < 2 ^ h.toNat := by
    intro s hs
    rcases List.mem_append.1 hs with z | z
    · have := spn_mem s1 z; omega
    · have := spn_mem s2 z; omega
  have := touches_l h s1 s2 b1.1 b1.2 b2.1 b2.2 (tch (spn h.toNat i j) (spn h.toNat a b)) (spn h.toNat i j ++ spn h.toNat a b) (fun s hs => ⟨hh, hm s hs⟩) (by rw [List.length_append]; omega) (fun s hs => by have := hm s hs; omega)
    (spn h.toNat i j ++ spn h.toNat a b).length 0 k false (by omega) (by rw [List.length_append]; omega)
  rw [show ((0 : Nat) : Int) = 0 from rfl, List.drop_zero, met_iff s1 s2] at this
  rw [this]; simp
theorem SubTouches : medlarlaw08_SubTouches.Pure := by
  intro h i j a b p w0 w1 w2 w3 w4 w5
  obtain ⟨i, rfl, hi'⟩ := wf_u64 w1
  obtain ⟨j, rfl, hj⟩ := wf_u64 w2
  obtain ⟨a, rfl, ha⟩ := wf_u64 w3
  obtain ⟨b, rfl, hb⟩ := wf_u64 w4
  obtain ⟨p, rfl, hp⟩ := wf_u64 w5
  refine ⟨(200 : Nat) + 1, ?_⟩
  generalize hK : (200 : Nat) = K
  unfold medlarlaw08_SubTouches.f
  rw [live8 (by omega), Touch_eq h hi' hj ha hb (by omega), Touch_eq h ha hb hi' hj (by omega), Touch_eq h hi' hj hi' hj (by omega)]
  simp only [bnd]
  by_cases s1 : Sb h.toNat i j
  · by_cases s2 : Sb h.toNat a b
    · have h12 : Sb h.toNat i j ∧ Sb h.toNat a b := ⟨s1, s2⟩
      have h21 : Sb h.toNat a b ∧ Sb h.toNat i j := ⟨s2, s1⟩
      have h11 : Sb h.toNat i j ∧ Sb h.toNat i j := ⟨s1, s1⟩
      have own : tch (spn h.toNat i j) (spn h.toNat i j) = true := by
        rw [tch_spn s1 s1]
        obtain ⟨q, hq⟩ := some_leaf s1
        exact ⟨q, hq, hq⟩
      rw [if_pos h12, if_pos h21, if_pos h11, own, tch_comm s1 s2]
      simp only [if_true, bne_self_eq_false, Bool.false_eq_true, if_false, Bool.not_true]
      have j1 := touches_j1 h s1 s2 (k := K) (by omega)
      rw [medlarlaw08_SubTouches.j0, if_neg (by simp), sHas_eq h hi' hj hp (by omega), sHas_eq h ha hb hp (by omega)]; simp only [bnd]
      by_cases c : Lfi h p
      · have c1 : Sb h.toNat i j ∧ Lfi h p := ⟨s1, c⟩
        have c2 : Sb h.toNat a b ∧ Lfi h p := ⟨s2, c⟩
        rw [if_pos c1, if_pos c2]; simp only [if_true]
        by_cases e1 : In h.toNat i j p
        · by_cases e2 : In h.toNat a b p
          · have : tch (spn h.toNat i j) (spn h.toNat a b) = true := (tch_spn s1 s2).2 ⟨p, e1, e2⟩
            rw [this] at j1 ⊢
            simp only [e1, e2, decide_true, if_true, Bool.not_true]; exact j1
          · simp only [e1, e2, decide_true, decide_false, if_true, Bool.false_eq_true, if_false]; exact j1
        · simp only [e1, decide_false, Bool.false_eq_true, if_false]; exact j1
      · have c1 : ¬ (Sb h.toNat i j ∧ Lfi h p) := fun z => c z.2
        rw [if_neg c1, if_neg (by simp)]; exact j1
    · simp [s2]
  · simp [s1]
end Go.Proofs.Ytmaaibcnfhbajaa.Pure
