/- LayerOrder: for every list of at most a hundred subsets: in whatever order they stand they are put in one order, each as often as it was; no condition. -/
import Derived.Test.YtmffkfakcbopcaaZLayerOrder
import Derived.Test.YtmffkfakcbopcaaMPx25
set_option linter.unusedVariables false
set_option linter.unusedSimpArgs false
set_option linter.unusedSectionVars false
namespace Go.Proofs.Ytmffkfakcbopcaa.Pure
open Go.RowKit Go.Proofs.Ytmffkfakcbopcaa.MP Go.Proofs.YtmffkfakcbopcaaW.PrintWords Go.Proofs.YtmffkfakcbopcaaW.PrintLast Go.Proofs.Ytmffkfakcbopcaa.Med
theorem sbs_of (l : List S34) (h : ∀ x ∈ l, (Lit.int .u64 x.f0).wf = true ∧ (Lit.int .u64 x.f1).wf = true) : ∃ c : List (Nat × Nat), l = sbs c := by
  induction l with
  | nil => exact ⟨[], rfl⟩
  | cons x l ih =>
    obtain ⟨c, rfl⟩ := ih (fun y hy => h y (by simp [hy]))
    obtain ⟨w0, w1⟩ := h x (by simp)
    obtain ⟨a, ha, _⟩ := wf_u64 w0
    obtain ⟨b, hb, _⟩ := wf_u64 w1
    refine ⟨(a, b) :: c, ?_⟩
    obtain ⟨x0, x1⟩ := x
    simp only at ha hb
    subst ha hb
    rfl
def cnt (s : Nat × Nat) (l : List (Nat × Nat)) : Nat := (l.filter fun a => decide (a = s)).length
theorem cnt_step (s : Nat × Nat) {l : List (Nat × Nat)} {t : Nat} (ht : t < l.length) : cnt s (l.take (t + 1)) = cnt s (l.take t) + (if l[t] = s then 1 else 0) := by
  unfold cnt
  rw [List.take_succ_eq_append_getElem ht, List.filter_append, List.length_append]
  congr 1
  by_cases z : l[t] = s
  · rw [if_pos z]; simp [z]
  · rw [if_neg z]; simp [z]
theorem cnt_le (s : Nat × Nat) (l : List (Nat × Nat)) : cnt s l ≤ l.length := List.length_filter_le _ _
theorem cnt_perm (s : Nat × Nat) {a b : List (Nat × Nat)} (p : a.Perm b) : cnt s a = cnt s b := by
  unfold cnt; exact (p.filter _).length_eq
theorem eq_sbs (a s : Nat × Nat) : (((a.1 : Int) == (s.1 : Int)) && ((a.2 : Int) == (s.2 : Int))) = decide (a = s) := by
  rw [Bool.eq_iff_iff, Bool.and_eq_true, beq_iff_eq, beq_iff_eq, decide_eq_true_iff]
  constructor
  · rintro ⟨x, y⟩; exact Prod.ext (by omega) (by omega)
  · rintro rfl; exact ⟨rfl, rfl⟩
theorem order_l1' (c S : List (Nat × Nat)) (p : S.Perm c) (so : S.Pairwise (lle · ·)) (hn : c.length ≤ 100) : ∀ (q t k : Nat), t + q = S.length → q * 200 + 10 ≤ k →
    medlarlaw12_LayerOrder.l1 k (sbs c) true (sbs S) (sbs S) (S.length : Int) (t : Int) = some true := by
  have le := p.length_eq
  intro q
  induction q with
  | zero =>
    intro t k ht hk
    obtain ⟨k, rfl⟩ : ∃ m, k = m + 1 := ⟨k - 1, by omega⟩
    rw [medlarlaw12_LayerOrder.l1, if_neg (by omega)]
  | succ q ih =>
    intro t k ht hk
    have htS : t < S.length := by omega
    have inner : ∀ (r u m : Nat), u + r = c.length → q * 200 + 10 + 5 + r ≤ m →
        medlarlaw12_LayerOrder.l2 m (sbs c) true (sbs S) (cnt S[t] (c.take u) : Int) (cnt S[t] (S.take u) : Int) (sbs S) (S.length : Int) (t : Int) (c.length : Int) (u : Int) (S[t].1 : Int) (S[t].2 : Int) = some true := by
      intro r
      induction r with
      | zero =>
        intro u m hu hm
        obtain ⟨m, rfl⟩ : ∃ j, m = j + 1 := ⟨m - 1, by omega⟩
        have e := cnt_perm S[t] p
        rw [medlarlaw12_LayerOrder.l2, if_neg (by omega), List.take_of_length_le (by omega), List.take_of_length_le (by omega), if_pos (by omega), w64 (by omega) (by omega), show (t : Int) + 1 = ((t + 1 : Nat) : Int) by omega]
        exact ih (t + 1) m (by omega) (by omega)
      | succ r ihr =>
        intro u m hu hm
        obtain ⟨m, rfl⟩ : ∃ j, m = j + 1 := ⟨m - 1, by omega⟩
        have huc : u < c.length := by omega
        have huS : u < S.length := by omega
        have n1 := cnt_step S[t] huc
        have n2 := cnt_step S[t] huS
        have b1 := cnt_le S[t] (c.take u)
        have b2 := cnt_le S[t] (S.take u)
        rw [List.length_take] at b1 b2
        have nx := ihr (u + 1) m (by omega) (by omega)
        rw [n1, n2] at nx
        rw [medlarlaw12_LayerOrder.l2, if_pos (by omega), if_pos (by omega), if_pos (by rw [sbs_len]; omega), rdT_sbs huc, rdT_sbs huS]
        dsimp only
        have hS : (u : Int) < ((sbs S).length : Int) := by rw [sbs_len]; omega
        have w1 : wrap64 ((cnt S[t] (c.take u) : Int) + 1) = ((cnt S[t] (c.take u) + 1 : Nat) : Int) := w64 (by omega) (by omega)
        have w2 : wrap64 ((cnt S[t] (S.take u) : Int) + 1) = ((cnt S[t] (S.take u) + 1 : Nat) : Int) := w64 (by omega) (by omega)
        rw [eq_sbs, eq_sbs, w64 (x := (u : Int) + 1) (by omega) (by omega), show (u : Int) + 1 = ((u + 1 : Nat) : Int) by omega]
        by_cases z1 : c[u] = S[t]
        · by_cases z2 : S[u] = S[t]
          · rw [if_pos z1, if_pos z2] at nx
            rw [decide_eq_true z1, decide_eq_true z2, if_pos rfl, if_pos hS, if_pos rfl, w1, w2]; exact nx
          · rw [if_pos z1, if_neg z2] at nx
            rw [decide_eq_true z1, decide_eq_false z2, if_pos rfl, if_pos hS, if_neg (by simp), w1]; exact nx
        · by_cases z2 : S[u] = S[t]
          · rw [if_neg z1, if_pos z2] at nx
            rw [decide_eq_false z1, decide_eq_true z2, if_neg (by simp), if_pos hS, if_pos rfl, w2]; exact nx
          · rw [if_neg z1, if_neg z2] at nx
            rw [decide_eq_false z1, decide_eq_false z2, if_neg (by simp), if_pos hS, if_neg (by simp)]; exact nx
    obtain ⟨k, rfl⟩ : ∃ m, k = m + 2 := ⟨k - 2, by omega⟩
    have J3 : medlarlaw12_LayerOrder.j3 (k + 1) (sbs c) true (sbs S) (sbs S) (S.length : Int) (t : Int) false (S[t].1 : Int) (S[t].2 : Int) = some true := by
      rw [medlarlaw12_LayerOrder.j3, if_neg (by simp), sbs_len]
      exact inner c.length 0 k (by omega) (by omega)
    rw [medlarlaw12_LayerOrder.l1, if_pos (by omega), if_pos (by omega), if_pos (by rw [sbs_len]; omega), rdT_sbs htS]
    dsimp only
    by_cases t0 : t = 0
    · rw [if_neg (by omega)]; exact J3
    · have ht1 : t - 1 < S.length := by omega
      have ls : ¬ Lss S[t] S[t - 1] := by
        rw [List.pairwise_iff_getElem] at so
        have := so (t - 1) t (by omega) htS (by omega)
        unfold lle at this
        rw [Bool.not_eq_true', decide_eq_false_iff_not] at this
        exact this
      rw [if_pos (by omega), w64 (by omega) (by omega), show (t : Int) - 1 = ((t - 1 : Nat) : Int) by omega, if_pos (by omega), if_pos (by rw [sbs_len]; omega), rdT_sbs ht1]
      dsimp only
      rw [Less_eq _ _ _ _ (by omega), decide_eq_false (show ¬ Lss (S[t].1, S[t].2) (S[t - 1].1, S[t - 1].2) from ls)]; simp only [bnd]
      exact J3
theorem order_l0' (c : List (Nat × Nat)) (hn : c.length ≤ 100) : ∀ (q t k : Nat), t + q = c.length → q + 20300 ≤ k →
    medlarlaw12_LayerOrder.l0 k (sbs c) true (sbs (srt c)) (sbs (c.reverse.take t)) (c.length : Int) (t : Int) = some true := by
  have p := srt_perm c
  have le := p.length_eq
  intro q
  induction q with
  | zero =>
    intro t k ht hk
    obtain ⟨k, rfl⟩ : ∃ m, k = m + 2 := ⟨k - 2, by omega⟩
    have rl : c.reverse.length = c.length := List.length_reverse
    have e : srt c.reverse = srt c := sort_unique ((srt_perm _).trans ((List.reverse_perm c).trans p.symm)) (srt_sorted _) (srt_sorted _)
    rw [medlarlaw12_LayerOrder.l0, if_neg (by omega), List.take_of_length_le (by omega), lorder_eq _ (by omega), e]; simp only [bnd]
    rw [if_pos (by rw [sbs_len, sbs_len]; omega), same8_eq _ _ (by rw [sbs_len]; omega) (by rw [sbs_len]; omega)]; simp only [bnd]
    simp only [decide_true, Bool.not_true]
    rw [medlarlaw12_LayerOrder.j1, if_neg (by simp), sbs_len]
    exact order_l1' c (srt c) p (srt_sorted c) hn (srt c).length 0 k (by omega) (by omega)
  | succ q ih =>
    intro t k ht hk
    obtain ⟨k, rfl⟩ : ∃ m, k = m + 1 := ⟨k - 1, by omega⟩
    have htR : t < c.reverse.length := by rw [List.length_reverse]; omega
    have hi : c.length - 1 - t < c.length := by omega
    have er : c.reverse[t] = c[c.length - 1 - t] := List.getElem_reverse htR
    have tk : c.reverse.take (t + 1) = c.reverse.take t ++ [c.reverse[t]] := List.take_succ_eq_append_getElem htR
    have ix : wrap64 (wrap64 (((sbs c).length : Int) - 1) - (t : Int)) = ((c.length - 1 - t : Nat) : Int) := by
      rw [sbs_len, w64 (x := (c.length : Int) - 1) (by omega) (by omega), w64 (by omega) (by omega)]; omega
    have e : sbs (c.reverse.take t) ++ [(⟨(c[c.length - 1 - t].1 : Int), (c[c.length - 1 - t].2 : Int)⟩ : S34)] = sbs (c.reverse.take (t + 1)) := by
      rw [tk, er]; simp [sbs]
    rw [medlarlaw12_LayerOrder.l0, if_pos (by omega), ix, if_pos (by omega), if_pos (by rw [sbs_len]; omega), if_pos (by rw [sbs_len, List.length_take]; omega), rdT_sbs hi]
    dsimp only
    rw [e, w64 (by omega) (by omega), show (t : Int) + 1 = ((t + 1 : Nat) : Int) by omega]
    exact ih (t + 1) k (by omega) (by omega)
theorem LayerOrder : medlarlaw12_LayerOrder.Pure := by
  intro l w0 w1 w2
  obtain ⟨c, rfl⟩ := sbs_of l w2
  obtain ⟨K, hK⟩ : ∃ K : Nat, K = 200400 := ⟨_, rfl⟩
  refine ⟨K, ?_⟩
  unfold medlarlaw12_LayerOrder.f
  rw [live12 (by omega)]; simp only [bnd]
  rw [sbs_len] at *
  by_cases l100 : (c.length : Int) > 100
  · rw [if_pos l100]
  · rw [if_neg l100, lorder_eq _ (by omega)]; simp only [bnd]
    exact order_l0' c (by omega) c.length 0 K (by omega) (by omega)
end Go.Proofs.Ytmffkfakcbopcaa.Pure
