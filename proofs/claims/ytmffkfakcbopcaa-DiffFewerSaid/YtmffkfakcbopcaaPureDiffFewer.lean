/- DiffFewer: for every height, and list of at most thirty numbers: the cover by differences has no more subsets than the one by whole subtrees, each of which lies in just one of them; of one leaf it has one; no condition. -/
import Derived.Test.YtmffkfakcbopcaaZDiffFewer
import Derived.Test.YtmffkfakcbopcaaMPx22
set_option linter.unusedVariables false
set_option linter.unusedSimpArgs false
set_option linter.unusedSectionVars false
namespace Go.Proofs.Ytmffkfakcbopcaa.Pure
open Go.RowKit Go.Proofs.Ytmffkfakcbopcaa.MP Go.Proofs.YtmffkfakcbopcaaW.PrintWords Go.Proofs.YtmffkfakcbopcaaW.PrintLast Go.Proofs.Ytmffkfakcbopcaa.Med
theorem fewer_l0 (C : Nat) (hC : 4200 ≤ C) {H : Nat} (hH : 1 ≤ H ∧ H ≤ 32) (S : List (Nat × Nat)) (T : List Nat) (hlen : S.length ≤ 2048) (hT : T.length ≤ 40000) (sb : ∀ s ∈ S, Sb H s.1 s.2)
    (h1 : ∀ n ∈ T, Nd H n ∧ lo H n < 2 ^ H ∧ hi H n < 2 ^ H ∧ (∀ q ∈ S, (In H q.1 q.2 (lo H n) ↔ In H q.1 q.2 (hi H n))) ∧ inn H (lo H n) S = 1) :
    ∀ (q t k : Nat), t + q = T.length → q * C + 100 ≤ k →
    medlarlaw11_DiffFewer.l0 k (H : Int) true (sbs S) (sbs (whl T)) (T.length : Int) (t : Int) = some true := by
  have hp := pow_le_h hH.2
  intro q
  induction q with
  | zero =>
    intro t k ht hk'
    obtain ⟨k, rfl⟩ : ∃ m, k = m + 1 := ⟨k - 1, by omega⟩
    rw [medlarlaw11_DiffFewer.l0, if_neg (by omega)]
  | succ q ih =>
    intro t k ht hk'
    have eqC : (q + 1) * C = q * C + C := by rw [Nat.add_mul, Nat.one_mul]
    have htT : t < T.length := by omega
    obtain ⟨nd, p1, p2, same, one⟩ := h1 _ (List.getElem_mem htT)
    have rdt : rd_T34 (sbs (whl T)) (t : Int) = ⟨(T[t] : Int), 0⟩ := by
      rw [rdT_sbs (l := whl T) (by rw [whl_len]; exact htT)]; simp [whl]
    generalize T[t] = n at nd p1 p2 same one rdt
    have inner : ∀ (r u m : Nat), u + r = S.length → q * C + 100 + 20 + 2 * r ≤ m →
        medlarlaw11_DiffFewer.l1 m (H : Int) true (sbs S) (sps (spn H n 0)) (inn H (lo H n) (S.take u) : Int) (sbs (whl T)) (T.length : Int) (t : Int) (sbs S) (S.length : Int) (u : Int) = some true := by
      intro r
      induction r with
      | zero =>
        intro u m hu' hm
        obtain ⟨m, rfl⟩ : ∃ j, m = j + 1 := ⟨m - 1, by omega⟩
        rw [List.take_of_length_le (by omega), one, medlarlaw11_DiffFewer.l1, if_neg (by omega), if_pos (by omega), w64 (by omega) (by omega), show (t : Int) + 1 = ((t + 1 : Nat) : Int) by omega]
        exact ih (t + 1) m (by omega) (by omega)
      | succ r ihr =>
        intro u m hu' hm
        obtain ⟨m, rfl⟩ : ∃ j, m = j + 2 := ⟨m - 2, by omega⟩
        have huS : u < S.length := by omega
        have hq := List.getElem_mem huS
        have tk : S.take (u + 1) = S.take u ++ [S[u]] := by rw [List.take_succ_eq_append_getElem huS]
        have s0 := sb _ hq
        have bd := sb_lt s0
        have sm := same _ hq
        have hle : inn H (lo H n) (S.take u) ≤ 2048 := by
          unfold inn
          have := List.length_filter_le (fun q => decide (In H q.1 q.2 (lo H n))) (S.take u)
          rw [List.length_take] at this; omega
        have stp : inn H (lo H n) (S.take (u + 1)) = inn H (lo H n) (S.take u) + (if In H S[u].1 S[u].2 (lo H n) then 1 else 0) := by
          unfold inn
          rw [tk, List.filter_append, List.length_append]
          congr 1
          by_cases z : In H S[u].1 S[u].2 (lo H n)
          · rw [if_pos z]; simp [z]
          · rw [if_neg z]; simp [z]
        generalize hs : S[u] = s at s0 bd sm stp
        obtain ⟨s1, s2⟩ := s
        dsimp only at s0 bd sm stp
        have a1 := sHas_eq (H : Int) (i := s1) (j := s2) (p := lo H n) (by omega) (by omega) (by omega) (k := m + 1) (by omega)
        have a2 := sHas_eq (H : Int) (i := s1) (j := s2) (p := hi H n) (by omega) (by omega) (by omega) (k := m + 1) (by omega)
        rw [Int.toNat_natCast, if_pos ⟨s0, by rw [lfi_iff]; exact ⟨by rw [hi_iff]; omega, by rw [Int.toNat_natCast]; exact p1⟩⟩] at a1
        rw [Int.toNat_natCast, if_pos ⟨s0, by rw [lfi_iff]; exact ⟨by rw [hi_iff]; omega, by rw [Int.toNat_natCast]; exact p2⟩⟩] at a2
        have e2 : decide (In H s1 s2 (hi H n)) = decide (In H s1 s2 (lo H n)) := by rw [Bool.eq_iff_iff, decide_eq_true_iff, decide_eq_true_iff]; exact sm.symm
        have sp : rd_T52 (sps (spn H n 0)) 0 = ⟨(lo H n : Int), (hi H n : Int)⟩ := rfl
        have nx := ihr (u + 1) m (by omega) (by omega)
        rw [medlarlaw11_DiffFewer.l1, if_pos (by omega), if_pos (by omega), if_pos (by rw [sbs_len]; omega), if_pos (by rw [sps_len]; simp [spn]), rdT_sbs huS, hs, sp]
        dsimp only
        rw [a1]; simp only [bnd]
        rw [a2]; simp only [bnd]
        rw [if_pos (by trivial), if_pos (by trivial), e2, show (decide (In H s1 s2 (lo H n)) != decide (In H s1 s2 (lo H n))) = false by simp, medlarlaw11_DiffFewer.j4, if_neg (by simp), w64 (x := (u : Int) + 1) (by omega) (by omega), show (u : Int) + 1 = ((u + 1 : Nat) : Int) by omega]
        rw [stp] at nx
        by_cases z : In H s1 s2 (lo H n)
        · rw [if_pos z] at nx
          rw [decide_eq_true z, if_pos rfl, w64 (by omega) (by omega)]
          exact nx
        · rw [if_neg z] at nx
          rw [decide_eq_false z, if_neg (by simp)]
          exact nx
    obtain ⟨k, rfl⟩ : ∃ m, k = m + 3 := ⟨k - 3, by omega⟩
    have lv := sLeaves_eq (H : Int) (i := n) (j := 0) (by have := nd.lt33; omega) (by omega) (k + 1)
    rw [Int.toNat_natCast, if_pos ⟨nd, .inl rfl⟩] at lv
    rw [medlarlaw11_DiffFewer.l0, if_pos (by omega), if_pos (by omega), if_pos (by rw [sbs_len, whl_len]; omega), rdt]
    dsimp only
    rw [show ((0 : Nat) : Int) = 0 from rfl] at lv
    rw [lv]; simp only [bnd]
    rw [if_pos (by trivial), show (((sps (spn H n 0)).length : Int) != 1) = false by simp [sps, spn], medlarlaw11_DiffFewer.j2, if_neg (by simp), sbs_len]
    exact inner S.length 0 (k + 1) (by omega) (by omega)
theorem DiffFewer : medlarlaw11_DiffFewer.Pure := by
  intro h l w0 w1 w2 w3
  obtain ⟨l, rfl, hb⟩ := ints_of l w3
  obtain ⟨C, hC⟩ : ∃ C : Nat, C = 4400 := ⟨_, rfl⟩
  obtain ⟨D, hD⟩ : ∃ D : Nat, D = 40000 := ⟨_, rfl⟩
  refine ⟨D * C + 200200, ?_⟩
  generalize hK : D * C + 200200 = K
  have hK1 : 200200 ≤ K := by rw [← hK]; exact Nat.le_add_left _ _
  unfold medlarlaw11_DiffFewer.f
  rw [live11 (by omega)]; simp only [bnd]
  rw [ints_len] at *
  by_cases l30 : (l.length : Int) > 30
  · rw [if_pos l30]
  · have d := DCover_eq h hb (by omega) (k := K) (by omega)
    have wc := WCover_eq h hb (by omega) (k := K) (by omega) (by omega)
    rw [if_neg l30, d]; simp only [bnd]
    rw [wc]; simp only [bnd]
    by_cases c : Lst h l
    · obtain ⟨H, rfl⟩ : ∃ H : Nat, h = (H : Int) := ⟨h.toNat, by have := c.1; rw [hi_iff] at this; omega⟩
      have hH : 1 ≤ H ∧ H ≤ 32 := by have := c.1; rw [hi_iff] at this; omega
      have hl := c.2.2.1
      have hu := c.2.2.2
      rw [Int.toNat_natCast] at hl
      have ln := dif_len_le c
      have ln2 := dfs_len H l
      have lh := dfs_hng_len hl hu
      have hl4 := hng_len_le hH.2 hl hu c.2.1
      rw [if_pos c, if_pos c, Int.toNat_natCast]; dsimp only
      have e : srt (dif H l) = dfs H l := rfl
      rw [if_pos (by trivial), if_pos (by trivial), e, sbs_len, sbs_len, whl_len, if_neg (by omega)]
      have fin : medlarlaw11_DiffFewer.j0 K (H : Int) true (sbs (dfs H l)) (sbs (whl (hng H l))) false = some true := by
        obtain ⟨K, rfl⟩ : ∃ j, K = j + 1 := ⟨K - 1, by omega⟩
        have hm : (hng H l).length * C ≤ D * C := Nat.mul_le_mul_right _ (by omega)
        rw [medlarlaw11_DiffFewer.j0, if_neg (by simp), sbs_len, whl_len]
        exact fewer_l0 C (by omega) hH (dfs H l) (hng H l) (by omega) hl4 (dfs_cvr hH hl hu).sb (fun n hn => hng_lo hH hl hu hn) (hng H l).length 0 K (by omega) (by omega)
      by_cases l1 : (l.length : Int) = 1
      · have := dfs_one (h := H) (l := l) (by omega) hH hl hu
        rw [if_pos l1, show (((dfs H l).length : Int) != 1) = false by rw [this]; rfl, fin]
      · rw [if_neg l1, fin]
    · rw [if_neg c, if_neg c]; dsimp only
      rw [if_neg (by omega), if_pos (by trivial)]; rfl
end Go.Proofs.Ytmffkfakcbopcaa.Pure
