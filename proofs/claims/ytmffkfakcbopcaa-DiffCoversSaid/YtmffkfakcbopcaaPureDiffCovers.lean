/- DiffCovers: for every height, list of at most thirty numbers, and leaf: each leaf that is not in the set is in just one subset of the cover by differences, none of the set is in any; no two touch, they stand in order, there are no more than the bound, and together they are as wide as the gaps; no condition. -/
import Derived.Test.YtmffkfakcbopcaaZDiffCovers
import Derived.Test.YtmffkfakcbopcaaMPx20
set_option linter.unusedVariables false
set_option linter.unusedSimpArgs false
set_option linter.unusedSectionVars false
namespace Go.Proofs.Ytmffkfakcbopcaa.Pure
open Go.RowKit Go.Proofs.Ytmffkfakcbopcaa.MP Go.Proofs.YtmffkfakcbopcaaW.PrintWords Go.Proofs.YtmffkfakcbopcaaW.PrintLast Go.Proofs.Ytmffkfakcbopcaa.Med
theorem dcovers_l0 (C : Nat) (hC : 2200 ≤ C) {H : Nat} (hH : 1 ≤ H ∧ H ≤ 32) {l : List Nat} (c : Lst (H : Int) l) (n30 : l.length ≤ 30) {p : Nat} (hp : p < 18446744073709551616) (has : Bool) (S : List (Nat × Nat)) (cv : Cvr H l S) (lt : S.Pairwise Lss) (hlen : S.length ≤ 2048)
    (hfin : (if gev (H : Int) p = 0 then (((cnq (H : Int) p S : Int) == 1) != (!has)) else false) = false ∧ cnq (H : Int) p S ≤ 1) :
    ∀ (q t k : Nat), t + q = S.length → q * C + 200 ≤ k →
    medlarlaw11_DiffCovers.l0 k (H : Int) (ints l) (p : Int) true (sbs S) (cnq (H : Int) p (S.take t) : Int) has (gev (H : Int) p) (ttq H (S.take t) : Int) (sbs S) (S.length : Int) (t : Int) = some true := by
  have hpw := pow_le_h hH.2
  obtain ⟨tt, lle⟩ := cvr_ttq cv
  intro q
  induction q with
  | zero =>
    intro t k ht hk
    obtain ⟨k, rfl⟩ : ∃ m, k = m + 2 := ⟨k - 2, by omega⟩
    have f1 := hfin.1
    have f2 := hfin.2
    have gm := GapsMany_eq c (k := k) (by omega)
    rw [Int.toNat_natCast] at gm
    have J5 : ∀ b : Bool, b = false → medlarlaw11_DiffCovers.j5 (k + 1) (H : Int) (ints l) true (ttq H S : Int) b = some true := by
      intro b hb
      rw [medlarlaw11_DiffCovers.j5, hb, if_neg (by simp), Gaps_eq c (by omega)]; simp only [bnd, Int.toNat_natCast]
      rw [gm]; simp only [bnd]
      rw [tt]; simp
    rw [medlarlaw11_DiffCovers.l0, if_neg (by omega), List.take_of_length_le (by omega)]
    by_cases g0 : gev (H : Int) p = 0
    · rw [if_pos g0] at f1
      rw [if_pos g0, f1, if_neg (by simp)]
      exact J5 _ (by rw [decide_eq_false_iff_not]; omega)
    · rw [if_neg g0]
      exact J5 _ (by rw [decide_eq_false_iff_not]; omega)
  | succ q ih =>
    intro t k ht hk
    have eqC : (q + 1) * C = q * C + C := by rw [Nat.add_mul, Nat.one_mul]
    have htS : t < S.length := by omega
    have hq : S[t] ∈ S := List.getElem_mem htS
    have sb := cv.sb _ hq
    have bd := sb_lt sb
    have nt : ∀ j (hj : j < t), tch (spn H S[t].1 S[t].2) (spn H (S[j]'(by omega)).1 (S[j]'(by omega)).2) = false := fun j hj => cvr_notouch cv lt htS hj
    have le : ∀ (h0 : 0 < t), Lss (S[t - 1]'(by omega)) S[t] := fun h0 => by
      rw [List.pairwise_iff_getElem] at lt
      exact lt (t - 1) t (by omega) htS (by omega)
    have c1 := cnq_step (H : Int) p htS
    have c2 := ttq_step H htS
    have c3 := cnq_le (H : Int) p (S.take t)
    have c4 := ttq_take_le H S (t + 1)
    rw [List.length_take] at c3
    have rdt := rdT_sbs htS
    generalize S[t] = s at sb bd nt le c1 c2 rdt
    obtain ⟨s1, s2⟩ := s
    dsimp only at sb bd nt le c1 c2 rdt
    have inner : ∀ (r j m : Nat), j + r = t → q * C + 200 + 2 + r ≤ m → ∀ cn : Nat, cn = cnq (H : Int) p (S.take (t + 1)) →
        medlarlaw11_DiffCovers.l1 m (H : Int) (ints l) (p : Int) true (sbs S) (cn : Int) has (gev (H : Int) p) (ttq H (S.take t) : Int) (sbs S) (S.length : Int) (t : Int) (sbs (S.take t)) (t : Int) (j : Int) (s1 : Int) (s2 : Int) = some true := by
      intro r
      induction r with
      | zero =>
        intro j m hj hm cn hcn
        obtain ⟨m, rfl⟩ : ∃ j, m = j + 2 := ⟨m - 2, by omega⟩
        have sl := sLeaves_eq (H : Int) (i := s1) (j := s2) (by omega) (by omega) m
        rw [Int.toNat_natCast, if_pos sb] at sl
        have rs := spn_rise sb
        have mm := Many_eq (H : Int) (by rw [hi_iff]; omega) (l := spn H s1 s2) (by rw [Int.toNat_natCast]; exact rs) (k := m + 1) (by have := spn_len H s1 s2; omega) (by have := spn_len H s1 s2; omega)
        have nx := ih (t + 1) (m + 1) (by omega) (by omega)
        rw [medlarlaw11_DiffCovers.l1, if_neg (by omega), sl]; simp only [bnd]
        rw [mm]; simp only [bnd]
        rw [if_pos (by trivial), if_pos (by trivial), wu64 (by omega) (by omega), w64 (by omega) (by omega), show (t : Int) + 1 = ((t + 1 : Nat) : Int) by omega, hcn, show (ttq H (S.take t) : Int) + (tot (spn H s1 s2) : Int) = ((ttq H (S.take (t + 1)) : Nat) : Int) by omega]
        exact nx
      | succ r ihr =>
        intro j m hj hm cn hcn
        obtain ⟨m, rfl⟩ : ∃ j, m = j + 1 := ⟨m - 1, by omega⟩
        have hjS : j < S.length := by omega
        have sj := cv.sb _ (List.getElem_mem hjS)
        have bj := sb_lt sj
        have rj : rd_T34 (sbs (S.take t)) (j : Int) = ⟨(S[j].1 : Int), (S[j].2 : Int)⟩ := by
          rw [rdT_sbs (l := S.take t) (by rw [List.length_take]; omega)]; simp
        have te := Touch_eq (H : Int) (i := s1) (j := s2) (a := S[j].1) (b := S[j].2) (by omega) (by omega) (by omega) (by omega) (k := m) (by omega)
        rw [Int.toNat_natCast, if_pos ⟨sb, sj⟩, nt j (by omega)] at te
        rw [medlarlaw11_DiffCovers.l1, if_pos (by omega), if_pos (by omega), if_pos (by rw [sbs_len, List.length_take]; omega), rj]
        dsimp only
        rw [te]; simp only [bnd]
        rw [if_pos (by trivial), if_neg (by simp), w64 (by omega) (by omega), show (j : Int) + 1 = ((j + 1 : Nat) : Int) by omega]
        exact ihr (j + 1) m (by omega) (by omega) cn hcn
    obtain ⟨k, rfl⟩ : ∃ m, k = m + 3 := ⟨k - 3, by omega⟩
    have J3 : ∀ cn : Nat, cn = cnq (H : Int) p (S.take (t + 1)) → medlarlaw11_DiffCovers.j3 (k + 1) (H : Int) (ints l) (p : Int) true (sbs S) (cn : Int) has (gev (H : Int) p) (ttq H (S.take t) : Int) (t : Int) (sbs S) (S.length : Int) (t : Int) (s1 : Int) (s2 : Int) = some true := by
      intro cn hcn
      have et : (sbs S).take t = sbs (S.take t) := by simp [sbs]
      rw [medlarlaw11_DiffCovers.j3, if_pos (by omega), if_pos (by rw [sbs_len]; omega)]; simp only [bnd]
      rw [Int.toNat_natCast, et, sbs_len, List.length_take, show min t S.length = t by omega]
      exact inner t 0 k (by omega) (by omega) cn hcn
    have J2 : medlarlaw11_DiffCovers.j2 (k + 2) (H : Int) (ints l) (p : Int) true (sbs S) (cnq (H : Int) p (S.take t) : Int) has (gev (H : Int) p) (ttq H (S.take t) : Int) (t : Int) (hsq (H : Int) p (s1, s2)) (sbs S) (S.length : Int) (t : Int) false (s1 : Int) (s2 : Int) = some true := by
      rw [medlarlaw11_DiffCovers.j2, if_neg (by simp)]
      by_cases z : hsq (H : Int) p (s1, s2) = true
      · rw [if_pos z] at c1 ⊢
        rw [w64 (by omega) (by omega), show (cnq (H : Int) p (S.take t) : Int) + 1 = ((cnq (H : Int) p (S.take t) + 1 : Nat) : Int) by omega]
        exact J3 _ c1.symm
      · rw [if_neg z] at c1 ⊢
        exact J3 _ (by omega)
    have he := sHas_hsq sb hp (k := k + 2) (by omega)
    rw [medlarlaw11_DiffCovers.l0, if_pos (by omega), if_pos (by omega), if_pos (by rw [sbs_len]; omega), rdt]
    dsimp only
    rw [he]; simp only [bnd]
    rw [if_pos (by trivial)]
    by_cases t0 : t = 0
    · rw [if_neg (by omega)]; exact J2
    · have le := le (by omega)
      have rd1 := rdT_sbs (show t - 1 < S.length by omega)
      rw [if_pos (by omega), w64 (by omega) (by omega), show (t : Int) - 1 = ((t - 1 : Nat) : Int) by omega, if_pos (by omega), if_pos (by rw [sbs_len]; omega), rd1]
      dsimp only
      rw [Less_eq _ _ _ _ (by omega), decide_eq_true (show Lss ((S[t - 1]'(by omega)).1, (S[t - 1]'(by omega)).2) (s1, s2) from le)]; simp only [bnd]
      exact J2
theorem DiffCovers : medlarlaw11_DiffCovers.Pure := by
  intro h l p w0 w1 w2 w3 w4
  obtain ⟨l, rfl, hb⟩ := ints_of l w3
  obtain ⟨p, rfl, hp⟩ := wf_u64 w4
  obtain ⟨C, hC⟩ : ∃ C : Nat, C = 2400 := ⟨_, rfl⟩
  obtain ⟨D, hD⟩ : ∃ D : Nat, D = 2048 := ⟨_, rfl⟩
  refine ⟨D * C + 1000, ?_⟩
  generalize hK : D * C + 1000 = K
  unfold medlarlaw11_DiffCovers.f
  rw [live11 (by omega)]; simp only [bnd]
  rw [ints_len] at *
  by_cases l30 : (l.length : Int) > 30
  · rw [if_pos l30]
  · have d := DCover_eq h hb (by omega) (k := K) (by omega)
    rw [if_neg l30, d]; simp only [bnd]
    by_cases c : Lst h l
    · obtain ⟨H, rfl⟩ : ∃ H : Nat, h = (H : Int) := ⟨h.toNat, by have := c.1; rw [hi_iff] at this; omega⟩
      have hH : 1 ≤ H ∧ H ≤ 32 := by have := c.1; rw [hi_iff] at this; omega
      have hl := c.2.2.1
      have hu := c.2.2.2
      rw [Int.toNat_natCast] at hl
      have ln := dif_len_le c
      have ln2 := dfs_len H l
      have ln3 := dif_len hl hu
      have cv := dfs_cvr hH hl hu
      have lle := (cvr_ttq cv).2
      have bd : Bd (H : Int) (l.length : Int) := ⟨by rw [hi_iff]; omega, by omega, by omega, by rw [Int.toNat_natCast, Int.toNat_natCast]; exact lle⟩
      have bn : (dfs H l).length ≤ dbn l.length := by
        unfold dbn
        by_cases l0 : l = []
        · rw [if_pos l0] at ln3; rw [if_pos (by rw [l0]; rfl)]; omega
        · rw [if_neg l0] at ln3; rw [if_neg (fun z => l0 (List.length_eq_zero_iff.1 z))]; omega
      have b := DBound_eq (H : Int) (l.length : Int) (k := K) (by omega)
      rw [if_pos bd, Int.toNat_natCast] at b
      have e : srt (dif H l) = dfs H l := rfl
      rw [if_pos c, Int.toNat_natCast]; dsimp only
      rw [if_pos (by trivial), b]; simp only [bnd]
      rw [if_pos (by trivial), e, sbs_len, wu64 (by omega) (by omega), decide_eq_false (by omega)]
      obtain ⟨K, rfl⟩ : ∃ j, K = j + 1 := ⟨K - 1, by omega⟩
      obtain ⟨has, hhas, hh⟩ := lHas_gev c hb hp (k := K) (by omega)
      have hm : (dfs H l).length * C ≤ D * C := Nat.mul_le_mul_right _ (by omega)
      rw [medlarlaw11_DiffCovers.j0, if_neg (by simp), hhas]; simp only [bnd]
      rw [sbs_len]
      exact dcovers_l0 C (by omega) hH c (by omega) hp has (dfs H l) cv (dfs_lss hH hl hu) (by omega) (cvr_fin cv hh) (dfs H l).length 0 K (by omega) (by omega)
    · rw [if_neg c]; dsimp only
      rw [if_neg (by omega), if_pos (by trivial)]; rfl
end Go.Proofs.Ytmffkfakcbopcaa.Pure
