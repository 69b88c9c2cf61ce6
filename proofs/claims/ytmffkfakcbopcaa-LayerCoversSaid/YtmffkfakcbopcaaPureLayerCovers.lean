/- LayerCovers: for every height, scheme, list of at most thirty numbers, and leaf: each leaf that is not in the set is in just one subset of the cover, none of the set is in any; each may be of the scheme, they stand in order, there are no more than the bound, and together they are as wide as the gaps; no condition. -/
import Derived.Test.YtmffkfakcbopcaaZLayerCovers
import Derived.Test.YtmffkfakcbopcaaMPx6
set_option linter.unusedVariables false
set_option linter.unusedSimpArgs false
set_option linter.unusedSectionVars false
namespace Go.Proofs.Ytmffkfakcbopcaa.Pure
open Go.RowKit Go.Proofs.Ytmffkfakcbopcaa.MP Go.Proofs.YtmffkfakcbopcaaW.PrintWords Go.Proofs.YtmffkfakcbopcaaW.PrintLast Go.Proofs.Ytmffkfakcbopcaa.Med
theorem lcovers_l0 {H : Nat} (hH : 1 ≤ H ∧ H ≤ 32) {sc : Int} (hsc : Sch sc) {l : List Nat} (c : Lst (H : Int) l) (n30 : l.length ≤ 30) {p : Nat} (hp : p < 18446744073709551616) (has : Bool) (S : List (Nat × Nat)) (cv : Cvr H l S) (lt : S.Pairwise Lss) (may : ∀ q ∈ S, May H sc q.1 q.2) (hlen : S.length ≤ 40000)
    (hfin : (if gev (H : Int) p = 0 then (((cnq (H : Int) p S : Int) == 1) != (!has)) else false) = false ∧ cnq (H : Int) p S ≤ 1) :
    ∀ (q t k : Nat), t + q = S.length → 2 * q + 200 ≤ k →
    medlarlaw12_LayerCovers.l0 k (H : Int) sc (ints l) (p : Int) true (sbs S) (cnq (H : Int) p (S.take t) : Int) has (gev (H : Int) p) (ttq H (S.take t) : Int) (sbs S) (S.length : Int) (t : Int) = some true := by
  have hpw := pow_le_h hH.2
  obtain ⟨tt, lle⟩ := cvr_ttq cv
  intro q
  induction q with
  | zero =>
    intro t k ht hk
    obtain ⟨k, rfl⟩ : ∃ m, k = m + 2 := ⟨k - 2, by omega⟩
    have f1 := hfin.1
    have f2 := hfin.2
    have gm := GapsMany_eq c (k := k) (by omega)
    rw [Int.toNat_natCast] at gm
    have J3 : ∀ b : Bool, b = false → medlarlaw12_LayerCovers.j3 (k + 1) (H : Int) (ints l) true (ttq H S : Int) b = some true := by
      intro b hb
      rw [medlarlaw12_LayerCovers.j3, hb, if_neg (by simp), Gaps_eq c (by omega)]; simp only [bnd, Int.toNat_natCast]
      rw [gm]; simp only [bnd]
      rw [tt]; simp
    rw [medlarlaw12_LayerCovers.l0, if_neg (by omega), List.take_of_length_le (by omega)]
    by_cases g0 : gev (H : Int) p = 0
    · rw [if_pos g0] at f1
      rw [if_pos g0, f1, if_neg (by simp)]
      exact J3 _ (by rw [decide_eq_false_iff_not]; omega)
    · rw [if_neg g0]
      exact J3 _ (by rw [decide_eq_false_iff_not]; omega)
  | succ q ih =>
    intro t k ht hk
    have htS : t < S.length := by omega
    have hq : S[t] ∈ S := List.getElem_mem htS
    have sb := cv.sb _ hq
    have bd := sb_lt sb
    have my := may _ hq
    have le : ∀ (h0 : 0 < t), Lss (S[t - 1]'(by omega)) S[t] := fun h0 => by
      rw [List.pairwise_iff_getElem] at lt
      exact lt (t - 1) t (by omega) htS (by omega)
    have c1 := cnq_step (H : Int) p htS
    have c2 := ttq_step H htS
    have c3 := cnq_le (H : Int) p (S.take t)
    have c4 := ttq_take_le H S (t + 1)
    rw [List.length_take] at c3
    have rdt := rdT_sbs htS
    generalize S[t] = s at sb bd my le c1 c2 rdt
    obtain ⟨s1, s2⟩ := s
    dsimp only at sb bd my le c1 c2 rdt
    obtain ⟨k, rfl⟩ : ∃ m, k = m + 2 := ⟨k - 2, by omega⟩
    have nx := ih (t + 1) k (by omega) (by omega)
    have J2 : medlarlaw12_LayerCovers.j2 (k + 1) (H : Int) sc (ints l) (p : Int) true (sbs S) (cnq (H : Int) p (S.take t) : Int) has (gev (H : Int) p) (ttq H (S.take t) : Int) (hsq (H : Int) p (s1, s2)) (tot (spn H s1 s2) : Int) (sbs S) (S.length : Int) (t : Int) false = some true := by
      rw [medlarlaw12_LayerCovers.j2, if_neg (by simp), wu64 (by omega) (by omega), w64 (x := (t : Int) + 1) (by omega) (by omega), show (t : Int) + 1 = ((t + 1 : Nat) : Int) by omega, show (ttq H (S.take t) : Int) + (tot (spn H s1 s2) : Int) = ((ttq H (S.take (t + 1)) : Nat) : Int) by omega]
      by_cases z : hsq (H : Int) p (s1, s2) = true
      · rw [if_pos z] at c1 ⊢
        rw [w64 (by omega) (by omega), show (cnq (H : Int) p (S.take t) : Int) + 1 = ((cnq (H : Int) p (S.take (t + 1)) : Nat) : Int) by omega]
        exact nx
      · rw [if_neg z] at c1 ⊢
        rw [show cnq (H : Int) p (S.take t) = cnq (H : Int) p (S.take (t + 1)) by omega]
        exact nx
    have he := sHas_hsq sb hp (k := k + 1) (by omega)
    have me := May_eq (H : Int) sc bd.1 bd.2 (k := k + 1) (by omega)
    rw [Int.toNat_natCast, if_pos ⟨hsc, sb⟩, decide_eq_true my] at me
    have sl := sLeaves_eq (H : Int) (i := s1) (j := s2) (by omega) (by omega) k
    rw [Int.toNat_natCast, if_pos sb] at sl
    have rs := spn_rise sb
    have mm := Many_eq (H : Int) (by rw [hi_iff]; omega) (l := spn H s1 s2) (by rw [Int.toNat_natCast]; exact rs) (k := k + 1) (by have := spn_len H s1 s2; omega) (by have := spn_len H s1 s2; omega)
    rw [medlarlaw12_LayerCovers.l0, if_pos (by omega), if_pos (by omega), if_pos (by rw [sbs_len]; omega), rdt]
    dsimp only
    rw [he]; simp only [bnd]
    rw [me]; simp only [bnd]
    rw [sl]; simp only [bnd]
    rw [mm]; simp only [bnd]
    rw [if_pos (by trivial), if_pos (by trivial), if_pos (by trivial), if_pos (by trivial), if_pos (by trivial)]
    by_cases t0 : t = 0
    · rw [if_neg (by omega)]; exact J2
    · have le := le (by omega)
      have rd1 := rdT_sbs (show t - 1 < S.length by omega)
      rw [if_pos (by omega), w64 (by omega) (by omega), show (t : Int) - 1 = ((t - 1 : Nat) : Int) by omega, if_pos (by omega), if_pos (by rw [sbs_len]; omega), rd1]
      dsimp only
      rw [Less_eq _ _ _ _ (by omega), decide_eq_true (show Lss ((S[t - 1]'(by omega)).1, (S[t - 1]'(by omega)).2) (s1, s2) from le)]; simp only [bnd]
      exact J2
theorem LayerCovers : medlarlaw12_LayerCovers.Pure := by
  intro h sc l p w0 w1 w2 w3 w4 w5
  obtain ⟨l, rfl, hb⟩ := ints_of l w4
  obtain ⟨p, rfl, hp⟩ := wf_u64 w5
  obtain ⟨K, hK⟩ : ∃ K : Nat, K = 400200 := ⟨_, rfl⟩
  refine ⟨K, ?_⟩
  unfold medlarlaw12_LayerCovers.f
  rw [live12 (by omega)]; simp only [bnd]
  rw [ints_len] at *
  by_cases l30 : (l.length : Int) > 30
  · rw [if_pos l30]
  · have d := LCover_eq h sc hb (by omega) (k := K) (by omega) (by omega)
    rw [if_neg l30]
    by_cases cc : Sch sc ∧ Lst h l
    · rw [if_pos cc] at d
      obtain ⟨hsc, c⟩ := cc
      obtain ⟨H, rfl⟩ : ∃ H : Nat, h = (H : Int) := ⟨h.toNat, by have := c.1; rw [hi_iff] at this; omega⟩
      have hH : 1 ≤ H ∧ H ≤ 32 := by have := c.1; rw [hi_iff] at this; omega
      have hl := c.2.2.1
      have hu := c.2.2.2
      rw [Int.toNat_natCast] at hl d
      rw [d]; simp only [bnd]
      obtain ⟨cv, lt⟩ := lys_cvr hH hl hu sc
      have lle := (cvr_ttq cv).2
      have bd : Bd (H : Int) (l.length : Int) := ⟨by rw [hi_iff]; omega, by omega, by omega, by rw [Int.toNat_natCast, Int.toNat_natCast]; exact lle⟩
      have bn := lys_len hH hl hu sc
      have bn2 := lys_len_le hH hl hu c.2.1 sc
      have b := LBound_eq (H : Int) sc (l.length : Int) (by omega) (k := K) (by omega)
      rw [if_pos ⟨hsc, bd⟩, Int.toNat_natCast, Int.toNat_natCast] at b
      rw [if_pos (by trivial), b]; simp only [bnd]
      rw [if_pos (by trivial), sbs_len, wu64 (by omega) (by omega), decide_eq_false (by omega)]
      obtain ⟨K, rfl⟩ : ∃ j, K = j + 1 := ⟨K - 1, by omega⟩
      obtain ⟨has, hhas, hh⟩ := lHas_gev c hb hp (k := K) (by omega)
      rw [medlarlaw12_LayerCovers.j0, if_neg (by simp), hhas]; simp only [bnd]
      rw [sbs_len]
      exact lcovers_l0 hH hsc c (by omega) hp has (lys H sc l) cv lt (lys_may hH hl hu hsc) bn2 (cvr_fin cv hh) (lys H sc l).length 0 K (by omega) (by omega)
    · rw [if_neg cc] at d
      rw [d]; simp only [bnd]
      rw [if_neg (by omega), if_pos (by trivial)]; rfl
end Go.Proofs.Ytmffkfakcbopcaa.Pure
