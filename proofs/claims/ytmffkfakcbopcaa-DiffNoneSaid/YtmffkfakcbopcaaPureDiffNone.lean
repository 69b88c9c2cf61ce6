/- DiffNone: for every height, and list of at most thirty numbers: each leaf of the set is in no subset of the cover by differences; J of each subset has just those leaves of the set below it that I has; no condition. -/
import Derived.Test.YtmffkfakcbopcaaZDiffNone
import Derived.Test.YtmffkfakcbopcaaMPx12
set_option linter.unusedVariables false
set_option linter.unusedSimpArgs false
set_option linter.unusedSectionVars false
namespace Go.Proofs.Ytmffkfakcbopcaa.Pure
open Go.RowKit Go.Proofs.Ytmffkfakcbopcaa.MP Go.Proofs.YtmffkfakcbopcaaW.PrintWords Go.Proofs.YtmffkfakcbopcaaW.PrintLast Go.Proofs.Ytmffkfakcbopcaa.Med
theorem none_l0 {H : Nat} (hH : 1 ≤ H ∧ H ≤ 32) {l : List Nat} (c : Lst (H : Int) l) (n30 : l.length ≤ 30) (S : List (Nat × Nat)) (hS : S = dfs H l) (hlen : S.length ≤ 2048) :
    ∀ (q t k : Nat), t + q = S.length → q * 40 + 100 ≤ k →
    medlarlaw11_DiffNone.l0 k (H : Int) (ints l) true (sbs S) (S.length : Int) (t : Int) = some true := by
  have hl := c.2.2.1
  have hu := c.2.2.2
  rw [Int.toNat_natCast] at hl
  have hp := pow_le_h hH.2
  have cv := dfs_cvr hH hl hu
  have hb : ∀ x ∈ l, x < 18446744073709551616 := fun x hx => by have := hl x hx; omega
  intro q
  induction q with
  | zero =>
    intro t k ht hk'
    obtain ⟨k, rfl⟩ : ∃ m, k = m + 1 := ⟨k - 1, by omega⟩
    rw [medlarlaw11_DiffNone.l0, if_neg (by omega)]
  | succ q ih =>
    intro t k ht hk'
    have htS : t < S.length := by omega
    have hq : S[t] ∈ dfs H l := by rw [← hS]; exact List.getElem_mem htS
    have sb := cv.sb _ hq
    have bd := sb_lt sb
    have no : ∀ p ∈ l, ¬ In H S[t].1 S[t].2 p := fun p hp => cv.no p hp _ hq
    have en := dfs_end hH hl hu hq
    generalize hs : S[t] = s at sb bd no en
    obtain ⟨s1, s2⟩ := s
    dsimp only at sb bd no en
    have inner : ∀ (r u m : Nat), u + r = l.length → q * 40 + 100 + 5 + r ≤ m →
        medlarlaw11_DiffNone.l1 m (H : Int) (ints l) true (sbs S) (S.length : Int) (t : Int) (ints l) (l.length : Int) (u : Int) (s1 : Int) (s2 : Int) = some true := by
      intro r
      induction r with
      | zero =>
        intro u m hu' hm
        obtain ⟨m, rfl⟩ : ∃ j, m = j + 1 := ⟨m - 1, by omega⟩
        have nx := ih (t + 1) m (by omega) (by omega)
        rw [medlarlaw11_DiffNone.l1, if_neg (by omega), w64 (by omega) (by omega), show (t : Int) + 1 = ((t + 1 : Nat) : Int) by omega]
        rcases en with ⟨z, l0, e1⟩ | ⟨z, n1, n2, le, lz⟩
        · rw [if_pos (by omega), ints_len, if_neg (by rw [l0]; simp), if_pos (by omega), nx]
        · have b1 := lBelow_eq (H : Int) hb (by omega) (n := s1) (by omega) (k := m) (by omega)
          have b2 := lBelow_eq (H : Int) hb (by omega) (n := s2) (by omega) (k := m) (by omega)
          rw [Int.toNat_natCast, if_pos ⟨c, n1⟩] at b1
          rw [Int.toNat_natCast, if_pos ⟨c, n2⟩] at b2
          rw [if_neg (by omega), b1]; simp only [bnd]
          rw [b2]; simp only [bnd]
          rw [if_pos (by trivial), if_pos (by trivial), ints_len, ints_len, if_pos (by omega), if_neg (by omega), nx]
      | succ r ihr =>
        intro u m hu' hm
        obtain ⟨m, rfl⟩ : ∃ j, m = j + 1 := ⟨m - 1, by omega⟩
        have huL : u < l.length := by omega
        have hul := List.getElem_mem huL
        have hh := sHas_eq (H : Int) (i := s1) (j := s2) (p := l[u]) (by omega) (by omega) (hb _ hul) (k := m) (by omega)
        have cc : Sb H s1 s2 ∧ Lfi (H : Int) l[u] := ⟨sb, by rw [lfi_iff]; exact ⟨by rw [hi_iff]; omega, by rw [Int.toNat_natCast]; exact hl _ hul⟩⟩
        rw [Int.toNat_natCast, if_pos cc, decide_eq_false (no _ hul)] at hh
        rw [medlarlaw11_DiffNone.l1, if_pos (by omega), if_pos (by omega), if_pos (by rw [ints_len]; omega), ints_rd huL, hh]; simp only [bnd]
        rw [if_pos (by trivial), if_neg (by simp), w64 (by omega) (by omega), show (u : Int) + 1 = ((u + 1 : Nat) : Int) by omega]
        exact ihr (u + 1) m (by omega) (by omega)
    obtain ⟨k, rfl⟩ : ∃ m, k = m + 1 := ⟨k - 1, by omega⟩
    rw [medlarlaw11_DiffNone.l0, if_pos (by omega), if_pos (by omega), if_pos (by rw [sbs_len]; omega), rdT_sbs htS, hs, ints_len]
    exact inner l.length 0 k (by omega) (by omega)
theorem DiffNone : medlarlaw11_DiffNone.Pure := by
  intro h l w0 w1 w2 w3
  obtain ⟨l, rfl, hb⟩ := ints_of l w3
  obtain ⟨C, hC⟩ : ∃ C : Nat, C = 2048 := ⟨_, rfl⟩
  refine ⟨C * 40 + 1000, ?_⟩
  generalize hK : C * 40 + 1000 = K
  unfold medlarlaw11_DiffNone.f
  rw [live11 (by omega)]; simp only [bnd]
  rw [ints_len] at *
  by_cases l30 : (l.length : Int) > 30
  · rw [if_pos l30]
  · have d := DCover_eq h hb (by omega) (k := K) (by omega)
    rw [if_neg l30, d]; simp only [bnd]
    by_cases c : Lst h l
    · obtain ⟨H, rfl⟩ : ∃ H : Nat, h = (H : Int) := ⟨h.toNat, by have := c.1; rw [hi_iff] at this; omega⟩
      have hH : 1 ≤ H ∧ H ≤ 32 := by have := c.1; rw [hi_iff] at this; omega
      have ln := dif_len_le c
      have ln2 := dfs_len H l
      rw [if_pos c, Int.toNat_natCast]; dsimp only
      rw [if_pos (by trivial), sbs_len]
      exact none_l0 hH c (by omega) (dfs H l) rfl (by omega) (dfs H l).length 0 K (by omega) (by omega)
    · rw [if_neg c]; dsimp only
      rw [if_neg (by omega)]
end Go.Proofs.Ytmffkfakcbopcaa.Pure
