/- WholeBeside: for every height and every list of at most thirty numbers: beside what covers there is somebody who is not covered: no two subsets of the cover are both children of one node; no condition. -/
import Derived.Test.YtoikjfcdpiikbaaZWholeBeside
import Derived.Test.YtoikjfcdpiikbaaMPx14
set_option linter.unusedVariables false
set_option linter.unusedSimpArgs false
set_option linter.unusedSectionVars false
namespace Go.Proofs.Ytoikjfcdpiikbaa.Pure
open Go.RowKit Go.Proofs.Ytoikjfcdpiikbaa.MP Go.Proofs.YtoikjfcdpiikbaaW.PrintWords Go.Proofs.YtoikjfcdpiikbaaW.PrintLast Go.Proofs.Ytoikjfcdpiikbaa.Med
theorem hng_sib {H : Nat} {l : List Nat} (hl : ∀ i ∈ l, i < 2 ^ H) {n : Nat} (hn : n ∈ hng H l) (h1 : n ≠ 1) : l ≠ [] ∧ inT H l (sib n) = true ∧ 2 ≤ n := by
  have l0 : l ≠ [] := by
    rintro rfl
    simp [hng] at hn; exact h1 hn
  obtain ⟨a, b, c, d⟩ := (mem_hng l0).1 hn
  have lg := log2_half a
  have := (inT_child hl (show n / 2 ≠ 0 by omega) (by omega)).1 d
  refine ⟨l0, ?_, a⟩
  rw [sib_eq]
  split
  · rw [show 2 * (n / 2) = n by omega, c] at this
    simpa using this
  · rw [show 2 * (n / 2) + 1 = n by omega, show 2 * (n / 2) = n - 1 by omega, c] at this
    simpa using this
theorem beside_l {H : Nat} (hH : 1 ≤ H ∧ H ≤ 32) {l : List Nat} (hb : ∀ x ∈ l, x < 18446744073709551616) (c : Lst (H : Int) l) (n30 : l.length ≤ 30) (T : List Nat) (hT : T = hng H l) (hlen : T.length ≤ 40000) :
    ∀ (q t k : Nat), t + q = T.length → q + 60 ≤ k → medlarlaw10_WholeBeside.l0 k (H : Int) (ints l) true (sbs (whl T)) (sbs (whl T)) (T.length : Int) (t : Int) = some true := by
  have hl := c.2.2.1
  rw [Int.toNat_natCast] at hl
  intro q
  induction q with
  | zero =>
    intro t k ht hk
    obtain ⟨k, rfl⟩ : ∃ m, k = m + 1 := ⟨k - 1, by omega⟩
    rw [medlarlaw10_WholeBeside.l0, if_neg (by omega)]
  | succ q ih =>
    intro t k ht hk
    obtain ⟨k, rfl⟩ : ∃ m, k = m + 1 := ⟨k - 1, by omega⟩
    have htT : t < T.length := by omega
    have hnT : T[t] ∈ hng H l := by rw [← hT]; exact List.getElem_mem htT
    have rdt : rd_T43 (sbs (whl T)) (t : Int) = ⟨(T[t] : Int), 0⟩ := by
      have := rdT_sbs (l := whl T) (i := t) (by rw [whl_len]; exact htT)
      rw [this]; simp [whl]
    rw [medlarlaw10_WholeBeside.l0, if_pos (by omega), if_pos (by omega), if_pos (by rw [sbs_len, whl_len]; omega), rdt]
    dsimp only
    by_cases n1 : T[t] = 1
    · have l0 : l = [] := by
        apply Decidable.byContradiction
        intro z
        have := (mem_hng z).1 hnT
        omega
      subst l0
      rw [if_pos (by omega), if_pos rfl, hT, sbs_len, whl_len]
      simp [hng, ints]
    · obtain ⟨l0, sT, two⟩ := hng_sib hl hnT n1
      have nd0 := hng_nd hnT
      have nd : Nd H T[t] := ⟨hH.1, hH.2, nd0.1, nd0.2⟩
      have lt := nd.lt33
      have s1 := sib_pos two
      have s2 := sib_log2 two
      have nds : Nd H (sib T[t]) := ⟨hH.1, hH.2, by omega, by omega⟩
      have lts := nds.lt33
      have ex : Go.bits .xor .u64 (T[t] : Int) 1 = (sib T[t] : Int) := Go.bits_xor_u64_nat T[t] 1 (by omega) (by omega)
      have c2 : Lst (H : Int) l ∧ Nd H (sib T[t]) := ⟨c, nds⟩
      have bl := lBelow_eq (H : Int) hb (show l.length < 4611686018427387904 by omega) (n := sib T[t]) (by omega) (k := k) (by omega)
      rw [Int.toNat_natCast, if_pos c2] at bl
      have hp : 0 < (blw H l (sib T[t])).length := List.length_pos_iff.2 (blw_ne.2 sT)
      rw [if_neg (by omega), ex, bl]; simp only [bnd]
      rw [if_pos trivial, if_neg (by rw [ints_len]; omega), w64 (by omega) (by omega), show (t : Int) + 1 = ((t + 1 : Nat) : Int) by omega]
      exact ih (t + 1) k (by omega) (by omega)
theorem WholeBeside : medlarlaw10_WholeBeside.Pure := by
  intro h l w0 w1 w2 w3
  obtain ⟨l, rfl, hb⟩ := ints_of l w3
  refine ⟨200100, ?_⟩
  generalize hK : (200100 : Nat) = K
  unfold medlarlaw10_WholeBeside.f
  rw [live10 (by omega)]; simp only [bnd]
  rw [ints_len] at *
  by_cases l30 : (l.length : Int) > 30
  · rw [if_pos l30]
  · rw [if_neg l30, WCover_eq h hb (by omega) (by omega) (by omega)]; simp only [bnd]
    by_cases c : Lst h l
    · have hh := c.1
      rw [hi_iff] at hh
      obtain ⟨H, rfl⟩ := Int.eq_ofNat_of_zero_le (show 0 ≤ h by omega)
      have hlen := hng_len_le (H := H) (l := l) (by omega) (by have := c.2.2.1; rwa [Int.toNat_natCast] at this) c.2.2.2 c.2.1
      rw [if_pos c]; dsimp only
      rw [if_pos rfl, Int.toNat_natCast, sbs_len, whl_len]
      exact beside_l (by omega) hb c (by omega) _ rfl hlen (hng H l).length 0 K (by omega) (by omega)
    · rw [if_neg c]; simp
end Go.Proofs.Ytoikjfcdpiikbaa.Pure
