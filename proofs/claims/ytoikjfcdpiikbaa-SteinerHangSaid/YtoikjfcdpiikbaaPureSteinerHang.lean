/- SteinerHang: for every height, list of at most thirty numbers, and number: what hangs has all leaves that are not in the set, each below one, and none that is; no condition. -/
import Derived.Test.YtoikjfcdpiikbaaZSteinerHang
import Derived.Test.YtoikjfcdpiikbaaMPx12
set_option linter.unusedVariables false
set_option linter.unusedSimpArgs false
set_option linter.unusedSectionVars false
namespace Go.Proofs.Ytoikjfcdpiikbaa.Pure
open Go.RowKit Go.Proofs.Ytoikjfcdpiikbaa.MP Go.Proofs.YtoikjfcdpiikbaaW.PrintWords Go.Proofs.YtoikjfcdpiikbaaW.PrintLast Go.Proofs.Ytoikjfcdpiikbaa.Med
/-- How many of a list are above a leaf; how wide they are. -/
def abv (H i : Nat) (t : List Nat) : Nat := (t.filter fun n => decide (lo H n ≤ i ∧ i ≤ hi H n)).length
def wid (H : Nat) (t : List Nat) : Nat := (t.map fun n => 2 ^ (H - n.log2)).sum
theorem hang_l {H : Nat} (hH : 1 ≤ H ∧ H ≤ 32) {l : List Nat} (hb : ∀ x ∈ l, x < 18446744073709551616) (c : Lst (H : Int) l) (n30 : l.length ≤ 30) (i : Nat) (has : Bool) (f : Int) (T : List Nat) (hT : T = hng H l) :
    ∀ (q t k a w : Nat), t + q = T.length → 3 * q + 60 ≤ k → T.length ≤ 4000 → w + wid H (T.drop t) = wid H T → a + abv H i (T.drop t) = abv H i T →
    medlarlaw09_SteinerHang.l0 k (H : Int) (ints l) (i : Int) true (ints T) (w : Int) (a : Int) has f (ints T) (T.length : Int) (t : Int) =
    some (if f = 0 then decide (abv H i T ≤ 1) && (((abv H i T : Int) == 1) == (!has)) else true) := by
  have hl := c.2.2.1
  have hu := c.2.2.2
  rw [Int.toNat_natCast] at hl
  have hpw := pow_le_h hH.2
  have wT : wid H T + l.length = 2 ^ H := by rw [hT]; exact hng_wide hl hu
  intro q
  induction q with
  | zero =>
    intro t k a w ht hk hn hw ha
    obtain ⟨k, rfl⟩ : ∃ m, k = m + 2 := ⟨k - 2, by omega⟩
    rw [List.drop_of_length_le (by omega)] at hw ha
    have hw' : w = wid H T := by simpa [wid] using hw
    have ha' : a = abv H i T := by simpa [abv] using ha
    subst hw' ha'
    have nl := nLeaves_eq (H : Int) root_lt (k := k)
    have nr : Nd H 1 := nd_root.2 hH
    rw [Int.toNat_natCast, if_pos nr] at nl
    have hi1 := hi_eq nr
    have lo1 : lo H 1 = 0 := by unfold lo lf; rw [log2_one]; simp
    have wd1 : wd H 1 = 2 ^ H := by unfold wd; rw [log2_one]; simp
    rw [medlarlaw09_SteinerHang.l0, if_neg (by omega), show (1 : Int) = ((1 : Nat) : Int) from rfl, nl]; simp only [bnd]
    rw [if_pos trivial, ints_len, wu64 (x := (l.length : Int)) (by omega) (by omega), wu64 (by omega) (by omega), wu64 (by omega) (by omega), if_pos (by omega), if_pos (by trivial)]
    by_cases f0 : f = 0
    · rw [if_pos f0, if_pos f0]
      by_cases a1 : abv H i T ≤ 1
      · rw [if_pos (by omega), decide_eq_true a1, Bool.true_and] <;> rfl
      · rw [if_neg (by omega), decide_eq_false a1] <;> rfl
    · rw [if_neg f0, if_neg f0]
  | succ q ih =>
    intro t k a w ht hk hn hw ha
    have htT : t < T.length := by omega
    have d1 : T.drop t = T[t] :: T.drop (t + 1) := List.drop_eq_getElem_cons htT
    have hnT : T[t] ∈ hng H l := by rw [← hT]; exact List.getElem_mem htT
    have uT : Up T := by rw [hT]; exact hng_up H l
    have nd0 := hng_nd hnT
    have nd : Nd H T[t] := ⟨hH.1, hH.2, nd0.1, nd0.2⟩
    have lt := nd.lt33
    have nl := fun k => nLeaves_eq (H : Int) (n := T[t]) (by omega) (k := k)
    simp only [Int.toNat_natCast, if_pos nd] at nl
    have hie := hi_eq nd
    have hil := hi_lt nd
    have wdp := wd_pos H T[t]
    have wsum : wid H T = w + (2 ^ (H - T[t].log2) + wid H (T.drop (t + 1))) := by
      rw [← hw, d1]; unfold wid; rw [List.map_cons, List.sum_cons]
    have ewd : wd H T[t] = 2 ^ (H - T[t].log2) := rfl
    have asum : abv H i T = a + ((if lo H T[t] ≤ i ∧ i ≤ hi H T[t] then 1 else 0) + abv H i (T.drop (t + 1))) := by
      rw [← ha, d1]; unfold abv; rw [List.filter_cons]
      split
      · rename_i z; rw [if_pos (by simpa using z)]; simp; omega
      · rename_i z; rw [if_neg (by simpa using z)]; simp
    have al : a ≤ 4000 := by
      have : abv H i T ≤ T.length := List.length_filter_le _ _
      omega
    have bl := fun k hk => lBelow_eq (H : Int) hb (show l.length < 4611686018427387904 by omega) (n := T[t]) (by omega) (k := k) hk
    have c2 : Lst (H : Int) l ∧ Nd H T[t] := ⟨c, nd⟩
    simp only [Int.toNat_natCast, if_pos c2] at bl
    rw [blw_nil.2 (hng_not hnT)] at bl
    obtain ⟨k, rfl⟩ : ∃ m, k = m + 3 := ⟨k - 3, by omega⟩
    have r := fun a' w' h1 h2 => ih (t + 1) k a' w' (by omega) (by omega) hn h1 h2
    have J2 : ∀ b : Bool, b = decide (lo H T[t] ≤ i ∧ i ≤ hi H T[t]) → medlarlaw09_SteinerHang.j2 (k + 1) (H : Int) (ints l) (i : Int) true (ints T) ((w + 2 ^ (H - T[t].log2) : Nat) : Int) (a : Int) has f (T[t] : Int) (ints T) (T.length : Int) (t : Int) b =
        some (if f = 0 then decide (abv H i T ≤ 1) && (((abv H i T : Int) == 1) == (!has)) else true) := by
      intro b eb
      rw [medlarlaw09_SteinerHang.j2]
      cases b with
      | true =>
        have z : lo H T[t] ≤ i ∧ i ≤ hi H T[t] := of_decide_eq_true eb.symm
        rw [if_pos z] at asum
        rw [if_pos rfl, bl k (by omega)]; simp only [bnd]
        rw [if_pos trivial, if_pos (by simp [ints]), w64 (x := (a : Int) + 1) (by omega) (by omega), w64 (x := (t : Int) + 1) (by omega) (by omega), show (t : Int) + 1 = ((t + 1 : Nat) : Int) by omega, show (a : Int) + 1 = ((a + 1 : Nat) : Int) by omega]
        exact r _ _ (by omega) (by omega)
      | false =>
        have z : ¬ (lo H T[t] ≤ i ∧ i ≤ hi H T[t]) := of_decide_eq_false eb.symm
        rw [if_neg z] at asum
        rw [if_neg (by simp), bl k (by omega)]; simp only [bnd]
        rw [if_pos trivial, if_pos (by simp [ints]), w64 (x := (t : Int) + 1) (by omega) (by omega), show (t : Int) + 1 = ((t + 1 : Nat) : Int) by omega]
        exact r _ _ (by omega) (by omega)
    have J1 : medlarlaw09_SteinerHang.j1 (k + 2) (H : Int) (ints l) (i : Int) true (ints T) (w : Int) (a : Int) has f (T[t] : Int) (ints T) (T.length : Int) (t : Int) false (lo H T[t] : Int) (hi H T[t] : Int) =
        some (if f = 0 then decide (abv H i T ≤ 1) && (((abv H i T : Int) == 1) == (!has)) else true) := by
      rw [medlarlaw09_SteinerHang.j1, if_neg (by simp)]
      have e1 : IntKind.u64.wrap ((w : Int) + IntKind.u64.wrap (IntKind.u64.wrap ((hi H T[t] : Int) - (lo H T[t] : Int)) + 1)) = ((w + 2 ^ (H - T[t].log2) : Nat) : Int) := by
        rw [wu64 (x := (hi H T[t] : Int) - _) (by omega) (by omega), wu64 (x := (hi H T[t] : Int) - _ + 1) (by omega) (by omega), wu64 (by omega) (by omega)]; omega
      rw [e1]
      by_cases z : lo H T[t] ≤ i
      · rw [if_pos (by omega)]
        exact J2 _ (by rw [decide_eq_decide]; omega)
      · rw [if_neg (by omega)]
        exact J2 false (by symm; rw [decide_eq_false_iff_not]; omega)
    rw [medlarlaw09_SteinerHang.l0, if_pos (by omega), if_pos (by omega), if_pos (by rw [ints_len]; omega), ints_rd htT, nl]; simp only [bnd]
    rw [if_pos trivial]
    by_cases t0 : t = 0
    · rw [if_neg (by omega)]; exact J1
    · have lt1 := List.pairwise_iff_getElem.1 uT (t - 1) t (by omega) htT (by omega)
      have et : (t : Int) - 1 = ((t - 1 : Nat) : Int) := by omega
      rw [if_pos (by omega), w64 (x := (t : Int) - 1) (by omega) (by omega), et, if_pos (by omega), if_pos (by rw [ints_len]; omega), ints_rd (show t - 1 < T.length by omega), decide_eq_false (by omega)]
      exact J1
theorem SteinerHang : medlarlaw09_SteinerHang.Pure := by
  intro h l p w0 w1 w2 w3 w4
  obtain ⟨l, rfl, hb⟩ := ints_of l w3
  obtain ⟨p, rfl, hp⟩ := wf_u64 w4
  refine ⟨200100, ?_⟩
  generalize hK : (200100 : Nat) = K
  unfold medlarlaw09_SteinerHang.f
  rw [live9 (by omega)]; simp only [bnd]
  rw [ints_len] at *
  by_cases l30 : (l.length : Int) > 30
  · rw [if_pos l30]
  · rw [if_neg l30, Hang_eq h hb (by omega) (by omega) (by omega)]; simp only [bnd]
    by_cases c : Lst h l
    · obtain ⟨hh, n1, hl, hu⟩ := c
      have c : Lst h l := ⟨hh, n1, hl, hu⟩
      rw [hi_iff] at hh
      obtain ⟨H, rfl⟩ := Int.eq_ofNat_of_zero_le (show 0 ≤ h by omega)
      simp only [Int.toNat_natCast] at *
      have hH : 1 ≤ H ∧ H ≤ 32 := by omega
      rw [if_pos c]; dsimp only
      rw [if_pos rfl, lHas_eq (H : Int) hb (by omega) hp (by omega)]; simp only [bnd]
      have hlen : (hng H l).length ≤ 4000 := by
        by_cases l0 : l = []
        · subst l0; simp [hng]
        · have t1 := (tree_len hl hu l0).1
          have tl := trs_len hl hu (H + 1) (Nat.le_refl _)
          have tm : (H + 1) * l.length ≤ 33 * 30 := Nat.mul_le_mul (by omega) (by omega)
          omega
      rw [ints_len]
      have main := hang_l hH hb c (by omega) p (if Lst (H : Int) l ∧ Lfi (H : Int) p then (decide (p ∈ l), (0 : Int)) else (false, 1)).1 (if Lst (H : Int) l ∧ Lfi (H : Int) p then (decide (p ∈ l), (0 : Int)) else (false, 1)).2 (hng H l) rfl (hng H l).length 0 K 0 0 (by omega) (by omega) hlen (by simp) (by simp)
      refine main.trans ?_
      by_cases lf : Lfi (H : Int) p
      · have cl : Lst (H : Int) l ∧ Lfi (H : Int) p := ⟨c, lf⟩
        have hp2 := lf.2
        rw [Int.toNat_natCast] at hp2
        rw [if_pos cl]; dsimp only
        rw [if_pos rfl]
        have ab : ∀ n ∈ hng H l, (lo H n ≤ p ∧ p ≤ hi H n ↔ Abv n (2 ^ H + p)) := fun n hn => by
          have nd := hng_nd hn
          exact (abv_lo_hi ⟨hH.1, hH.2, nd.1, nd.2⟩ hp2).symm
        by_cases m : p ∈ l
        · have : abv H p (hng H l) = 0 := by
            unfold abv
            rw [List.length_eq_zero_iff, List.filter_eq_nil_iff]
            intro n hn
            rw [decide_eq_true_iff, ab n hn]
            exact hng_none hl m hn
          rw [this]; simp [m]
        · obtain ⟨q, hq, z, u⟩ := hng_above hl hp2 m
          have a1 : 0 < abv H p (hng H l) := List.length_pos_of_mem (List.mem_filter.2 ⟨hq, decide_eq_true ((ab q hq).2 z)⟩)
          have a2 : abv H p (hng H l) ≤ 1 := by
            refine len_le_one ((hng_up H l).nodup.filter _) ?_
            intro x hx y hy
            rw [List.mem_filter, decide_eq_true_iff] at hx hy
            rw [u x hx.1 ((ab x hx.1).1 hx.2), u y hy.1 ((ab y hy.1).1 hy.2)]
          have : abv H p (hng H l) = 1 := by omega
          rw [this]; simp [m]
      · have cl : ¬ (Lst (H : Int) l ∧ Lfi (H : Int) p) := fun z => lf z.2
        rw [if_neg cl]; simp
    · rw [if_neg c]; simp
end Go.Proofs.Ytoikjfcdpiikbaa.Pure
