/- WholeCovers: for every height, list of at most thirty numbers, and leaf: each leaf that is not in the set is in just one subset of the cover, none of the set is in any; no two touch, there are no more than the bound, and together they are as wide as the gaps; no condition. -/
import Derived.Test.YtoikjfcdpiikbaaZWholeCovers
import Derived.Test.YtoikjfcdpiikbaaMPx32
set_option linter.unusedVariables false
set_option linter.unusedSimpArgs false
set_option linter.unusedSectionVars false
namespace Go.Proofs.Ytoikjfcdpiikbaa.Pure
open Go.RowKit Go.Proofs.Ytoikjfcdpiikbaa.MP Go.Proofs.YtoikjfcdpiikbaaW.PrintWords Go.Proofs.YtoikjfcdpiikbaaW.PrintLast Go.Proofs.Ytoikjfcdpiikbaa.Med
def hs (h : Int) (p n : Nat) : Bool := if Lfi h p then decide (In h.toNat n 0 p) else false
def ge (h : Int) (p : Nat) : Int := if Lfi h p then 0 else 1
def sp1 (H n : Nat) : Nat × Nat := (lo H n, hi H n)
def wds (H : Nat) (t : List Nat) : Nat := (t.map fun n => wd H n).sum
theorem covers_l2 {H : Nat} (hH : 1 ≤ H ∧ H ≤ 32) {l : List Nat} (c : Lst (H : Int) l) (n30 : l.length ≤ 30) (T : List Nat) (hT : T = hng H l) (hlen : T.length ≤ 40000) :
    ∀ (q t k w : Nat), t + q = T.length → q + 60 ≤ k → w + wds H (T.drop t) = 2 ^ H - l.length →
    medlarlaw10_WholeCovers.l2 k (H : Int) (ints l) true (w : Int) (sps (T.map (sp1 H))) (T.length : Int) (t : Int) = some true := by
  have hp := pow_le_h hH.2
  intro q
  induction q with
  | zero =>
    intro t k w ht hk hw
    obtain ⟨k, rfl⟩ : ∃ m, k = m + 1 := ⟨k - 1, by omega⟩
    rw [List.drop_of_length_le (by omega)] at hw
    have hw' : w = 2 ^ H - l.length := by simpa [wds] using hw
    have gm := GapsMany_eq c (k := k) (by omega)
    rw [Int.toNat_natCast] at gm
    rw [medlarlaw10_WholeCovers.l2, if_neg (by omega), Gaps_eq c (by omega)]; simp only [bnd, Int.toNat_natCast]
    rw [gm]; simp only [bnd]
    rw [hw']; simp
  | succ q ih =>
    intro t k w ht hk hw
    obtain ⟨k, rfl⟩ : ∃ m, k = m + 1 := ⟨k - 1, by omega⟩
    have htT : t < T.length := by omega
    have hnT : T[t] ∈ hng H l := by rw [← hT]; exact List.getElem_mem htT
    have nd0 := hng_nd hnT
    have nd : Nd H T[t] := ⟨hH.1, hH.2, nd0.1, nd0.2⟩
    have hie := hi_eq nd
    have hil := hi_lt nd
    have wp := wd_pos H T[t]
    have d1 : T.drop t = T[t] :: T.drop (t + 1) := List.drop_eq_getElem_cons htT
    have hw2 : wds H (T.drop t) = wd H T[t] + wds H (T.drop (t + 1)) := by rw [d1]; unfold wds; rw [List.map_cons, List.sum_cons]
    have rdt : rd_T34 (sps (T.map (sp1 H))) (t : Int) = ⟨(lo H T[t] : Int), (hi H T[t] : Int)⟩ := by
      rw [rdT_sps (show t < (T.map (sp1 H)).length by simpa using htT)]; simp [sp1]
    rw [medlarlaw10_WholeCovers.l2, if_pos (by omega), if_pos (by omega), if_pos (by rw [sps_len, List.length_map]; omega), rdt]
    dsimp only
    have e1 : IntKind.u64.wrap ((w : Int) + IntKind.u64.wrap (IntKind.u64.wrap ((hi H T[t] : Int) - (lo H T[t] : Int)) + 1)) = ((w + wd H T[t] : Nat) : Int) := by
      rw [wu64 (x := (hi H T[t] : Int) - _) (by omega) (by omega), wu64 (x := (hi H T[t] : Int) - _ + 1) (by omega) (by omega), wu64 (by omega) (by omega)]; omega
    rw [e1, w64 (by omega) (by omega), show (t : Int) + 1 = ((t + 1 : Nat) : Int) by omega]
    exact ih (t + 1) k _ (by omega) (by omega) (by omega)
theorem covers_l0 {H : Nat} (hH : 1 ≤ H ∧ H ≤ 32) {l : List Nat} (c : Lst (H : Int) l) (n30 : l.length ≤ 30) {p : Nat} (hp : p < 18446744073709551616) (has : Bool) (T : List Nat) (hT : T = hng H l) (hlen : T.length ≤ 40000)
    (hfin : (if ge (H : Int) p = 0 then ((((T.filter (hs (H : Int) p)).length : Int) == 1) != (!has)) else false) = false ∧ (T.filter (hs (H : Int) p)).length ≤ 1) :
    ∀ (q t k : Nat), t + q = T.length → q * (T.length + 4) + T.length + 70 ≤ k →
    medlarlaw10_WholeCovers.l0 k (H : Int) (ints l) (p : Int) true (sbs (whl T)) (((T.take t).filter (hs (H : Int) p)).length : Int) has (ge (H : Int) p) (sps ((T.take t).map (sp1 H))) (sbs (whl T)) (T.length : Int) (t : Int) = some true := by
  have hl := c.2.2.1
  have hu := c.2.2.2
  rw [Int.toNat_natCast] at hl
  have cv := whl_cvr hH hl hu
  have hpw := pow_le_h hH.2
  have ndT : ∀ n ∈ T, Nd H n := fun n hn => by rw [hT] at hn; have := hng_nd hn; exact ⟨hH.1, hH.2, this.1, this.2⟩
  intro q
  induction q with
  | zero =>
    intro t k ht hk
    obtain ⟨k, rfl⟩ : ∃ m, k = m + 2 := ⟨k - 2, by omega⟩
    have wt : wds H T = 2 ^ H - l.length := by
      have := hng_wide hl hu
      rw [← hT] at this
      unfold wds wd; omega
    have L2 := covers_l2 hH c n30 T hT hlen T.length 0 k 0 (by omega) (by omega) (by rw [List.drop_zero]; omega)
    have J4 : ∀ b : Bool, b = false → medlarlaw10_WholeCovers.j4 (k + 1) (H : Int) (ints l) true (sps (T.map (sp1 H))) b = some true := by
      intro b hb
      rw [medlarlaw10_WholeCovers.j4, hb, if_neg (by simp), sps_len, List.length_map]
      exact L2
    have f1 := hfin.1
    have f2 := hfin.2
    rw [medlarlaw10_WholeCovers.l0, if_neg (by omega), List.take_of_length_le (by omega)]
    by_cases g0 : ge (H : Int) p = 0
    · rw [if_pos g0] at f1
      rw [if_pos g0, f1, if_neg (by simp)]
      exact J4 _ (by rw [decide_eq_false_iff_not]; omega)
    · rw [if_neg g0]
      exact J4 _ (by rw [decide_eq_false_iff_not]; omega)
  | succ q ih =>
    intro t k ht hk
    have eq1 : (q + 1) * (T.length + 4) = q * (T.length + 4) + (T.length + 4) := by rw [Nat.add_mul, Nat.one_mul]
    have htT : t < T.length := by omega
    have hnT : T[t] ∈ T := List.getElem_mem htT
    have nd := ndT _ hnT
    have lt := nd.lt33
    have sbn : Sb H T[t] 0 := ⟨nd, .inl rfl⟩
    have uT : Up T := by rw [hT]; exact hng_up H l
    have rdt : ∀ (j : Nat) (hj : j < T.length), rd_T43 (sbs (whl T)) (j : Int) = ⟨(T[j] : Int), 0⟩ := by
      intro j hj
      rw [rdT_sbs (l := whl T) (by rw [whl_len]; exact hj)]; simp [whl]
    have tkT : T.take (t + 1) = T.take t ++ [T[t]] := by rw [List.take_succ_eq_append_getElem htT]
    have inner : ∀ (r j m : Nat), j + r = t → q * (T.length + 4) + T.length + 70 + r + 2 ≤ m → ∀ cn : Nat, cn = ((T.take (t + 1)).filter (hs (H : Int) p)).length →
        medlarlaw10_WholeCovers.l1 m (H : Int) (ints l) (p : Int) true (sbs (whl T)) (cn : Int) has (ge (H : Int) p) (sps ((T.take t).map (sp1 H))) (sbs (whl T)) (T.length : Int) (t : Int) (sbs (whl (T.take t))) (t : Int) (j : Int) (T[t] : Int) 0 = some true := by
      intro r
      induction r with
      | zero =>
        intro j m hj hm cn hcn
        obtain ⟨m, rfl⟩ : ∃ j, m = j + 1 := ⟨m - 1, by omega⟩
        have sl := sLeaves_eq (H : Int) (i := T[t]) (j := 0) (by omega) (by omega) (m - 1)
        rw [show m - 1 + 1 = m by omega, Int.toNat_natCast, if_pos sbn, spn0, show ((0 : Nat) : Int) = 0 from rfl] at sl
        rw [medlarlaw10_WholeCovers.l1, if_neg (by omega), sl]; simp only [bnd]
        rw [if_pos (by trivial), if_pos (by simp [sps]), if_pos (by trivial), if_pos (by simp [sps]; omega), w64 (by omega) (by omega), show (t : Int) + 1 = ((t + 1 : Nat) : Int) by omega]
        have es : sps ((T.take t).map (sp1 H)) ++ sps [(lo H T[t], hi H T[t])] = sps ((T.take (t + 1)).map (sp1 H)) := by
          rw [tkT, List.map_append]; unfold sps; rw [List.map_append]; rfl
        rw [es, hcn]
        exact ih (t + 1) m (by omega) (by omega)
      | succ r ihr =>
        intro j m hj hm cn hcn
        obtain ⟨m, rfl⟩ : ∃ j, m = j + 1 := ⟨m - 1, by omega⟩
        have hjT : j < T.length := by omega
        have nj := ndT _ (List.getElem_mem hjT)
        have ltj := nj.lt33
        have sbj : Sb H T[j] 0 := ⟨nj, .inl rfl⟩
        have rj : rd_T43 (sbs (whl (T.take t))) (j : Int) = ⟨(T[j] : Int), 0⟩ := by
          rw [rdT_sbs (l := whl (T.take t)) (by rw [whl_len, List.length_take]; omega)]; simp [whl]
        have two : Sb H T[t] 0 ∧ Sb H T[j] 0 := ⟨sbn, sbj⟩
        have te := Touch_eq (H : Int) (i := T[t]) (j := 0) (a := T[j]) (b := 0) (by omega) (by omega) (by omega) (by omega) (k := m) (by omega)
        rw [Int.toNat_natCast, if_pos two, show ((0 : Nat) : Int) = 0 from rfl] at te
        have nt : tch (spn H T[t] 0) (spn H T[j] 0) = false := by
          rw [Bool.eq_false_iff, ne_eq, tch_spn sbn sbj]
          rintro ⟨x, h1, h2⟩
          have hx := in_le (q := (T[t], 0)) sbn h1
          have m1 : (T[t], 0) ∈ whl (hng H l) := by rw [← hT]; exact List.mem_map.2 ⟨_, hnT, rfl⟩
          have m2 : (T[j], 0) ∈ whl (hng H l) := by rw [← hT]; exact List.mem_map.2 ⟨_, List.getElem_mem hjT, rfl⟩
          have := cv.dis _ m1 _ m2 x hx h1 h2
          have e : T[t] = T[j] := by injection this
          have := List.pairwise_iff_getElem.1 uT j t hjT htT (by omega)
          omega
        rw [medlarlaw10_WholeCovers.l1, if_pos (by omega), if_pos (by omega), if_pos (by rw [sbs_len, whl_len, List.length_take]; omega), rj]
        dsimp only
        rw [te, nt]; simp only [bnd]
        rw [if_pos (by trivial), if_neg (by simp), w64 (by omega) (by omega), show (j : Int) + 1 = ((j + 1 : Nat) : Int) by omega]
        exact ihr (j + 1) m (by omega) (by omega) cn hcn
    obtain ⟨k, rfl⟩ : ∃ m, k = m + 2 := ⟨k - 2, by omega⟩
    have J2 : ∀ cn : Nat, cn = ((T.take (t + 1)).filter (hs (H : Int) p)).length → medlarlaw10_WholeCovers.j2 (k + 1) (H : Int) (ints l) (p : Int) true (sbs (whl T)) (cn : Int) has (ge (H : Int) p) (sps ((T.take t).map (sp1 H))) (t : Int) (sbs (whl T)) (T.length : Int) (t : Int) (T[t] : Int) 0 = some true := by
      intro cn hcn
      have et : (sbs (whl T)).take t = sbs (whl (T.take t)) := by simp [sbs, whl]
      rw [medlarlaw10_WholeCovers.j2, if_pos (by omega), if_pos (by rw [sbs_len, whl_len]; omega)]; simp only [bnd]
      rw [Int.toNat_natCast, et, sbs_len, whl_len, List.length_take, show min t T.length = t by omega]
      exact inner t 0 k (by omega) (by omega) cn hcn
    have cl : ((T.take t).filter (hs (H : Int) p)).length ≤ 40000 := by
      have := List.length_filter_le (hs (H : Int) p) (T.take t)
      rw [List.length_take] at this; omega
    have he := sHas_eq (H : Int) (i := T[t]) (j := 0) (p := p) (by omega) (by omega) hp (k := k + 1) (by omega)
    rw [Int.toNat_natCast, show ((0 : Nat) : Int) = 0 from rfl] at he
    have ev : (if Sb H T[t] 0 ∧ Lfi (H : Int) p then (decide (In H T[t] 0 p), (0 : Int)) else (false, 1)) = (hs (H : Int) p T[t], ge (H : Int) p) := by
      unfold hs ge
      by_cases z : Lfi (H : Int) p
      · simp [z, sbn]
      · simp [z]
    rw [ev] at he
    rw [medlarlaw10_WholeCovers.l0, if_pos (by omega), if_pos (by omega), if_pos (by rw [sbs_len, whl_len]; omega), rdt t htT]
    dsimp only
    rw [he]; simp only [bnd]
    rw [if_pos (by trivial)]
    have fl : ((T.take (t + 1)).filter (hs (H : Int) p)).length = ((T.take t).filter (hs (H : Int) p)).length + (if hs (H : Int) p T[t] = true then 1 else 0) := by
      rw [tkT, List.filter_append, List.length_append]
      congr 1
      by_cases z : hs (H : Int) p T[t] = true
      · rw [if_pos z]; simp [z]
      · rw [if_neg z]; simp [z]
    by_cases z : hs (H : Int) p T[t] = true
    · rw [if_pos z] at fl ⊢
      rw [w64 (by omega) (by omega), show (((T.take t).filter (hs (H : Int) p)).length : Int) + 1 = ((((T.take t).filter (hs (H : Int) p)).length + 1 : Nat) : Int) by omega]
      exact J2 _ fl.symm
    · rw [if_neg z] at fl ⊢
      exact J2 _ (by omega)
theorem WholeCovers : medlarlaw10_WholeCovers.Pure := by
  intro h l p w0 w1 w2 w3 w4
  obtain ⟨l, rfl, hb⟩ := ints_of l w3
  obtain ⟨p, rfl, hp⟩ := wf_u64 w4
  obtain ⟨C, hC⟩ : ∃ C : Nat, C = 2000 := ⟨_, rfl⟩
  refine ⟨C * (C + 4) + 200200, ?_⟩
  generalize hK : C * (C + 4) + 200200 = K
  have hK1 : 200200 ≤ K := by rw [← hK]; exact Nat.le_add_left _ _
  have hK2 : C * (C + 4) + 100000 ≤ K := by rw [← hK]; omega
  obtain ⟨K, rfl⟩ : ∃ j, K = j + 1 := ⟨K - 1, by omega⟩
  unfold medlarlaw10_WholeCovers.f
  rw [live10 (by omega)]; simp only [bnd]
  rw [ints_len] at *
  by_cases l30 : (l.length : Int) > 30
  · rw [if_pos l30]
  · rw [if_neg l30, WCover_eq h hb (by omega) (by omega) (by omega)]; simp only [bnd]
    by_cases c : Lst h l
    · obtain ⟨hh, n1, hl, hu⟩ := c
      have c : Lst h l := ⟨hh, n1, hl, hu⟩
      rw [hi_iff] at hh
      obtain ⟨H, rfl⟩ := Int.eq_ofNat_of_zero_le (show 0 ≤ h by omega)
      rw [Int.toNat_natCast] at *
      have hH : 1 ≤ H ∧ H ≤ 32 := by omega
      have hpw := pow_le_h hH.2
      have tlen : (hng H l).length ≤ 2000 := by
        by_cases l0 : l = []
        · subst l0; simp [hng]
        · have t1 := (tree_len hl hu l0).1
          have tl := trs_len hl hu (H + 1) (Nat.le_refl _)
          have tm : (H + 1) * l.length ≤ 33 * 30 := Nat.mul_le_mul (by omega) (by omega)
          omega
      have lle : l.length ≤ 2 ^ H := by
        have := hng_wide hl hu
        omega
      have bd : Bd (H : Int) (l.length : Int) := ⟨by rw [hi_iff]; omega, by omega, by omega, by rw [Int.toNat_natCast, Int.toNat_natCast]; exact lle⟩
      have hbn : (hng H l).length ≤ bdn H l.length := by
        by_cases l0 : l = []
        · subst l0; simp [hng, bdn]
        · have := (hng_bound hl hu l0).1
          unfold bdn
          rw [if_neg (fun z => l0 (List.length_eq_zero_iff.1 z))]; exact this
      have wb := WBound_eq (H : Int) (l.length : Int) (k := K + 1) (by omega)
      rw [if_pos bd, Int.toNat_natCast, Int.toNat_natCast] at wb
      have he := lHas_eq (H : Int) hb (show l.length < 4611686018427387904 by omega) hp (k := K) (by omega)
      -- in how many the leaf is
      have fin : ∀ has : Bool, (Lfi (H : Int) p → has = decide (p ∈ l)) → (if ge (H : Int) p = 0 then ((((hng H l).filter (hs (H : Int) p)).length : Int) == 1) != (!has) else false) = false ∧ ((hng H l).filter (hs (H : Int) p)).length ≤ 1 := by
        intro has hhas
        by_cases z : Lfi (H : Int) p
        · have hp2 := z.2
          rw [Int.toNat_natCast] at hp2
          have g : ge (H : Int) p = 0 := by unfold ge; rw [if_pos z]
          have cv := whl_cvr hH hl hu
          have cnt := cv.cnt hp2
          have e : inn H p (whl (hng H l)) = ((hng H l).filter (hs (H : Int) p)).length := by
            unfold inn whl
            rw [List.filter_map, List.length_map]
            congr 1
            refine List.filter_congr (fun n _ => ?_)
            unfold hs; rw [if_pos z]; rfl
          rw [e] at cnt
          rw [hhas z, if_pos g, cnt]
          by_cases m : p ∈ l
          · simp [m]
          · simp [m]
        · have g : ge (H : Int) p = 1 := by unfold ge; rw [if_neg z]
          have : (hng H l).filter (hs (H : Int) p) = [] := by
            rw [List.filter_eq_nil_iff]; intro n _; unfold hs; rw [if_neg z]; simp
          rw [this, g]; simp
      have J0 : medlarlaw10_WholeCovers.j0 (K + 1) (H : Int) (ints l) (p : Int) true (sbs (whl (hng H l))) false = some true := by
        have ev : (if Lst (H : Int) l ∧ Lfi (H : Int) p then (decide (p ∈ l), (0 : Int)) else (false, 1)) = (if Lfi (H : Int) p then decide (p ∈ l) else false, ge (H : Int) p) := by
          unfold ge
          by_cases z : Lfi (H : Int) p
          · simp [z, c]
          · simp [z]
        rw [ev] at he
        have hm : (hng H l).length * ((hng H l).length + 4) ≤ C * (C + 4) := Nat.mul_le_mul (by omega) (by omega)
        have main := covers_l0 hH c (by omega) hp (if Lfi (H : Int) p then decide (p ∈ l) else false) (hng H l) rfl (by omega) (fin _ (fun z => by rw [if_pos z])) (hng H l).length 0 K (by omega) (by omega)
        rw [medlarlaw10_WholeCovers.j0, if_neg (by simp), he]; simp only [bnd]
        rw [sbs_len, whl_len]
        exact main
      rw [if_pos c]; dsimp only
      rw [if_pos (by trivial), wb]; simp only [bnd]
      rw [if_pos (by trivial), sbs_len, whl_len, wu64 (by omega) (by omega), if_neg (by omega)]
      by_cases l0 : l = []
      · subst l0
        rw [if_pos (by rfl)]
        have : sbs (whl (hng H [])) = [(⟨1, 0⟩ : S43)] := by simp [hng, whl, sbs]
        rw [same8_eq _ _ (by rw [this]; simp) (by rw [this]; simp; omega), decide_eq_true this]; simp only [bnd]
        exact J0
      · have : l.length ≠ 0 := fun z => l0 (List.length_eq_zero_iff.1 z)
        rw [if_neg (by omega)]
        exact J0
    · rw [if_neg c]; simp
end Go.Proofs.Ytoikjfcdpiikbaa.Pure
