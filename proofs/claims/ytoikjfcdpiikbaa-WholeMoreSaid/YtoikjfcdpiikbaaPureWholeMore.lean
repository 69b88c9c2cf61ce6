/- WholeMore: for every height, list of at most thirty numbers, and leaf: with one leaf more in the set, the cover has all subsets that it had, but that one in which the leaf was; no condition. -/
import Derived.Test.YtoikjfcdpiikbaaZWholeMore
import Derived.Test.YtoikjfcdpiikbaaMPx35
set_option linter.unusedVariables false
set_option linter.unusedSimpArgs false
set_option linter.unusedSectionVars false
namespace Go.Proofs.Ytoikjfcdpiikbaa.Pure
open Go.RowKit Go.Proofs.Ytoikjfcdpiikbaa.MP Go.Proofs.YtoikjfcdpiikbaaW.PrintWords Go.Proofs.YtoikjfcdpiikbaaW.PrintLast Go.Proofs.Ytoikjfcdpiikbaa.Med
theorem rd_whl {T : List Nat} {t : Nat} (h : t < T.length) : rd_T43 (sbs (whl T)) (t : Int) = ⟨(T[t] : Int), 0⟩ := by
  rw [rdT_sbs (l := whl T) (by rw [whl_len]; exact h)]; simp [whl]
theorem more_l0 {H : Nat} (hH : 1 ≤ H ∧ H ≤ 32) {p : Nat} (hp : p < 18446744073709551616) (lp : Lfi (H : Int) p) (T U : List Nat) (ndT : ∀ n ∈ T, Nd H n) (hk : ∀ s ∈ T, s ∈ U ↔ ¬ In H s 0 p) (hT : T.length ≤ 40000) (hU : U.length ≤ 40000)
    (h1 : (T.filter fun n => decide (In H n 0 p)).length = 1) (b1 : T.length ≤ U.length + 1) (b2 : U.length + 1 ≤ T.length + H) :
    ∀ (q t k : Nat), t + q = T.length → q * (U.length + 4) + U.length + 10 ≤ k →
    medlarlaw10_WholeMore.l0 k (H : Int) (p : Int) true (sbs (whl T)) (sbs (whl U)) (((T.take t).filter fun n => decide (In H n 0 p)).length : Int) (sbs (whl T)) (T.length : Int) (t : Int) = some true := by
  intro q
  induction q with
  | zero =>
    intro t k ht hk'
    obtain ⟨k, rfl⟩ : ∃ m, k = m + 1 := ⟨k - 1, by omega⟩
    rw [medlarlaw10_WholeMore.l0, if_neg (by omega), if_pos rfl, List.take_of_length_le (by omega), if_pos (by omega), sbs_len, sbs_len, whl_len, whl_len, w64 (x := (T.length : Int) - 1) (by omega) (by omega), w64 (by omega) (by omega), if_pos (by omega), decide_eq_true (by omega)]
  | succ q ih =>
    intro t k ht hk'
    have eq1 : (q + 1) * (U.length + 4) = q * (U.length + 4) + (U.length + 4) := by rw [Nat.add_mul, Nat.one_mul]
    have htT : t < T.length := by omega
    have hnT : T[t] ∈ T := List.getElem_mem htT
    have nd := ndT _ hnT
    have lt := nd.lt33
    have sbn : Sb H T[t] 0 := ⟨nd, .inl rfl⟩
    have cl : ((T.take t).filter fun n => decide (In H n 0 p)).length ≤ 40000 := by
      have := List.length_filter_le (fun n => decide (In H n 0 p)) (T.take t)
      rw [List.length_take] at this; omega
    have fl : ((T.take (t + 1)).filter fun n => decide (In H n 0 p)).length = ((T.take t).filter fun n => decide (In H n 0 p)).length + (if In H T[t] 0 p then 1 else 0) := by
      rw [List.take_succ_eq_append_getElem htT, List.filter_append, List.length_append]
      congr 1
      by_cases z : In H T[t] 0 p
      · rw [if_pos z]; simp [z]
      · rw [if_neg z]; simp [z]
    have inner : ∀ (r u m : Nat), u + r = U.length → q * (U.length + 4) + U.length + 10 + r + 3 ≤ m → ∀ b : Bool, b = decide (T[t] ∈ U.take u) →
        medlarlaw10_WholeMore.l1 m (H : Int) (p : Int) true (sbs (whl T)) (sbs (whl U)) (((T.take t).filter fun n => decide (In H n 0 p)).length : Int) b (sbs (whl T)) (T.length : Int) (t : Int) (sbs (whl U)) (U.length : Int) (u : Int) (T[t] : Int) 0 = some true := by
      intro r
      induction r with
      | zero =>
        intro u m hu hm b hb
        obtain ⟨m, rfl⟩ : ∃ j, m = j + 2 := ⟨m - 2, by omega⟩
        have he := sHas_eq (H : Int) (i := T[t]) (j := 0) (p := p) (by omega) (by omega) hp (k := m + 1) (by omega)
        have cc : Sb H T[t] 0 ∧ Lfi (H : Int) p := ⟨sbn, lp⟩
        rw [Int.toNat_natCast, show ((0 : Nat) : Int) = 0 from rfl, if_pos cc] at he
        rw [List.take_of_length_le (by omega)] at hb
        have kk := hk _ hnT
        rw [medlarlaw10_WholeMore.l1, if_neg (by omega), he]; simp only [bnd]
        rw [if_pos (by trivial), hb]
        by_cases z : In H T[t] 0 p
        · have nU : T[t] ∉ U := fun y => kk.1 y z
          rw [if_pos z] at fl
          rw [decide_eq_true z, decide_eq_false nU, medlarlaw10_WholeMore.j3, if_neg (by simp), if_pos rfl, w64 (by omega) (by omega), w64 (by omega) (by omega), show (t : Int) + 1 = ((t + 1 : Nat) : Int) by omega]
          have := ih (t + 1) m (by omega) (by omega)
          rw [fl] at this
          exact this
        · have yU : T[t] ∈ U := kk.2 z
          rw [if_neg z] at fl
          rw [decide_eq_false z, decide_eq_true yU, medlarlaw10_WholeMore.j3, if_neg (by simp), if_neg (by simp), w64 (by omega) (by omega), show (t : Int) + 1 = ((t + 1 : Nat) : Int) by omega]
          have := ih (t + 1) m (by omega) (by omega)
          rw [fl] at this
          exact this
      | succ r ihr =>
        intro u m hu hm b hb
        obtain ⟨m, rfl⟩ : ∃ j, m = j + 1 := ⟨m - 1, by omega⟩
        have huU : u < U.length := by omega
        have tk : U.take (u + 1) = U.take u ++ [U[u]] := by rw [List.take_succ_eq_append_getElem huU]
        rw [medlarlaw10_WholeMore.l1, if_pos (by omega), if_pos (by omega), if_pos (by rw [sbs_len, whl_len]; omega), rd_whl huU]
        dsimp only
        rw [w64 (by omega) (by omega), show (u : Int) + 1 = ((u + 1 : Nat) : Int) by omega]
        by_cases y : T[t] ∈ U.take u
        · rw [decide_eq_true y] at hb
          rw [hb, if_pos rfl]
          exact ihr (u + 1) m (by omega) (by omega) true (decide_eq_true (by rw [tk]; exact List.mem_append.2 (.inl y))).symm
        · rw [decide_eq_false y] at hb
          rw [hb, if_neg (by simp)]
          refine ihr (u + 1) m (by omega) (by omega) _ ?_
          by_cases e : T[t] = U[u]
          · have z : T[t] ∈ U.take (u + 1) := by rw [tk]; exact List.mem_append.2 (.inr (by rw [e]; exact List.mem_singleton.2 rfl))
            rw [decide_eq_true z, e]; simp
          · have z : T[t] ∉ U.take (u + 1) := by
              rw [tk, List.mem_append, List.mem_singleton]
              rintro (z | z)
              · exact y z
              · exact e z
            have e' : ¬ ((T[t] : Int) = (U[u] : Int)) := by omega
            rw [decide_eq_false z, beq_false_of_ne e']; rfl
    obtain ⟨k, rfl⟩ : ∃ m, k = m + 1 := ⟨k - 1, by omega⟩
    rw [medlarlaw10_WholeMore.l0, if_pos (by omega), if_pos (by omega), if_pos (by rw [sbs_len, whl_len]; omega), rd_whl htT, sbs_len, whl_len]
    exact inner U.length 0 k (by omega) (by omega) false (by simp)
theorem WholeMore : medlarlaw10_WholeMore.Pure := by
  intro h l p w0 w1 w2 w3 w4
  obtain ⟨l, rfl, hb⟩ := ints_of l w3
  obtain ⟨p, rfl, hp⟩ := wf_u64 w4
  obtain ⟨C, hC⟩ : ∃ C : Nat, C = 2200 := ⟨_, rfl⟩
  refine ⟨C * (C + 4) + 200200, ?_⟩
  generalize hK : C * (C + 4) + 200200 = K
  have hK1 : 200200 ≤ K := by rw [← hK]; exact Nat.le_add_left _ _
  have hK2 : C * (C + 4) + 100000 ≤ K := by rw [← hK]; omega
  obtain ⟨K, rfl⟩ : ∃ j, K = j + 1 := ⟨K - 1, by omega⟩
  unfold medlarlaw10_WholeMore.f
  rw [live10 (by omega)]; simp only [bnd]
  rw [ints_len] at *
  by_cases l30 : (l.length : Int) > 30
  · rw [if_pos l30]
  · rw [if_neg l30, WCover_eq h hb (by omega) (by omega) (by omega), With_eq h hb (by omega) hp (by omega)]; simp only [bnd]
    have bad : ∀ x y, medlarlaw10_WholeMore.j0 (K + 1) h (p : Int) true x y true = some true := by
      intro x y
      rw [medlarlaw10_WholeMore.j0, if_pos rfl]
    by_cases c : Lst h l
    · rw [if_pos c]; dsimp only
      rw [if_pos (by trivial)]
      by_cases lp : Lfi h p
      · have c3 : Lst h l ∧ Lfi h p := ⟨c, lp⟩
        rw [if_pos c3]
        by_cases m : p ∈ l
        · rw [if_pos m]; exact bad _ _
        · have l4 : l.length ≠ 1024 := by omega
          rw [if_neg m, if_neg l4]; dsimp only
          have ci := ins_lst c lp m l4
          have il := ins_len (l := l) (p := p)
          have pb : ∀ x ∈ ins l p, x < 18446744073709551616 := fun x hx => by
            rcases mem_ins.1 hx with y | rfl
            · exact hb x y
            · exact hp
          obtain ⟨hh, n1, hl, hu⟩ := c
          rw [hi_iff] at hh
          obtain ⟨H, rfl⟩ := Int.eq_ofNat_of_zero_le (show 0 ≤ h by omega)
          have c' : Lst (H : Int) l := ⟨by rw [hi_iff]; omega, n1, hl, hu⟩
          have hp2 := lp.2
          rw [Int.toNat_natCast] at *
          have hH : 1 ≤ H ∧ H ≤ 32 := by omega
          have tlen : ∀ {l : List Nat}, (∀ i ∈ l, i < 2 ^ H) → Up l → l.length ≤ 31 → (hng H l).length ≤ 2200 := by
            intro l hl hu h31
            by_cases l0 : l = []
            · subst l0; simp [hng]
            · have t1 := (tree_len hl hu l0).1
              have tl := trs_len hl hu (H + 1) (Nat.le_refl _)
              have tm : (H + 1) * l.length ≤ 33 * 31 := Nat.mul_le_mul (by omega) (by omega)
              omega
          have t1 := tlen hl hu (by omega)
          have t2 := tlen (l := ins l p) (fun i hi => by have := ci.2.2.1 i hi; rwa [Int.toNat_natCast] at this) ci.2.2.2 (by omega)
          obtain ⟨m1, m2, m3⟩ := hng_more hl hu (m := ins l p) (i := p) (fun j => mem_ins) hp2 m ci.2.2.2 il
          have cnt := (whl_cvr hH hl hu).cnt hp2
          rw [if_neg m] at cnt
          have e : inn H p (whl (hng H l)) = ((hng H l).filter fun n => decide (In H n 0 p)).length := by
            unfold inn whl
            rw [List.filter_map, List.length_map]
            rfl
          rw [e] at cnt
          have ndT : ∀ n ∈ hng H l, Nd H n := fun n hn => by have := hng_nd hn; exact ⟨hH.1, hH.2, this.1, this.2⟩
          have kp : ∀ s ∈ hng H l, s ∈ hng H (ins l p) ↔ ¬ In H s 0 p := by
            intro s hs
            rw [m1 s hs, in_abv ⟨ndT s hs, .inl rfl⟩ hp2]; simp
          have hm : (hng H l).length * ((hng H (ins l p)).length + 4) ≤ C * (C + 4) := Nat.mul_le_mul (by omega) (by omega)
          have main := more_l0 hH hp lp (hng H l) (hng H (ins l p)) ndT kp (by omega) (by omega) cnt m2 m3 (hng H l).length 0 K (by omega) (by omega)
          rw [medlarlaw10_WholeMore.j0, if_neg (by simp), WCover_eq (H : Int) pb (by omega) (by omega) (by omega)]; simp only [bnd]
          rw [if_pos ci, Int.toNat_natCast]; dsimp only
          rw [if_pos (by trivial), sbs_len, whl_len]
          exact main
      · have c3 : ¬ (Lst h l ∧ Lfi h p) := fun z => lp z.2
        rw [if_neg c3]; exact bad _ _
    · rw [if_neg c, if_neg (by omega)]; exact bad _ _
end Go.Proofs.Ytoikjfcdpiikbaa.Pure
