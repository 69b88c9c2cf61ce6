/- LayerParts: for every height, and list of at most thirty numbers: of a set's cover useful subsets are at most twice as many as differences, no fewer, and each has its first leaf in just one of these; they are the differences just where all these are useful; no condition. -/
import Derived.Test.YtmffkfakcbopcaaZLayerParts
import Derived.Test.YtmffkfakcbopcaaMPx30
set_option linter.unusedVariables false
set_option linter.unusedSimpArgs false
set_option linter.unusedSectionVars false
namespace Go.Proofs.Ytmffkfakcbopcaa.Pure
open Go.RowKit Go.Proofs.Ytmffkfakcbopcaa.MP Go.Proofs.YtmffkfakcbopcaaW.PrintWords Go.Proofs.YtmffkfakcbopcaaW.PrintLast Go.Proofs.Ytmffkfakcbopcaa.Med
def allu (H : Nat) (S : List (Nat × Nat)) : Bool := S.all fun q => decide (Usf H q.1 q.2)
theorem inn_step (H p : Nat) {S : List (Nat × Nat)} {t : Nat} (ht : t < S.length) : inn H p (S.take (t + 1)) = inn H p (S.take t) + (if In H S[t].1 S[t].2 p then 1 else 0) := by
  unfold inn
  rw [List.take_succ_eq_append_getElem ht, List.filter_append, List.length_append]
  congr 1
  by_cases z : In H S[t].1 S[t].2 p
  · rw [if_pos z]; simp [z]
  · rw [if_neg z]; simp [z]
/-- The first leaf. -/
theorem spn_fst {H s1 s2 : Nat} (sb : Sb H s1 s2) : ∃ a b t, spn H s1 s2 = (a, b) :: t ∧ a < 2 ^ H ∧ In H s1 s2 a := by
  obtain ⟨x, t, e⟩ := List.exists_cons_of_ne_nil (spn_ne sb)
  have r := spn_rise sb
  rw [e] at r
  have hx := (r.at (i := 0) (by simp)).1
  simp only [List.getElem_cons_zero] at hx
  have i1 : In H s1 s2 x.1 := (mem_spn sb x.1).1 ⟨x, by rw [e]; simp, Nat.le_refl _, hx⟩
  exact ⟨x.1, x.2, t, e, in_le (q := (s1, s2)) sb i1, i1⟩
theorem parts_l1 {H : Nat} (hH : 1 ≤ H ∧ H ≤ 32) {l : List Nat} (D U : List (Nat × Nat)) (cD : Cvr H l D) (cU : Cvr H l U) (lD : D.length ≤ 2048) (lU : U.length ≤ 4096) (all : Bool) (hall : all = decide (U = D)) (C G : Nat) (hC : 2100 ≤ C) (hG : 4300 ≤ G) :
    ∀ (q t k : Nat), t + q = U.length → q * C + G ≤ k →
    medlarlaw12_LayerParts.l1 k (H : Int) true (sbs D) (sbs U) all (sbs U) (U.length : Int) (t : Int) = some true := by
  have hpw := pow_le_h hH.2
  intro q
  induction q with
  | zero =>
    intro t k ht hk
    obtain ⟨k, rfl⟩ : ∃ m, k = m + 1 := ⟨k - 1, by omega⟩
    have inj : sbs U = sbs D ↔ U = D := by
      constructor
      · intro e
        unfold sbs at e
        refine List.map_inj_right (f := fun p : Nat × Nat => (⟨(p.1 : Int), (p.2 : Int)⟩ : S34)) ?_ |>.1 e
        rintro ⟨a, b⟩ ⟨c, d⟩ z
        simp only [S34.mk.injEq] at z
        exact Prod.ext (by simp only; omega) (by simp only; omega)
      · intro e; rw [e]
    rw [medlarlaw12_LayerParts.l1, if_neg (by omega), if_pos rfl, same8_eq _ _ (by rw [sbs_len]; omega) (by rw [sbs_len]; omega)]; simp only [bnd]
    rw [hall]
    congr 1
    rw [beq_iff_eq]
    by_cases z : U = D
    · rw [decide_eq_true z, decide_eq_true (inj.2 z)]
    · rw [decide_eq_false z, decide_eq_false (fun y => z (inj.1 y))]
  | succ q ih =>
    intro t k ht hk
    have eqC : (q + 1) * C = q * C + C := by rw [Nat.add_mul, Nat.one_mul]
    have htU : t < U.length := by omega
    have hq := List.getElem_mem htU
    have sb := cU.sb _ hq
    have bd := sb_lt sb
    have no : ∀ p ∈ l, ¬ In H U[t].1 U[t].2 p := fun p hp => cU.no p hp _ hq
    have rdt := rdT_sbs htU
    generalize U[t] = s at sb bd no rdt
    obtain ⟨s1, s2⟩ := s
    dsimp only at sb bd no rdt
    obtain ⟨a, b, r, e, ha, hi1⟩ := spn_fst sb
    have one : inn H a D = 1 := by
      rw [cD.cnt ha, if_neg]
      intro m; exact no a m hi1
    have la : Lfi (H : Int) a := by rw [lfi_iff]; exact ⟨by rw [hi_iff]; omega, by rw [Int.toNat_natCast]; exact ha⟩
    have sl2 := spn_len H s1 s2
    have inner : ∀ (r u m : Nat), u + r = D.length → q * C + G + 5 + r ≤ m →
        medlarlaw12_LayerParts.l2 m (H : Int) true (sbs D) (sbs U) all (sps (spn H s1 s2)) (inn H a (D.take u) : Int) (sbs U) (U.length : Int) (t : Int) (sbs D) (D.length : Int) (u : Int) = some true := by
      intro r
      induction r with
      | zero =>
        intro u m hu hm
        obtain ⟨m, rfl⟩ : ∃ j, m = j + 1 := ⟨m - 1, by omega⟩
        rw [List.take_of_length_le (by omega), one, medlarlaw12_LayerParts.l2, if_neg (by omega), if_pos (by omega), w64 (by omega) (by omega), show (t : Int) + 1 = ((t + 1 : Nat) : Int) by omega]
        exact ih (t + 1) m (by omega) (by omega)
      | succ r ihr =>
        intro u m hu hm
        obtain ⟨m, rfl⟩ : ∃ j, m = j + 1 := ⟨m - 1, by omega⟩
        have huD : u < D.length := by omega
        have sd := cD.sb _ (List.getElem_mem huD)
        have bdd := sb_lt sd
        have stp := inn_step H a huD
        have ru := rdT_sbs huD
        have hle : inn H a (D.take u) ≤ 2048 := by
          unfold inn
          have := List.length_filter_le (fun q => decide (In H q.1 q.2 a)) (D.take u)
          rw [List.length_take] at this; omega
        generalize D[u] = d at sd bdd stp ru
        obtain ⟨d1, d2⟩ := d
        dsimp only at sd bdd stp ru
        have hh := sHas_eq (H : Int) (i := d1) (j := d2) (p := a) (by omega) (by omega) (by omega) (k := m) (by omega)
        rw [Int.toNat_natCast, if_pos ⟨sd, la⟩] at hh
        have sp : rd_T52 (sps (spn H s1 s2)) 0 = ⟨(a : Int), (b : Int)⟩ := by rw [e]; rfl
        have nx := ihr (u + 1) m (by omega) (by omega)
        rw [medlarlaw12_LayerParts.l2, if_pos (by omega), if_pos (by omega), if_pos (by rw [sbs_len]; omega), if_pos (by rw [sps_len, e, List.length_cons]; omega), ru, sp]
        dsimp only
        rw [hh]; simp only [bnd]
        rw [if_pos (by trivial), w64 (x := (u : Int) + 1) (by omega) (by omega), show (u : Int) + 1 = ((u + 1 : Nat) : Int) by omega]
        by_cases z : In H d1 d2 a
        · rw [if_pos z] at stp
          rw [decide_eq_true z, if_pos rfl, w64 (by omega) (by omega), show (inn H a (D.take u) : Int) + 1 = ((inn H a (D.take (u + 1)) : Nat) : Int) by omega]
          exact nx
        · rw [if_neg z] at stp
          rw [decide_eq_false z, if_neg (by simp), show inn H a (D.take u) = inn H a (D.take (u + 1)) by omega]
          exact nx
    obtain ⟨k, rfl⟩ : ∃ m, k = m + 3 := ⟨k - 3, by omega⟩
    have lv := sLeaves_eq (H : Int) (i := s1) (j := s2) (by omega) (by omega) (k + 1)
    rw [Int.toNat_natCast, if_pos sb] at lv
    have nz : (((sps (spn H s1 s2)).length : Int) == 0) = false := by rw [sps_len, e, List.length_cons]; exact beq_false_of_ne (by omega)
    rw [medlarlaw12_LayerParts.l1, if_pos (by omega), if_pos (by omega), if_pos (by rw [sbs_len]; omega), rdt]
    dsimp only
    rw [lv]; simp only [bnd]
    rw [if_pos (by trivial), nz, medlarlaw12_LayerParts.j3, if_neg (by simp), sbs_len]
    exact inner D.length 0 (k + 1) (by omega) (by omega)
theorem parts_l0 {H : Nat} (D U : List (Nat × Nat)) (sD : ∀ q ∈ D, Sb H q.1 q.2) (lD : D.length ≤ 2048) (lU : U.length ≤ 4096) (F : Nat) (hF : 50 ≤ F) (hN : ∀ k, F ≤ k → medlarlaw12_LayerParts.l1 k (H : Int) true (sbs D) (sbs U) (allu H D) (sbs U) (U.length : Int) 0 = some true) :
    ∀ (q t k : Nat), t + q = D.length → q + F + 2 ≤ k →
    medlarlaw12_LayerParts.l0 k (H : Int) true (sbs D) (sbs U) (allu H (D.take t)) (sbs D) (D.length : Int) (t : Int) = some true := by
  intro q
  induction q with
  | zero =>
    intro t k ht hk
    obtain ⟨k, rfl⟩ : ∃ m, k = m + 1 := ⟨k - 1, by omega⟩
    rw [medlarlaw12_LayerParts.l0, if_neg (by omega), List.take_of_length_le (by omega), sbs_len]
    exact hN k (by omega)
  | succ q ih =>
    intro t k ht hk
    obtain ⟨k, rfl⟩ : ∃ m, k = m + 1 := ⟨k - 1, by omega⟩
    have htD : t < D.length := by omega
    have sb := sD _ (List.getElem_mem htD)
    have bd := sb_lt sb
    have us := Useful_eq (H : Int) bd.1 bd.2 (k := k) (by omega)
    rw [Int.toNat_natCast, if_pos sb] at us
    have stp : allu H (D.take (t + 1)) = (allu H (D.take t) && decide (Usf H D[t].1 D[t].2)) := by
      unfold allu; rw [List.take_succ_eq_append_getElem htD, List.all_append]; simp
    have nx := ih (t + 1) k (by omega) (by omega)
    rw [medlarlaw12_LayerParts.l0, if_pos (by omega), if_pos (by omega), if_pos (by rw [sbs_len]; omega), rdT_sbs htD]
    dsimp only
    rw [us]; simp only [bnd]
    rw [if_pos (by trivial), w64 (by omega) (by omega), show (t : Int) + 1 = ((t + 1 : Nat) : Int) by omega]
    rw [stp] at nx
    by_cases z : allu H (D.take t) = true
    · rw [if_pos z]
      rw [z, Bool.true_and] at nx
      exact nx
    · have z' : allu H (D.take t) = false := by rw [← Bool.not_eq_true]; exact z
      rw [if_neg z]
      rw [z', Bool.false_and] at nx
      exact nx
theorem LayerParts : medlarlaw12_LayerParts.Pure := by
  intro h l w0 w1 w2 w3
  obtain ⟨l, rfl, hb⟩ := ints_of l w3
  obtain ⟨C, hC⟩ : ∃ C : Nat, C = 2200 := ⟨_, rfl⟩
  obtain ⟨G, hG⟩ : ∃ G : Nat, G = 5000 := ⟨_, rfl⟩
  obtain ⟨E, hE⟩ : ∃ E : Nat, E = 4096 := ⟨_, rfl⟩
  refine ⟨E * C + 210000, ?_⟩
  generalize hK : E * C + 210000 = K
  have hK1 : 210000 ≤ K := by rw [← hK]; exact Nat.le_add_left _ _
  unfold medlarlaw12_LayerParts.f
  rw [live12 (by omega)]; simp only [bnd]
  rw [ints_len] at *
  by_cases l30 : (l.length : Int) > 30
  · rw [if_pos l30]
  · have d2 := LCover_eq h 2 hb (by omega) (k := K) (by omega) (by omega)
    have d3 := LCover_eq h 3 hb (by omega) (k := K) (by omega) (by omega)
    rw [if_neg l30]
    by_cases c : Lst h l
    · rw [if_pos ⟨by rw [sch_iff]; omega, c⟩] at d2 d3
      obtain ⟨H, rfl⟩ : ∃ H : Nat, h = (H : Int) := ⟨h.toNat, by have := c.1; rw [hi_iff] at this; omega⟩
      have hH : 1 ≤ H ∧ H ≤ 32 := by have := c.1; rw [hi_iff] at this; omega
      have hl := c.2.2.1
      have hu := c.2.2.2
      rw [Int.toNat_natCast] at hl d2 d3
      have e2 : lys H 2 l = dfs H l := by unfold lys; simp
      have e3 : lys H 3 l = srt (lay H (dfs H l)) := by unfold lys; simp
      rw [e2] at d2
      rw [e3] at d3
      have cD := dfs_cvr hH hl hu
      have lss := dfs_lss hH hl hu
      have cL := lay_cvr cD
      have cU := cL.perm (srt_perm (lay H (dfs H l))).symm
      have lD : (dfs H l).length ≤ 2048 := by rw [dfs_len]; exact dif_len_le c
      have ll := lay_len H (dfs H l)
      have lU : (srt (lay H (dfs H l))).length = (lay H (dfs H l)).length := (srt_perm _).length_eq
      -- just where all are useful
      have jall : allu H (dfs H l) = decide (srt (lay H (dfs H l)) = dfs H l) := by
        have zero : ∀ q ∈ dfs H l, q.2 = 0 → Usf H q.1 q.2 := fun q hq z => by
          rcases dfs_end hH hl hu hq with ⟨_, _, e⟩ | ⟨e, _⟩
          · rw [z, usf_0]; exact e
          · exact absurd z e
        rw [Bool.eq_iff_iff, decide_eq_true_iff]
        unfold allu
        rw [List.all_eq_true]
        constructor
        · intro g
          have g' : ∀ q ∈ dfs H l, Usf H q.1 q.2 ∨ q.2 = 0 := fun q hq => .inl (of_decide_eq_true (g q hq))
          rw [lay_same g']
          refine sort_unique (srt_perm _) (srt_sorted _) (lss.imp (fun z => ?_))
          rw [lle_iff]; exact .inr z
        · intro e q hq
          rw [decide_eq_true_iff]
          apply Classical.byContradiction
          intro nu
          have m := lay_more (h := H) (c := dfs H l) ⟨q, hq, fun z => by
            rcases z with z | z
            · exact nu z
            · exact nu (zero q hq z)⟩
          rw [← lU, e] at m
          omega
      rw [d2]; simp only [bnd]
      rw [d3]; simp only [bnd]
      rw [if_pos (by trivial), if_pos (by trivial), sbs_len, sbs_len, if_neg (by omega), w64 (by omega) (by omega), decide_eq_false (by omega)]
      obtain ⟨K, rfl⟩ : ∃ j, K = j + 1 := ⟨K - 1, by omega⟩
      have hm : (srt (lay H (dfs H l))).length * C ≤ E * C := Nat.mul_le_mul_right _ (by omega)
      generalize hQ : (srt (lay H (dfs H l))).length * C = Q at hm
      rw [medlarlaw12_LayerParts.j0, if_neg (by simp), sbs_len]
      exact parts_l0 (dfs H l) (srt (lay H (dfs H l))) cD.sb lD (by omega) (Q + G) (by omega) (fun k hk => parts_l1 hH (dfs H l) _ cD cU lD (by omega) _ jall C G (by omega) (by omega) (srt (lay H (dfs H l))).length 0 k (by omega) (by rw [hQ]; exact hk)) (dfs H l).length 0 K (by omega) (by omega)
    · rw [if_neg (fun z => c z.2)] at d2 d3
      rw [d2]; simp only [bnd]
      rw [d3]; simp only [bnd]
      rw [if_neg (by omega), if_pos (by trivial)]; rfl
end Go.Proofs.Ytmffkfakcbopcaa.Pure
