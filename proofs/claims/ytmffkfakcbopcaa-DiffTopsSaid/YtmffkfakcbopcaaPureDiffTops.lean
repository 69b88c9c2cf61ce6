/- DiffTops: for every height, and list of at most thirty numbers: of the cover by differences each subset's I is the root, or below a fork; no two have one I, and none has another one's J as its I; no condition. -/
import Derived.Test.YtmffkfakcbopcaaZDiffTops
import Derived.Test.YtmffkfakcbopcaaMPx15
set_option linter.unusedVariables false
set_option linter.unusedSimpArgs false
set_option linter.unusedSectionVars false
namespace Go.Proofs.Ytmffkfakcbopcaa.Pure
open Go.RowKit Go.Proofs.Ytmffkfakcbopcaa.MP Go.Proofs.YtmffkfakcbopcaaW.PrintWords Go.Proofs.YtmffkfakcbopcaaW.PrintLast Go.Proofs.Ytmffkfakcbopcaa.Med
def tp (F : List Nat) (s1 : Nat) : Bool := decide (s1 = 1) || decide (s1 / 2 ∈ F)
theorem tops_l0 (C : Nat) (hC : 4200 ≤ C) (S : List (Nat × Nat)) (F : List Nat) (hlen : S.length ≤ 2048) (hF : F.length ≤ 2048)
    (h1 : ∀ q ∈ S, tp F q.1 = true) (h2 : ∀ (t : Nat) (ht : t < S.length) (h0 : 0 < t), S[t - 1].1 ≠ S[t].1) (h3 : ∀ q ∈ S, ∀ r ∈ S, r.2 ≠ q.1) :
    ∀ (q t k : Nat), t + q = S.length → q * C + 100 ≤ k →
    medlarlaw11_DiffTops.l0 k true (sbs S) (ints F) 0 (sbs S) (S.length : Int) (t : Int) = some true := by
  intro q
  induction q with
  | zero =>
    intro t k ht hk'
    obtain ⟨k, rfl⟩ : ∃ m, k = m + 1 := ⟨k - 1, by omega⟩
    rw [medlarlaw11_DiffTops.l0, if_neg (by omega), if_pos rfl]; rfl
  | succ q ih =>
    intro t k ht hk'
    have eqC : (q + 1) * C = q * C + C := by rw [Nat.add_mul, Nat.one_mul]
    have htS : t < S.length := by omega
    have hq : S[t] ∈ S := List.getElem_mem htS
    have g1 := h1 _ hq
    have g2 := h2 t htS
    have g3 := h3 _ hq
    generalize hs : S[t] = s at g1 g2 g3
    obtain ⟨s1, s2⟩ := s
    dsimp only at g1 g2 g3
    have last : ∀ (r u m : Nat), u + r = S.length → q * C + 100 + 5 + r ≤ m →
        medlarlaw11_DiffTops.l2 m true (sbs S) (ints F) 0 (sbs S) (S.length : Int) (t : Int) (sbs S) (S.length : Int) (u : Int) (s1 : Int) (s2 : Int) = some true := by
      intro r
      induction r with
      | zero =>
        intro u m hu' hm
        obtain ⟨m, rfl⟩ : ∃ j, m = j + 1 := ⟨m - 1, by omega⟩
        rw [medlarlaw11_DiffTops.l2, if_neg (by omega), w64 (by omega) (by omega), show (t : Int) + 1 = ((t + 1 : Nat) : Int) by omega]
        exact ih (t + 1) m (by omega) (by omega)
      | succ r ihr =>
        intro u m hu' hm
        obtain ⟨m, rfl⟩ : ∃ j, m = j + 1 := ⟨m - 1, by omega⟩
        have huS : u < S.length := by omega
        have ne := g3 _ (List.getElem_mem huS)
        rw [medlarlaw11_DiffTops.l2, if_pos (by omega), if_pos (by omega), if_pos (by rw [sbs_len]; omega), rdT_sbs huS]
        dsimp only
        rw [if_neg (by omega), w64 (by omega) (by omega), show (u : Int) + 1 = ((u + 1 : Nat) : Int) by omega]
        exact ihr (u + 1) m (by omega) (by omega)
    have j2 : ∀ m, q * C + 100 + 10 + S.length ≤ m → medlarlaw11_DiffTops.j2 m true (sbs S) (ints F) 0 (sbs S) (S.length : Int) (t : Int) false (s1 : Int) (s2 : Int) = some true := by
      intro m hm
      obtain ⟨m, rfl⟩ : ∃ j, m = j + 1 := ⟨m - 1, by omega⟩
      rw [medlarlaw11_DiffTops.j2, if_neg (by simp), sbs_len]
      exact last S.length 0 m (by omega) (by omega)
    have inner : ∀ (r u m : Nat), u + r = F.length → q * C + 100 + 20 + S.length + r ≤ m → ∀ b : Bool, b = tp (F.take u) s1 →
        medlarlaw11_DiffTops.l1 m true (sbs S) (ints F) 0 (t : Int) b (sbs S) (S.length : Int) (t : Int) (ints F) (F.length : Int) (u : Int) (s1 : Int) (s2 : Int) = some true := by
      intro r
      induction r with
      | zero =>
        intro u m hu' hm b hb
        obtain ⟨m, rfl⟩ : ∃ j, m = j + 1 := ⟨m - 1, by omega⟩
        rw [List.take_of_length_le (by omega), g1] at hb
        subst hb
        rw [medlarlaw11_DiffTops.l1, if_neg (by omega), if_pos rfl]
        by_cases t0 : t = 0
        · rw [if_neg (by omega)]
          exact j2 m (by omega)
        · have ne := g2 (by omega)
          have ht1 : t - 1 < S.length := by omega
          rw [if_pos (by omega), w64 (by omega) (by omega), show (t : Int) - 1 = ((t - 1 : Nat) : Int) by omega, if_pos (by omega), if_pos (by rw [sbs_len]; omega), rdT_sbs ht1]
          dsimp only
          rw [beq_false_of_ne (by omega)]
          exact j2 m (by omega)
      | succ r ihr =>
        intro u m hu' hm b hb
        obtain ⟨m, rfl⟩ : ∃ j, m = j + 1 := ⟨m - 1, by omega⟩
        have huF : u < F.length := by omega
        have tk : F.take (u + 1) = F.take u ++ [F[u]] := by rw [List.take_succ_eq_append_getElem huF]
        rw [medlarlaw11_DiffTops.l1, if_pos (by omega), if_pos (by omega), if_pos (by rw [ints_len]; omega), w64 (by omega) (by omega), show (u : Int) + 1 = ((u + 1 : Nat) : Int) by omega, ints_rd huF]
        by_cases y : tp (F.take u) s1 = true
        · rw [y] at hb
          rw [hb, if_pos rfl]
          refine ihr (u + 1) m (by omega) (by omega) true ?_
          symm
          unfold tp at *
          rw [Bool.or_eq_true, decide_eq_true_iff, decide_eq_true_iff] at *
          rw [tk, List.mem_append]
          rcases y with y | y
          · exact .inl y
          · exact .inr (.inl y)
        · have y' : tp (F.take u) s1 = false := by rw [← Bool.not_eq_true]; exact y
          rw [y'] at hb
          rw [hb, if_neg (by simp)]
          refine ihr (u + 1) m (by omega) (by omega) _ ?_
          have n1 : ¬ s1 = 1 ∧ ¬ s1 / 2 ∈ F.take u := by
            unfold tp at y'
            rw [Bool.or_eq_false_iff, decide_eq_false_iff_not, decide_eq_false_iff_not] at y'
            exact y'
          unfold tp
          rw [decide_eq_false n1.1, Bool.false_or, tk, Bool.eq_iff_iff, beq_iff_eq, decide_eq_true_iff, List.mem_append, List.mem_singleton]
          constructor
          · intro e; right; omega
          · rintro (e | e)
            · exact absurd e n1.2
            · omega
    obtain ⟨k, rfl⟩ : ∃ m, k = m + 1 := ⟨k - 1, by omega⟩
    rw [medlarlaw11_DiffTops.l0, if_pos (by omega), if_pos (by omega), if_pos (by rw [sbs_len]; omega), rdT_sbs htS, hs, ints_len]
    dsimp only
    refine inner F.length 0 k (by omega) (by omega) _ ?_
    unfold tp
    rw [List.take_zero, decide_eq_false (p := s1 / 2 ∈ []) (by simp), Bool.or_false, Bool.eq_iff_iff, beq_iff_eq, decide_eq_true_iff]
    omega
theorem DiffTops : medlarlaw11_DiffTops.Pure := by
  intro h l w0 w1 w2 w3
  obtain ⟨l, rfl, hb⟩ := ints_of l w3
  obtain ⟨C, hC⟩ : ∃ C : Nat, C = 5000 := ⟨_, rfl⟩
  obtain ⟨D, hD⟩ : ∃ D : Nat, D = 2048 := ⟨_, rfl⟩
  refine ⟨D * C + 200000, ?_⟩
  generalize hK : D * C + 200000 = K
  have hK1 : 200000 ≤ K := by rw [← hK]; exact Nat.le_add_left _ _
  unfold medlarlaw11_DiffTops.f
  rw [live11 (by omega)]; simp only [bnd]
  rw [ints_len] at *
  by_cases l30 : (l.length : Int) > 30
  · rw [if_pos l30]
  · have d := DCover_eq h hb (by omega) (k := K) (by omega)
    have fo := Forks_eq h hb (by omega) (k := K) (by omega) (by omega)
    rw [if_neg l30, d]; simp only [bnd]
    rw [fo]; simp only [bnd]
    by_cases c : Lst h l
    · obtain ⟨H, rfl⟩ : ∃ H : Nat, h = (H : Int) := ⟨h.toNat, by have := c.1; rw [hi_iff] at this; omega⟩
      have hH : 1 ≤ H ∧ H ≤ 32 := by have := c.1; rw [hi_iff] at this; omega
      have hl := c.2.2.1
      have hu := c.2.2.2
      rw [Int.toNat_natCast] at hl
      have ln := dif_len_le c
      have ln2 := dfs_len H l
      have fl : (frk H l).length ≤ 2048 := by
        by_cases l0 : l = []
        · subst l0
          have : frk H [] = [] := by
            rw [List.eq_nil_iff_forall_not_mem]
            intro a ha
            have := (mem_frk.1 ha).2.2.1
            simp [inT] at this
          rw [this]; simp
        · have := (tree_len hl hu l0).2; omega
      rw [if_pos c, if_pos c, Int.toNat_natCast]; dsimp only
      rw [if_pos (by trivial), sbs_len]
      have hm : (dfs H l).length * C ≤ D * C := Nat.mul_le_mul_right _ (by omega)
      refine tops_l0 C (by omega) (dfs H l) (frk H l) (by omega) fl ?_ ?_ ?_ (dfs H l).length 0 K (by omega) (by omega)
      · intro q hq
        rw [mem_dfs] at hq
        unfold tp
        rw [Bool.or_eq_true, decide_eq_true_iff, decide_eq_true_iff]
        by_cases l0 : l = []
        · unfold dif at hq
          rw [if_pos l0, List.mem_singleton] at hq
          rw [hq]; exact .inl rfl
        · obtain ⟨t, _, _⟩ := (dif_iff hl hu l0).1 hq
          rcases t with e | ⟨_, f, _⟩
          · exact .inl e
          · exact .inr f
      · intro t ht h0
        have p := dfs_lss hH hl hu
        rw [List.pairwise_iff_getElem] at p
        have lt := p (t - 1) t (by omega) ht (by omega)
        intro e
        have m1 : (dfs H l)[t - 1] ∈ dfs H l := List.getElem_mem _
        have m2 : (dfs H l)[t] ∈ dfs H l := List.getElem_mem _
        rw [mem_dfs] at m1 m2
        rw [lss_iff] at lt
        by_cases l0 : l = []
        · have e1 := dfs_len H l
          have : (dif H l).length = 1 := by unfold dif; rw [if_pos l0]; rfl
          omega
        · have a1 := ((dif_iff hl hu l0).1 m1).2.1
          have a2 := ((dif_iff hl hu l0).1 m2).2.1
          rw [e] at a1
          omega
      · intro q hq r hr e
        rw [mem_dfs] at hq hr
        by_cases l0 : l = []
        · unfold dif at hq hr
          rw [if_pos l0, List.mem_singleton] at hq hr
          rw [hq, hr] at e
          simp at e
        · have fq := dif_facts hH hl hu l0 hq
          have fr := dif_facts hH hl hu l0 hr
          have aq := (dif_iff hl hu l0).1 hq
          have ar := (dif_iff hl hu l0).1 hr
          have : dwn H l r.2 = r.2 := by rw [ar.2.1]; exact dwn_dwn hl hu fr.1
          rw [e] at this
          exact aq.2.2 (aq.2.1.trans this)
    · rw [if_neg c, if_neg c]; dsimp only
      rw [if_neg (by omega), if_pos (by trivial)]; rfl
end Go.Proofs.Ytmffkfakcbopcaa.Pure
