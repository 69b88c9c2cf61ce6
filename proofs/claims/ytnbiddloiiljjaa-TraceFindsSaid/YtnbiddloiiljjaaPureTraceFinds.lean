/- TraceFinds: for every height, scheme, list of subsets and list of leaves: of a decoder that has what these leaves have one of them that is in one of the subsets is found, within the bound; if none is in any, nothing is; no condition. -/
import Derived.Test.YtnbiddloiiljjaaZTraceFinds
import Derived.Test.YtnbiddloiiljjaaMPx15
set_option linter.unusedVariables false
set_option linter.unusedSimpArgs false
set_option linter.unusedSectionVars false
namespace Go.Proofs.Ytnbiddloiiljjaa.Pure
open Go.RowKit Go.Proofs.Ytnbiddloiiljjaa.MP Go.Proofs.YtnbiddloiiljjaaW.PrintWords Go.Proofs.YtnbiddloiiljjaaW.PrintLast Go.Proofs.Ytnbiddloiiljjaa.Med
def hasT (H : Nat) (T : List Nat) (q : Nat × Nat) : Bool := T.any fun t => decide (In H q.1 q.2 t)
theorem finds_l {h : Int} {T : List Nat} (c : Lst h T) (hT : T.length ≤ 20) {l : List (Nat × Nat)} (hl : l.length ≤ 60) (hs : ∀ q ∈ l, Sb h.toNat q.1 q.2) (v : Bool) (p : Nat) (pr : Nat) (bd : Nat) (hbd : pr ≤ bd)
    (hv : v = l.any (hasT h.toNat T)) (hp : v = true → p ∈ T) :
    ∀ (q t k : Nat), t + q = l.length → q * 30 + 40 ≤ k →
    medlarlaw23_TraceFinds.l0 k h (ints T) true (bd : Int) 0 ((l.take t).any (hasT h.toNat T)) (sbs l) (l.length : Int) (t : Int) v (p : Int) (pr : Int) = some true := by
  have hlf : ∀ t ∈ T, t < 18446744073709551616 ∧ Lfi h t := fun t ht => by
    have a := c.2.2.1 t ht
    have := pow_le_h (h := h.toNat) (by have := c.1; rw [hi_iff] at this; omega)
    exact ⟨by omega, c.1, a⟩
  intro q
  induction q with
  | zero =>
    intro t k ht hk
    obtain ⟨k, rfl⟩ : ∃ m, k = m + 1 := ⟨k - 1, by omega⟩
    rw [medlarlaw23_TraceFinds.l0, if_neg (by omega), if_pos rfl, if_pos rfl, if_pos (by omega), List.take_of_length_le (by omega), ← hv, if_pos (by simp)]
    by_cases d : v = true
    · rw [if_pos d, In_eq T p (by omega) (k := k) (by omega)]; simp only [bnd]
      rw [decide_eq_true (hp d)]
    · rw [if_neg d]
  | succ q ih =>
    intro t k ht hk
    have tl : t < l.length := by omega
    have sb := hs _ (List.getElem_mem tl)
    have b := sb_lt sb
    have inner : ∀ (r u k : Nat) (x : Bool), u + r = T.length → q * 30 + 40 + r + 1 ≤ k → x = ((l.take t).any (hasT h.toNat T) || hasT h.toNat (T.take u) l[t]) →
        medlarlaw23_TraceFinds.l1 k h (ints T) true (bd : Int) 0 x (sbs l) (l.length : Int) (t : Int) (ints T) (T.length : Int) (u : Int) v (p : Int) (pr : Int) (l[t].1 : Int) (l[t].2 : Int) = some true := by
      intro r
      induction r with
      | zero =>
        intro u k x hu hk hx
        obtain ⟨k, rfl⟩ : ∃ m, k = m + 1 := ⟨k - 1, by omega⟩
        have nx := ih (t + 1) k (by omega) (by omega)
        rw [List.take_succ_eq_append_getElem tl, List.any_append, List.any_cons, List.any_nil, Bool.or_false] at nx
        rw [List.take_of_length_le (show T.length ≤ u by omega)] at hx
        rw [medlarlaw23_TraceFinds.l1, if_neg (by omega), w64 (by omega) (by omega), show (t : Int) + 1 = ((t + 1 : Nat) : Int) by omega, hx]
        exact nx
      | succ r ihr =>
        intro u k x hu hk hx
        obtain ⟨k, rfl⟩ : ∃ m, k = m + 1 := ⟨k - 1, by omega⟩
        have uT : u < T.length := by omega
        obtain ⟨t1, t2⟩ := hlf _ (List.getElem_mem uT)
        have ht' : hasT h.toNat (T.take (u + 1)) l[t] = (hasT h.toNat (T.take u) l[t] || decide (In h.toNat l[t].1 l[t].2 T[u])) := by
          unfold hasT; rw [List.take_succ_eq_append_getElem uT, List.any_append]; simp
        have zz : Sb h.toNat l[t].1 l[t].2 ∧ Lfi h T[u] := ⟨sb, t2⟩
        rw [medlarlaw23_TraceFinds.l1, if_pos (by omega), if_pos (by omega), if_pos (by rw [ints_len]; omega), ints_rd uT, sHas_eq h b.1 b.2 t1 (k := k) (by omega), if_pos zz]; simp only [bnd]
        rw [if_pos (by trivial), w64 (by omega) (by omega), show (u : Int) + 1 = ((u + 1 : Nat) : Int) by omega]
        by_cases d : x = true
        · rw [if_pos d]
          exact ihr (u + 1) k true (by omega) (by omega) (by rw [ht', ← Bool.or_assoc, ← hx, d]; rfl)
        · rw [if_neg d]
          exact ihr (u + 1) k _ (by omega) (by omega) (by rw [ht', ← Bool.or_assoc, ← hx, show x = false by simpa using d]; rfl)
    obtain ⟨k, rfl⟩ : ∃ m, k = m + 1 := ⟨k - 1, by omega⟩
    rw [medlarlaw23_TraceFinds.l0, if_pos (by omega), if_pos (by omega), if_pos (by rw [sbs_len]; omega), rdT_sbs tl, ints_len]
    exact inner T.length 0 k _ (by omega) (by omega) (by rw [List.take_zero]; unfold hasT; simp)
theorem TraceFinds : ∀ (a0 a1 : Int) (l2 : List S24) (l3 : List Int), (Lit.int .i64 a0).wf = true → (Lit.int .i64 a1).wf = true → l2.length ≤ maxLen → (∀ x ∈ l2, (Lit.int .u64 x.f0).wf = true ∧ (Lit.int .u64 x.f1).wf = true) → l3.length ≤ maxLen → (∀ x ∈ l3, (Lit.int .u64 x).wf = true) →
    ∃ k, medlarlaw23_TraceFinds.f k a0 a1 l2 l3 = some true := by
  intro h s l2 l3 w0 w1 y2 w2 y3 w3
  obtain ⟨l, rfl, bl⟩ := sbs_of l2 w2
  obtain ⟨T, rfl, bT⟩ := ints_of l3 w3
  refine ⟨2000, ?_⟩
  unfold medlarlaw23_TraceFinds.f
  rw [live23 (by omega)]; simp only [bnd]
  rw [few_eq]; simp only [bnd]
  rw [ints_len, sbs_len]
  by_cases few : T.length ≤ 20 ∧ ([] : List Bool).length ≤ 300 ∧ l.length ≤ 60
  · rw [decide_eq_true few, if_pos rfl, Trace_eq h s false bT (by omega) [] bl (k := 2000) (by omega) (by omega)]; simp only [bnd]
    rw [Bound_eq h _ (k := 2000) (by omega)]; simp only [bnd]
    by_cases c : Trc h s T l
    · have hh := c.1.1
      have l1 := c.2.1
      have bb : Hi h ∧ 1 ≤ (l.length : Int) ∧ (l.length : Int) ≤ 32768 := ⟨hh, by omega, by omega⟩
      have fit := c.2.2.2
      have hT := c.1.2.2.1
      have a1 : asks false h.toNat T [] 1 [] = false := by unfold asks; rw [if_neg (by simp)]; simp
      have a0 : asks false h.toNat T [] 0 l = l.any (hasT h.toNat T) := by
        unfold asks; rw [if_neg (by simp), Bool.eq_iff_iff]
        unfold hasT
        simp only [List.any_eq_true, decide_eq_true_eq]
        exact ⟨fun ⟨t, ht, q, hq, z⟩ => ⟨q, hq, t, ht, z⟩, fun ⟨q, hq, t, ht, z⟩ => ⟨t, ht, q, hq, z⟩⟩
      rw [if_pos c, if_pos bb, if_pos bb, Int.toNat_natCast]
      have main := fun v p pr bd hbd hv hp => finds_l c.1 few.1 few.2.2 (fun q hq => (fit q hq).2.1) v p pr bd hbd hv hp l.length 0 2000 (by omega) (by omega)
      simp only [List.take_zero, List.any_nil] at main
      by_cases d : asks false h.toNat T [] 0 l = true
      · have ev : vrd (asks false h.toNat T []) h.toNat s l = (true, ((vdc (asks false h.toNat T []) h.toNat s l).1 : Int), ((vdc (asks false h.toNat T []) h.toNat s l).2 : Int), 0) := by unfold vrd; rw [if_pos d, a1, if_neg (by simp)]
        rw [ev]; dsimp only
        rw [if_pos (by trivial)]
        obtain ⟨_, _, v3⟩ := vdc_in (asks false h.toNat T []) l1 fit
        exact main true _ _ _ v3 (by rw [← a0, d]) (fun _ => vdc_find [] hT l1 fit d)
      · have ev : vrd (asks false h.toNat T []) h.toNat s l = (false, 0, 1, 0) := by unfold vrd; rw [if_neg d]
        rw [ev]; dsimp only
        rw [if_pos (by trivial)]
        exact main false 0 1 _ (by omega) (by rw [← a0]; simpa using d) (fun z => by simp at z)
    · rw [if_neg c]; dsimp only
      rw [if_neg (by omega), if_pos (by trivial)]; rfl
  · rw [decide_eq_false few, if_neg (by simp)]
end Go.Proofs.Ytnbiddloiiljjaa.Pure
