/- TraceEnds: for every height, scheme, list of subsets and script: whatever a decoder answers, tracing comes to an end within the bound, with a leaf of one of the subsets, or with nothing: with nothing just if the first answer is no, or the second one yes; no condition. -/
import Derived.Test.YtnbiddloiiljjaaZTraceEnds
import Derived.Test.YtnbiddloiiljjaaMPx16
set_option linter.unusedVariables false
set_option linter.unusedSimpArgs false
set_option linter.unusedSectionVars false
namespace Go.Proofs.Ytnbiddloiiljjaa.Pure
open Go.RowKit Go.Proofs.Ytnbiddloiiljjaa.MP Go.Proofs.YtnbiddloiiljjaaW.PrintWords Go.Proofs.YtnbiddloiiljjaaW.PrintLast Go.Proofs.Ytnbiddloiiljjaa.Med
theorem ends_l {h : Int} {l : List (Nat × Nat)} (hl : l.length ≤ 60) (hs : ∀ q ∈ l, Sb h.toNat q.1 q.2) (v : Bool) (p : Nat) (hp : Lfi h p) (n : Int) (ex : l.any (fun q => decide (In h.toNat q.1 q.2 p)) = true) :
    ∀ (q t k : Nat), t + q = l.length → q + 40 ≤ k →
    medlarlaw23_TraceEnds.l0 k h true ((l.take t).any fun q => decide (In h.toNat q.1 q.2 p)) (sbs l) (l.length : Int) (t : Int) v (p : Int) n = some true := by
  have pl : p < 18446744073709551616 := by
    have a := hp.2
    have := pow_le_h (h := h.toNat) (by have := hp.1; rw [hi_iff] at this; omega)
    omega
  intro q
  induction q with
  | zero =>
    intro t k ht hk
    obtain ⟨k, rfl⟩ : ∃ m, k = m + 1 := ⟨k - 1, by omega⟩
    rw [medlarlaw23_TraceEnds.l0, if_neg (by omega), if_pos rfl, List.take_of_length_le (by omega), ex]
  | succ q ih =>
    intro t k ht hk
    obtain ⟨k, rfl⟩ : ∃ m, k = m + 1 := ⟨k - 1, by omega⟩
    have tl : t < l.length := by omega
    have sb := hs _ (List.getElem_mem tl)
    have b := sb_lt sb
    have nx := ih (t + 1) k (by omega) (by omega)
    rw [List.take_succ_eq_append_getElem tl, List.any_append, List.any_cons, List.any_nil, Bool.or_false] at nx
    have zz : Sb h.toNat l[t].1 l[t].2 ∧ Lfi h p := ⟨sb, hp⟩
    rw [medlarlaw23_TraceEnds.l0, if_pos (by omega), if_pos (by omega), if_pos (by rw [sbs_len]; omega), rdT_sbs tl]
    dsimp only
    rw [sHas_eq h b.1 b.2 pl (k := k) (by omega), if_pos zz]; simp only [bnd]
    rw [if_pos (by trivial), w64 (by omega) (by omega), show (t : Int) + 1 = ((t + 1 : Nat) : Int) by omega]
    by_cases d : ((l.take t).any fun q => decide (In h.toNat q.1 q.2 p)) = true
    · rw [if_pos d]
      rw [d, Bool.true_or] at nx; exact nx
    · rw [if_neg d]
      rw [show ((l.take t).any fun q => decide (In h.toNat q.1 q.2 p)) = false by simpa using d, Bool.false_or] at nx
      exact nx
theorem TraceEnds : ∀ (a0 a1 : Int) (l2 : List S24) (l3 : List Bool), (Lit.int .i64 a0).wf = true → (Lit.int .i64 a1).wf = true → l2.length ≤ maxLen → (∀ x ∈ l2, (Lit.int .u64 x.f0).wf = true ∧ (Lit.int .u64 x.f1).wf = true) → l3.length ≤ maxLen →
    ∃ k, medlarlaw23_TraceEnds.f k a0 a1 l2 l3 = some true := by
  intro h s l2 S w0 w1 y2 w2 y3
  obtain ⟨l, rfl, bl⟩ := sbs_of l2 w2
  refine ⟨2000, ?_⟩
  unfold medlarlaw23_TraceEnds.f
  rw [live23 (by omega)]; simp only [bnd]
  rw [few_eq]; simp only [bnd]
  rw [sbs_len]
  by_cases few : ([] : List Int).length ≤ 20 ∧ S.length ≤ 300 ∧ l.length ≤ 60
  · have te := Trace_eq h s true (T := []) (by simp) (by simp) S bl (k := 2000) (by simp) (by omega)
    rw [show ints [] = [] from rfl] at te
    rw [decide_eq_true few, if_pos rfl, te]; simp only [bnd]
    rw [Bound_eq h _ (k := 2000) (by omega)]; simp only [bnd]
    by_cases c : Trc h s [] l
    · have hh := c.1.1
      have l1 := c.2.1
      have bb : Hi h ∧ 1 ≤ (l.length : Int) ∧ (l.length : Int) ≤ 32768 := ⟨hh, by omega, by omega⟩
      have fit := c.2.2.2
      have an : ∀ n l, asks true h.toNat [] S n l = S.getD n false := fun n l => by unfold asks; rw [if_pos rfl]
      rw [if_pos c, if_pos bb, if_pos bb, Int.toNat_natCast]
      -- what the rows of the law ask, behind the two answers
      have j2 : ∀ (k : Nat), 300 ≤ k → ∀ (v : Bool) (p n : Nat), (v = true → Lfi h p ∧ l.any (fun q => decide (In h.toNat q.1 q.2 p)) = true) → (v = false → p = 0 ∧ n ≤ 2) →
          medlarlaw23_TraceEnds.j2 k h (sbs l) true false v (p : Int) (n : Int) = some true := by
        intro k hk v p n h1 h2
        obtain ⟨k, rfl⟩ : ∃ m, k = m + 1 := ⟨k - 1, by omega⟩
        rw [medlarlaw23_TraceEnds.j2, if_neg (by simp)]
        cases v with
        | true =>
          obtain ⟨z1, z2⟩ := h1 rfl
          have := ends_l few.2.2 (fun q hq => (fit q hq).2.1) true p z1 (n : Int) z2 l.length 0 k (by omega) (by omega)
          simp only [List.take_zero, List.any_nil] at this
          rw [if_pos rfl, sbs_len]; exact this
        | false =>
          obtain ⟨z1, z2⟩ := h2 rfl
          rw [if_neg (by simp), if_pos rfl, z1, if_pos (by omega), decide_eq_true (by omega)]
      have j1 : ∀ (k : Nat), 302 ≤ k → ∀ (f g v : Bool) (p n : Nat), v = (f && !g) → 1 ≤ n → n ≤ 2 * h.toNat + sz l.length + 3 → (v = true → Lfi h p ∧ l.any (fun q => decide (In h.toNat q.1 q.2 p)) = true) → (v = false → p = 0 ∧ n ≤ 2) →
          medlarlaw23_TraceEnds.j1 k h (sbs l) true ((2 * h.toNat + sz l.length + 3 : Nat) : Int) 0 f g v (p : Int) (n : Int) = some true := by
        intro k hk f g v p n hv n1 n2 h1 h2
        obtain ⟨k, rfl⟩ : ∃ m, k = m + 1 := ⟨k - 1, by omega⟩
        rw [medlarlaw23_TraceEnds.j1, if_pos rfl, if_neg (by omega), if_neg (by omega)]
        cases f with
        | true =>
          rw [if_pos rfl, show (v != !g) = false by rw [hv]; cases g <;> rfl]
          exact j2 k (by omega) v p n h1 h2
        | false =>
          rw [if_neg (by simp), show (v != false) = false by rw [hv]; cases g <;> rfl]
          exact j2 k (by omega) v p n h1 h2
      have r0 := rdOf_getD S 0
      have r1 := rdOf_getD S 1
      rw [show ((0 : Nat) : Int) = 0 from rfl] at r0
      rw [show ((1 : Nat) : Int) = 1 from rfl] at r1
      have j0 : ∀ (f : Bool), f = S.getD 0 false → medlarlaw23_TraceEnds.j0 2000 h (sbs l) S true ((2 * h.toNat + sz l.length + 3 : Nat) : Int) 0 f (vrd (asks true h.toNat [] S) h.toNat s l).1 (vrd (asks true h.toNat [] S) h.toNat s l).2.1 (vrd (asks true h.toNat [] S) h.toNat s l).2.2.1 = some true := by
        intro f hf
        have go : ∀ (g : Bool), g = S.getD 1 false → medlarlaw23_TraceEnds.j1 1999 h (sbs l) true ((2 * h.toNat + sz l.length + 3 : Nat) : Int) 0 f g (vrd (asks true h.toNat [] S) h.toNat s l).1 (vrd (asks true h.toNat [] S) h.toNat s l).2.1 (vrd (asks true h.toNat [] S) h.toNat s l).2.2.1 = some true := by
          intro g hg
          unfold vrd
          rw [an, an, ← hf, ← hg]
          by_cases z0 : f = true
          · rw [if_pos z0]
            by_cases z1 : g = true
            · rw [if_pos z1]
              exact j1 1999 (by omega) f g false 0 2 (by rw [z0, z1]; rfl) (by omega) (by omega) (fun z => by simp at z) (fun _ => ⟨rfl, by omega⟩)
            · rw [if_neg z1]
              obtain ⟨⟨q, hq, zq⟩, v2, v3⟩ := vdc_in (asks true h.toNat [] S) l1 fit
              refine j1 1999 (by omega) f g true _ _ (by rw [z0, show g = false by simpa using z1]; rfl) (by omega) v3 (fun _ => ⟨⟨hh, in_lt (fit q hq).2.1 zq⟩, ?_⟩) (fun z => by simp at z)
              rw [List.any_eq_true]; exact ⟨q, hq, by simpa using zq⟩
          · rw [if_neg z0]
            exact j1 1999 (by omega) f g false 0 1 (by rw [show f = false by simpa using z0]; rfl) (by omega) (by omega) (fun z => by simp at z) (fun _ => ⟨rfl, by omega⟩)
        rw [medlarlaw23_TraceEnds.j0]
        by_cases z : (S.length : Int) > 1
        · rw [if_pos z, if_pos (by omega), r1]; exact go _ rfl
        · rw [if_neg z]; exact go _ (by rw [List.getD_eq_getElem?_getD, List.getElem?_eq_none (by omega)]; rfl)
      have e0 : (vrd (asks true h.toNat [] S) h.toNat s l).2.2.2 = 0 := by unfold vrd; (repeat' split) <;> rfl
      rw [if_pos e0]
      by_cases z : (S.length : Int) > 0
      · rw [if_pos z, if_pos (by omega), r0]; exact j0 _ rfl
      · rw [if_neg z]; exact j0 _ (by rw [List.getD_eq_getElem?_getD, List.getElem?_eq_none (by omega)]; rfl)
    · rw [if_neg c]; dsimp only
      rw [if_neg (by omega)]
  · rw [decide_eq_false few, if_neg (by simp)]
end Go.Proofs.Ytnbiddloiiljjaa.Pure
