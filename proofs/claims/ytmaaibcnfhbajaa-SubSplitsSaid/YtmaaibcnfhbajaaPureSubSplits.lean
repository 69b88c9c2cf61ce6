/- SubSplits: for every height, subset and leaf: those that the subset is split into are useful, one or two, touch nowhere, and have its leaves and no others; no condition. -/
import Derived.Test.YtmaaibcnfhbajaaMQ
import Derived.Test.YtmaaibcnfhbajaaM8
import Derived.Test.YtmaaibcnfhbajaaMV8
import Derived.Test.YtmaaibcnfhbajaaMPx23
set_option linter.unusedVariables false
namespace Go.Proofs.Ytmaaibcnfhbajaa.Pure
open Go.RowKit Go.Proofs.Ytmaaibcnfhbajaa.MP Go.Proofs.YtmaaibcnfhbajaaW.PrintWords Go.Proofs.YtmaaibcnfhbajaaW.PrintLast Go.Proofs.Ytmaaibcnfhbajaa.Med

def inb (h : Int) (p : Nat) (x : Nat × Nat) : Bool := if Lfi h p then decide (In h.toNat x.1 x.2 p) else false
def ge (h : Int) (p : Nat) : Int := if Lfi h p then 0 else 1
theorem splits_step (h : Int) {i j p : Nat} (hp : p < 18446744073709551616) (l : List (Nat × Nat)) (has some_ : Bool) (t k : Nat) (ht : t < l.length) (hb : l.length ≤ 2) (hk : 40 ≤ k)
    (sb : Sb h.toNat l[t].1 l[t].2) (us : Usf h.toNat l[t].1 l[t].2 ∨ j = 0) (s0 : Sb h.toNat (l[0]'(by omega)).1 (l[0]'(by omega)).2) (nt : 0 < t → tch (spn h.toNat (l[0]'(by omega)).1 (l[0]'(by omega)).2) (spn h.toNat l[t].1 l[t].2) = false) :
    medlarlaw08_SubSplits.l0 (k + 3) h (p : Int) true (sbs l) has (ge h p) some_ (sbs l) (l.length : Int) (t : Int) (i : Int) (j : Int) =
    medlarlaw08_SubSplits.l0 k h (p : Int) true (sbs l) has (ge h p) (some_ || inb h p l[t]) (sbs l) (l.length : Int) ((t + 1 : Nat) : Int) (i : Int) (j : Int) := by
  have b1 := sb_lt sb
  have b0 := sb_lt s0
  have e := sHas_eq h b1.1 b1.2 hp (k := k + 2) (by omega)
  have u := Useful_eq h b1.1 b1.2 (k := k + 2) (by omega)
  have tt := Touch_eq h b0.1 b0.2 b1.1 b1.2 (k := k) (by omega)
  rw [medlarlaw08_SubSplits.l0, if_pos (by omega), if_pos (by omega), if_pos (by rw [sbs_len]; omega), rdT_sbs ht]
  simp only
  rw [u, e, if_pos sb]; simp only [Option.bind_some, if_true]
  have hj2 : ∀ r : Bool × Int, r = (if Sb h.toNat l[t].1 l[t].2 ∧ Lfi h p then (decide (In h.toNat l[t].1 l[t].2 p), (0 : Int)) else (false, 1)) →
      medlarlaw08_SubSplits.j2 (k + 2) h (p : Int) true (sbs l) has (ge h p) some_ (t : Int) r.1 (sbs l) (l.length : Int) (t : Int) ((r.2 == 0) != (ge h p == 0)) (i : Int) (j : Int) (l[t].1 : Int) (l[t].2 : Int) =
      medlarlaw08_SubSplits.l0 k h (p : Int) true (sbs l) has (ge h p) (some_ || inb h p l[t]) (sbs l) (l.length : Int) ((t + 1 : Nat) : Int) (i : Int) (j : Int) := by
    intro r hr
    have r1 : r.1 = inb h p l[t] := by
      rw [hr]; unfold inb
      by_cases c : Lfi h p
      · simp [c, sb]
      · simp [c]
    have r2 : ((r.2 == 0) != (ge h p == 0)) = false := by
      rw [hr]; unfold ge
      by_cases c : Lfi h p
      · simp [c, sb]
      · simp [c]
    rw [r1, r2, medlarlaw08_SubSplits.j2, if_neg (by simp)]
    have j3 : ∀ b, medlarlaw08_SubSplits.j3 (k + 1) h (p : Int) true (sbs l) has (ge h p) b (t : Int) (sbs l) (l.length : Int) (t : Int) (i : Int) (j : Int) (l[t].1 : Int) (l[t].2 : Int) =
        medlarlaw08_SubSplits.l0 k h (p : Int) true (sbs l) has (ge h p) b (sbs l) (l.length : Int) ((t + 1 : Nat) : Int) (i : Int) (j : Int) := by
      intro b
      rw [medlarlaw08_SubSplits.j3, w64 (x := (t : Int) + 1) (by omega) (by omega), show (t : Int) + 1 = ((t + 1 : Nat) : Int) by omega]
      by_cases c : t = 0
      · rw [if_neg (by omega)]
      · have r0 := rdT_sbs (l := l) (i := 0) (by omega)
        rw [show ((0 : Nat) : Int) = 0 from rfl] at r0
        have ss : Sb h.toNat (l[0]'(by omega)).1 (l[0]'(by omega)).2 ∧ Sb h.toNat l[t].1 l[t].2 := ⟨s0, sb⟩
        rw [if_pos (by omega), if_pos (by rw [sbs_len]; omega), r0]
        simp only
        rw [tt, if_pos ss, nt (by omega)]
        simp
    rw [j3, j3]
    cases some_ <;> simp
  have hr := hj2 _ rfl
  by_cases c : Usf h.toNat l[t].1 l[t].2
  · rw [decide_eq_true c, if_pos rfl]; exact hr
  · have : j = 0 := us.resolve_left c
    subst this
    rw [decide_eq_false c, if_neg (by simp), if_pos (by rfl)]; exact hr
theorem splits_end (h : Int) {i j p : Nat} (l : List (Nat × Nat)) (has some_ : Bool) (k : Nat) (g : Int) (e : some_ = has) :
    medlarlaw08_SubSplits.l0 (k + 1) h (p : Int) true (sbs l) has g some_ (sbs l) (l.length : Int) (l.length : Int) (i : Int) (j : Int) = some true := by
  rw [medlarlaw08_SubSplits.l0, if_neg (by omega)]; simp [e]
theorem splits_l (h : Int) {i j p : Nat} (hp : p < 18446744073709551616) (s : Sb h.toNat i j) {k : Nat} (hk : 60 ≤ k) :
    medlarlaw08_SubSplits.l0 k h (p : Int) true (sbs (spl h.toNat i j)) (inb h p (i, j)) (ge h p) false (sbs (spl h.toNat i j)) ((spl h.toNat i j).length : Int) 0 (i : Int) (j : Int) = some true := by
  by_cases c : Usf h.toNat i j ∨ j = 0
  · rw [spl_one c]
    obtain ⟨k, rfl⟩ : ∃ m, k = m + 1 + 3 := ⟨k - 4, by omega⟩
    have := splits_step h (i := i) (j := j) hp [(i, j)] (inb h p (i, j)) false 0 (k + 1) (by simp) (by simp) (by omega) s c s (by simp)
    rw [show ((0 : Nat) : Int) = 0 from rfl] at this
    rw [this]
    exact splits_end h [(i, j)] _ _ k _ (by simp)
  · rw [spl_two c]
    have c1 : ¬ Usf h.toNat i j := fun z => c (.inl z)
    have c2 : j ≠ 0 := fun z => c (.inr z)
    obtain ⟨_, _, _, s1, s2, m0⟩ := part_sb s c1 c2
    obtain ⟨u1, u2⟩ := two_usf s c1 c2
    have two := two_in s1 s2 m0 c2
    generalize anc j (nxt h.toNat i.log2) = m at *
    have nt : tch (spn h.toNat i m) (spn h.toNat m j) = false := by
      rw [Bool.eq_false_iff, ne_eq, tch_spn s1 s2]
      rintro ⟨q, h1, h2⟩
      rcases two q with z | z | z
      · exact z.2.1 h2
      · exact z.1 h1
      · exact z.1 h1
    obtain ⟨k, rfl⟩ : ∃ m, k = m + 1 + 3 + 3 := ⟨k - 7, by omega⟩
    have e1 := splits_step h (i := i) (j := j) hp [(i, m), (m, j)] (inb h p (i, j)) false 0 (k + 1 + 3) (by simp) (by simp) (by omega) s1 (.inl u1) s1 (by simp)
    have e2 := fun b => splits_step h (i := i) (j := j) hp [(i, m), (m, j)] (inb h p (i, j)) b 1 (k + 1) (by simp) (by simp) (by omega) s2 (.inl u2) s1 (fun _ => nt)
    rw [show ((0 : Nat) : Int) = 0 from rfl] at e1
    rw [e1, e2]
    refine splits_end h [(i, m), (m, j)] _ _ k _ ?_
    simp only [List.getElem_cons_zero, List.getElem_cons_succ, Bool.false_or]
    unfold inb
    by_cases cc : Lfi h p
    · simp only [if_pos cc]
      rcases two p with ⟨a, b, d⟩ | ⟨a, b, d⟩ | ⟨a, b, d⟩ <;> simp [a, b, d]
    · simp [cc]
theorem SubSplits : medlarlaw08_SubSplits.Pure := by
  intro h i j p w0 w1 w2 w3
  obtain ⟨i, rfl, hi'⟩ := wf_u64 w1
  obtain ⟨j, rfl, hj⟩ := wf_u64 w2
  obtain ⟨p, rfl, hp⟩ := wf_u64 w3
  refine ⟨(100 : Nat) + 1, ?_⟩
  generalize hK : (100 : Nat) = K
  unfold medlarlaw08_SubSplits.f
  rw [live8 (by omega), Split_eq h hi' hj (by omega), Useful_eq h hi' hj (by omega)]
  simp only [Option.bind_some]
  by_cases s : Sb h.toNat i j
  · have hl := splits_l h hp s (k := K) (by omega)
    have e := sHas_eq h hi' hj hp (k := K) (by omega)
    have J : medlarlaw08_SubSplits.j0 (K + 1) h (p : Int) true (sbs (spl h.toNat i j)) false (i : Int) (j : Int) = some true := by
      rw [medlarlaw08_SubSplits.j0, if_neg (by simp), e]; simp only [Option.bind_some]
      have e1 : (if Sb h.toNat i j ∧ Lfi h p then (decide (In h.toNat i j p), (0 : Int)) else (false, 1)) = (inb h p (i, j), ge h p) := by
        unfold inb ge
        by_cases c : Lfi h p
        · simp [c, s]
        · simp [c]
      rw [e1, sbs_len]; exact hl
    simp only [if_pos s, if_true]
    have h1 : 1 ≤ (spl h.toNat i j).length := by unfold spl; split <;> simp
    have h2 := spl_len h.toNat i j
    rw [sbs_len] at h2 ⊢
    rw [if_neg (by omega), if_neg (by omega)]
    by_cases c : Usf h.toNat i j
    · rw [decide_eq_true c, if_pos rfl, spl_one (.inl c)]
      rw [spl_one (.inl c)] at J
      have sm := same8_eq (sbs [(i, j)]) [(⟨(i : Int), (j : Int)⟩ : S24)] (by simp [sbs]) (k := K + 1) (by simp [sbs]; omega)
      have e0 : sbs [(i, j)] = [(⟨(i : Int), (j : Int)⟩ : S24)] := rfl
      rw [sm, decide_eq_true e0]; simp only [Option.bind_some, Bool.not_true]
      exact J
    · rw [decide_eq_false c, if_neg (by simp)]; exact J
  · simp [if_neg s]
end Go.Proofs.Ytmaaibcnfhbajaa.Pure
