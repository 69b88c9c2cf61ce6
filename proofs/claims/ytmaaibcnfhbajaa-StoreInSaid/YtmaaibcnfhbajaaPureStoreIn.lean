/- StoreIn: for all heights, schemes, leaves and subsets: a leaf is in each of its pairs, which may be of the scheme; of those without a J that may be of it just those in which it is are its pairs; no condition. -/
import Derived.Test.YtmaaibcnfhbajaaMX
import Derived.Test.YtmaaibcnfhbajaaMV14
import Derived.Test.YtmaaibcnfhbajaaMPx25
set_option linter.unusedVariables false
namespace Go.Proofs.Ytmaaibcnfhbajaa.Pure
open Go.RowKit Go.Proofs.Ytmaaibcnfhbajaa.MP Go.Proofs.YtmaaibcnfhbajaaW.PrintWords Go.Proofs.YtmaaibcnfhbajaaW.PrintLast Go.Proofs.Ytmaaibcnfhbajaa.Med

def memb (l : List (Nat × Nat)) (i j : Nat) : Bool := decide ((i, j) ∈ l)
theorem in_l (h s : Int) {p i j : Nat} (hp : p < 18446744073709551616) (lf : Lfi h p) (hi' : i < 18446744073709551616) (hj : j < 18446744073709551616) (l : List (Nat × Nat)) (hn : l.length ≤ 1025)
    (hl : ∀ q ∈ l, Sb h.toNat q.1 q.2 ∧ In h.toNat q.1 q.2 p) (fin : ∀ b k, 30 ≤ k → b = memb l i j → medlarlaw14_StoreIn.l0 k h s (p : Int) true b (sbs l) (l.length : Int) (l.length : Int) (i : Int) (j : Int) = some true) :
    ∀ (q t k : Nat) (b : Bool), t + q = l.length → q + 40 ≤ k → (b || memb (l.drop t) i j) = memb l i j →
    medlarlaw14_StoreIn.l0 k h s (p : Int) true b (sbs l) (l.length : Int) (t : Int) (i : Int) (j : Int) = some true := by
  intro q
  induction q with
  | zero =>
    intro t k b ht hk hb
    have : t = l.length := by omega
    subst this
    refine fin b k (by omega) ?_
    rw [List.drop_length] at hb
    simpa [memb] using hb
  | succ q ih =>
    intro t k b ht hk hb
    obtain ⟨k, rfl⟩ : ∃ m, k = m + 1 := ⟨k - 1, by omega⟩
    have d1 : l.drop t = l[t] :: l.drop (t + 1) := List.drop_eq_getElem_cons (by omega)
    obtain ⟨sb, inn⟩ := hl l[t] (List.getElem_mem (by omega))
    have bb := sb_lt sb
    have c1 : Sb h.toNat l[t].1 l[t].2 ∧ Lfi h p := ⟨sb, lf⟩
    have dm : memb (l.drop t) i j = (decide ((i, j) = l[t]) || memb (l.drop (t + 1)) i j) := by
      unfold memb; rw [d1, Bool.eq_iff_iff, Bool.or_eq_true, decide_eq_true_iff, decide_eq_true_iff, decide_eq_true_iff, List.mem_cons]
    simp only [medlarlaw14_StoreIn.l0]
    rw [if_pos (by omega), if_pos (by omega), if_pos (by rw [sbs_len]; omega), rdT_sbs (show t < l.length by omega)]
    simp only
    rw [sHas_eq h bb.1 bb.2 hp (by omega), if_pos c1]; simp only [bnd]
    rw [decide_eq_true inn, w64 (x := (t : Int) + 1) (by omega) (by omega), show (t : Int) + 1 = ((t + 1 : Nat) : Int) by omega]
    rw [if_pos trivial, if_pos rfl]
    rw [dm] at hb
    cases b with
    | true =>
      rw [if_pos rfl]
      exact ih (t + 1) k true (by omega) (by omega) (by simpa using hb)
    | false =>
      rw [if_neg (by simp)]
      refine ih (t + 1) k _ (by omega) (by omega) ?_
      rw [← hb]
      simp only [Bool.false_or]
      congr 1
      generalize l[t] = x
      obtain ⟨x0, x1⟩ := x
      simp only [Prod.mk.injEq]
      rw [Bool.eq_iff_iff]
      simp only [Bool.and_eq_true, beq_iff_eq, decide_eq_true_iff]
      omega
theorem StoreIn : medlarlaw14_StoreIn.Pure := by
  intro h s p i j w0 w1 w2 w3 w4
  obtain ⟨p, rfl, hp⟩ := wf_u64 w2
  obtain ⟨i, rfl, hi'⟩ := wf_u64 w3
  obtain ⟨j, rfl, hj⟩ := wf_u64 w4
  refine ⟨2000, ?_⟩
  generalize hK : (2000 : Nat) = K
  unfold medlarlaw14_StoreIn.f
  rw [live14 (by omega), Pairs_eq h s hp (by omega)]; simp only [bnd]
  by_cases c : Sch s ∧ Lfi h p
  · rw [if_pos c]; dsimp only
    rw [if_pos rfl, sbs_len]
    obtain ⟨hs, lf⟩ := c
    have hh := lf.1
    rw [hi_iff] at hh
    have hlog : (2 ^ h.toNat + p).log2 = h.toNat := leaf_log2 (by omega) (by have := lf.2; rw [Nat.pow_succ]; omega)
    have hne : 2 ^ h.toNat + p ≠ 0 := by have := pow_pos2 h.toNat; omega
    have hl : ∀ q ∈ prs h.toNat s (2 ^ h.toNat + p), Sb h.toNat q.1 q.2 ∧ In h.toNat q.1 q.2 p := by
      intro q hq
      obtain ⟨a, b, c, _⟩ := prs_mem hs (by omega) hne hlog hq
      exact ⟨a, (in_abv a lf.2).2 ⟨b, c⟩⟩
    refine in_l h s hp lf hi' hj _ (prs_len (by omega) s _) hl ?_ (prs h.toNat s (2 ^ h.toNat + p)).length 0 K false (by omega) (by have := prs_len (show h.toNat ≤ 32 by omega) s (2 ^ h.toNat + p); omega) (by simp)
    intro b k hk hb
    obtain ⟨k, rfl⟩ : ∃ m, k = m + 1 := ⟨k - 1, by omega⟩
    simp only [medlarlaw14_StoreIn.l0]
    rw [if_neg (by omega), sHas_eq h hi' hj hp (by omega), May_eq h s hi' hj (by omega)]; simp only [bnd]
    by_cases sb : Sb h.toNat i j
    · have c1 : Sb h.toNat i j ∧ Lfi h p := ⟨sb, lf⟩
      have c2 : Sch s ∧ Sb h.toNat i j := ⟨hs, sb⟩
      rw [if_pos c1, if_pos c2]; dsimp only
      rw [if_pos rfl]
      by_cases m : (i, j) ∈ prs h.toNat s (2 ^ h.toNat + p)
      · obtain ⟨_, a2, a3, a4⟩ := prs_mem hs (by omega) hne hlog m
        have inn : In h.toNat i j p := (in_abv sb lf.2).2 ⟨a2, a3⟩
        have bt : b = true := by rw [hb]; simp [memb, m]
        rw [bt]
        simp only [inn, a4, decide_true, if_true]
        split <;> simp
      · have bt : b = false := by rw [hb]; simp [memb, m]
        rw [bt]
        simp only [Bool.false_eq_true, if_false, if_true]
        by_cases a4 : May h.toNat s i j
        · simp only [a4, decide_true, if_true]
          by_cases j0 : j = 0
          · subst j0
            have inn : ¬ In h.toNat i 0 p := fun z => m (prs_whole hs hne hlog ((in_abv sb lf.2).1 z).1 a4)
            simp [inn]
          · rw [if_neg (by omega)]
        · simp [a4]
    · have c1 : ¬ (Sb h.toNat i j ∧ Lfi h p) := fun z => sb z.1
      have m : (i, j) ∉ prs h.toNat s (2 ^ h.toNat + p) := fun z => sb (hl _ z).1
      have bt : b = false := by rw [hb]; simp [memb, m]
      rw [if_neg c1, bt]; simp
  · rw [if_neg c]; simp
end Go.Proofs.Ytmaaibcnfhbajaa.Pure
