/- SubLeaves: for every height, subset and leaf: the subset's leaves are as many as its I has, less those of its J, and are just those that it has; no condition. -/
import Derived.Test.YtmaaibcnfhbajaaMM
import Derived.Test.YtmaaibcnfhbajaaMT
import Derived.Test.YtmaaibcnfhbajaaMV8
import Derived.Test.YtmaaibcnfhbajaaMPx22
set_option linter.unusedVariables false
namespace Go.Proofs.Ytmaaibcnfhbajaa.Pure
open Go.RowKit Go.Proofs.Ytmaaibcnfhbajaa.MP Go.Proofs.YtmaaibcnfhbajaaW.PrintWords Go.Proofs.YtmaaibcnfhbajaaW.PrintLast Go.Proofs.Ytmaaibcnfhbajaa.Med

def anyc (l : List (Nat × Nat)) (p : Nat) : Bool := l.any fun x => decide (x.1 ≤ p) && decide (p ≤ x.2)
theorem leaves_l (h : Int) {i j p : Nat} (hi' : i < 18446744073709551616) (hj : j < 18446744073709551616) (hp : p < 18446744073709551616) (s : Sb h.toNat i j) (l : List (Nat × Nat)) (hb : l.length ≤ 2) :
    ∀ (q t k : Nat) (b : Bool), t + q = l.length → q + 5 < k →
    medlarlaw08_SubLeaves.l0 k h (p : Int) true b (sps l) (l.length : Int) (t : Int) (i : Int) (j : Int) = some (if Lfi h p then ((b || anyc (l.drop t) p) == decide (In h.toNat i j p)) else !(b || anyc (l.drop t) p)) := by
  intro q
  induction q with
  | zero =>
    intro t k b ht hk
    obtain ⟨k, rfl⟩ : ∃ m, k = m + 1 := ⟨k - 1, by omega⟩
    simp only [medlarlaw08_SubLeaves.l0]
    rw [if_neg (by omega), List.drop_of_length_le (by omega), sHas_eq h hi' hj hp (by omega)]; simp only [Option.bind_some]
    by_cases c : Lfi h p
    · simp [c, s, anyc]
    · simp [c, anyc]
  | succ q ih =>
    intro t k b ht hk
    obtain ⟨k, rfl⟩ : ∃ m, k = m + 1 := ⟨k - 1, by omega⟩
    have d1 : l.drop t = l[t] :: l.drop (t + 1) := List.drop_eq_getElem_cons (by omega)
    have da : anyc (l.drop t) p = ((decide (l[t].1 ≤ p) && decide (p ≤ l[t].2)) || anyc (l.drop (t + 1)) p) := by unfold anyc; rw [d1, List.any_cons]
    simp only [medlarlaw08_SubLeaves.l0]
    rw [if_pos (by omega), if_pos (by omega), if_pos (by rw [sps_len]; omega), rdT_sps (show t < l.length by omega)]
    simp only
    rw [w64 (x := (t : Int) + 1) (by omega) (by omega), show (t : Int) + 1 = ((t + 1 : Nat) : Int) by omega]
    rw [ih (t + 1) k true (by omega) (by omega), ih (t + 1) k _ (by omega) (by omega), ih (t + 1) k false (by omega) (by omega), da]
    cases b with
    | true => simp
    | false =>
      by_cases c1 : l[t].1 ≤ p
      · have c2 : (l[t].1 : Int) ≤ (p : Int) := by omega
        have c3 : ((p : Int) ≤ (l[t].2 : Int)) ↔ p ≤ l[t].2 := by omega
        simp [c1, c2, c3]
      · have c2 : ¬ (l[t].1 : Int) ≤ (p : Int) := by omega
        simp [c1, c2]
theorem anyc_iff {h i j : Nat} (s : Sb h i j) (p : Nat) : anyc (spn h i j) p = decide (In h i j p) := by
  rw [Bool.eq_iff_iff, decide_eq_true_iff, ← mem_spn s]
  simp [anyc]
theorem SubLeaves : medlarlaw08_SubLeaves.Pure := by
  intro h i j p w0 w1 w2 w3
  obtain ⟨i, rfl, hi'⟩ := wf_u64 w1
  obtain ⟨j, rfl, hj⟩ := wf_u64 w2
  obtain ⟨p, rfl, hp⟩ := wf_u64 w3
  refine ⟨(100 : Nat) + 2, ?_⟩
  generalize hK : (100 : Nat) = K
  unfold medlarlaw08_SubLeaves.f
  rw [live8 (by omega), sLeaves_eq h hi' hj]
  simp only [Option.bind_some]
  by_cases s : Sb h.toNat i j
  · have hh : Hi h := by have := s.1; rw [nd_iff] at this; rw [hi_iff]; omega
    have n1 := Many_eq h hh (spn_rise s) (k := K + 2) (by have := spn_len h.toNat i j; omega) (by have := spn_len h.toNat i j; omega)
    have t1 := spn_tot s
    have p1 : wd h.toNat i ≤ 4294967296 := pow_le_h (by have := s.1.2.1; omega)
    have q1 := hi_eq s.1
    have g1 := wd_pos h.toNat i
    have lo33 : lo h.toNat i ≤ hi h.toNat i := by omega
    have hi33 := hi_lt s.1
    have hp33 : 2 ^ h.toNat ≤ 4294967296 := pow_le_h (by have := s.1.2.1; omega)
    have L := leaves_l h hi' hj hp s (spn h.toNat i j) (spn_len _ _ _) (spn h.toNat i j).length 0 K false (by omega) (by have := spn_len h.toNat i j; omega)
    rw [List.drop_zero, anyc_iff s] at L
    have fin : medlarlaw08_SubLeaves.l0 K h (p : Int) true false (sps (spn h.toNat i j)) ((sps (spn h.toNat i j)).length : Int) 0 (i : Int) (j : Int) = some true := by
      rw [sps_len, show (0 : Int) = ((0 : Nat) : Int) from rfl, L]
      by_cases c : Lfi h p
      · simp [c]
      · have : ¬ In h.toNat i j p := by
          rw [in_iff]; intro z
          exact c ⟨hh, by omega⟩
        simp [c, this]
    simp only [if_pos s, n1, Option.bind_some, if_true]
    rw [nLeaves_eq h hi', if_pos s.1]; simp only [Option.bind_some]
    have e1 : IntKind.u64.wrap (IntKind.u64.wrap ((hi h.toNat i : Int) - (lo h.toNat i : Int)) + 1) = (wd h.toNat i : Int) := by
      rw [wu64 (x := (hi h.toNat i : Int) - (lo h.toNat i : Int)) (by omega) (by omega), wu64 (by omega) (by omega)]; omega
    rw [e1]
    by_cases c : j = 0
    · subst c
      rw [if_pos (by rfl)]
      simp only [if_true, Nat.add_zero] at t1
      simp only [medlarlaw08_SubLeaves.j0, if_true]
      rw [if_pos (by omega)]
      simp only [medlarlaw08_SubLeaves.j1]
      rw [if_neg (by simp; omega)]
      exact fin
    · have dj := (s.2.resolve_left c).1
      have q2 := hi_eq dj
      have g2 := wd_pos h.toNat j
      have hj33 := hi_lt dj
      have hw := wd_lt s c
      rw [if_neg c] at t1
      rw [if_neg (by omega), nLeaves_eq h hj, if_pos dj]; simp only [Option.bind_some, if_true]
      have e2 : IntKind.u64.wrap (IntKind.u64.wrap ((hi h.toNat j : Int) - (lo h.toNat j : Int)) + 1) = (wd h.toNat j : Int) := by
        rw [wu64 (x := (hi h.toNat j : Int) - (lo h.toNat j : Int)) (by omega) (by omega), wu64 (by omega) (by omega)]; omega
      rw [e2, wu64 (by omega) (by omega)]
      simp only [medlarlaw08_SubLeaves.j0, if_true]
      rw [if_pos (by omega)]
      simp only [medlarlaw08_SubLeaves.j1]
      rw [if_neg (by simp; omega)]
      exact fin
  · simp [if_neg s]
end Go.Proofs.Ytmaaibcnfhbajaa.Pure
