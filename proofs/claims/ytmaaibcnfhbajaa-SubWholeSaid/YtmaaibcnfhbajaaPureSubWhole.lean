/- SubWhole: for every height and every subset: without J it has all leaves below its I; with one it has fewer, does not touch what is below J, and both together have all; no condition. -/
import Derived.Test.YtmaaibcnfhbajaaMT
import Derived.Test.YtmaaibcnfhbajaaMV8
import Derived.Test.YtmaaibcnfhbajaaMPx17
set_option linter.unusedVariables false
namespace Go.Proofs.Ytmaaibcnfhbajaa.Pure
open Go.RowKit Go.Proofs.Ytmaaibcnfhbajaa.MP Go.Proofs.YtmaaibcnfhbajaaW.PrintWords Go.Proofs.YtmaaibcnfhbajaaW.PrintLast Go.Proofs.Ytmaaibcnfhbajaa.Med

theorem SubWhole : medlarlaw08_SubWhole.Pure := by
  intro h i j w0 w1 w2
  obtain ⟨i, rfl, hi'⟩ := wf_u64 w1
  obtain ⟨j, rfl, hj⟩ := wf_u64 w2
  have z0 : (0 : Nat) < 18446744073709551616 := by omega
  have e0 : ((0 : Nat) : Int) = 0 := rfl
  refine ⟨(100 : Nat) + 1, ?_⟩
  generalize hK : (100 : Nat) = K
  have hL := fun (a b : Nat) ha hb => sLeaves_eq h (i := a) (j := b) ha hb K
  have hL0 := fun (a : Nat) ha => sLeaves_eq h (i := a) (j := 0) ha z0 K
  rw [e0] at hL0
  unfold medlarlaw08_SubWhole.f
  rw [live8 (by omega), hL i j hi' hj, hL0 i hi']
  simp only [Option.bind_some]
  by_cases s : Sb h.toNat i j
  · have s0 : Sb h.toNat i 0 := ⟨s.1, .inl rfl⟩
    have hh : Hi h := by have := s.1; rw [nd_iff] at this; rw [hi_iff]; omega
    have n1 := Many_eq h hh (spn_rise s) (k := K + 1) (by have := spn_len h.toNat i j; omega) (by have := spn_len h.toNat i j; omega)
    have n2 := Many_eq h hh (spn_rise s0) (k := K + 1) (by have := spn_len h.toNat i 0; omega) (by have := spn_len h.toNat i 0; omega)
    have t1 := spn_tot s
    have t2 := spn_tot s0
    have p1 : wd h.toNat i ≤ 4294967296 := pow_le_h (by have := s.1.2.1; omega)
    simp only [if_pos s, if_pos s0, n1, n2, Option.bind_some, if_true]
    have e1 : (((sps (spn h.toNat i 0)).length : Int) != 1) = false := by simp [sps, spn]
    rw [e1]
    simp only [medlarlaw08_SubWhole.j0]
    by_cases c : j = 0
    · subst c
      simp
    · have dj := (s.2.resolve_left c).1
      have sj0 : Sb h.toNat j 0 := ⟨dj, .inl rfl⟩
      have tj := spn_tot sj0
      have tt := Touch_eq h hi' hj hj z0 (k := K) (by omega)
      rw [e0] at tt
      have n3 := Many_eq h hh (spn_rise sj0) (k := K) (by have := spn_len h.toNat j 0; omega) (by have := spn_len h.toNat j 0; omega)
      have nt : tch (spn h.toNat i j) (spn h.toNat j 0) = false := by
        rw [Bool.eq_false_iff, ne_eq, tch_spn s sj0]
        rintro ⟨p, h1, h2⟩
        rw [in_iff] at h1 h2
        omega
      have hw := wd_lt s c
      have hp := wd_pos h.toNat j
      have hLj := sLeaves_eq h (i := j) (j := 0) hj z0 99
      rw [e0, show 99 + 1 = K by omega] at hLj
      have ss : Sb h.toNat i j ∧ Sb h.toNat j 0 := ⟨s, sj0⟩
      rw [if_neg (by simp), if_neg (by omega), tt, if_pos ss, hLj, if_pos sj0]
      simp only [Option.bind_some, if_true, n3, nt]
      rw [if_neg c] at t1
      simp only [if_true] at t2 tj
      rw [if_neg (by simp), if_pos (by omega), show ((tot (spn h.toNat i j) : Int) + (tot (spn h.toNat j 0) : Int)) = (tot (spn h.toNat i 0) : Int) by omega, wu64 (by omega) (by omega)]
      simp
  · simp [if_neg s]
end Go.Proofs.Ytmaaibcnfhbajaa.Pure
