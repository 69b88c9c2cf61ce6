/- What a subset is split into: each part may be, is useful, they do not touch, and they have its leaves. -/
import Derived.Test.YtmaaibcnfhbajaaMT
set_option linter.unusedVariables false
set_option linter.unusedSimpArgs false
namespace Go.Proofs.Ytmaaibcnfhbajaa.Med
open Go.RowKit Go.Proofs.YtmaaibcnfhbajaaW.PrintWords Go.Proofs.YtmaaibcnfhbajaaW.PrintMore Go.Proofs.Ytmaaibcnfhbajaa.MP

theorem nxt_gt {h i : Nat} (hi' : i < h) : i < nxt h i ∧ nxt h i ≤ h := by
  have := stp_pos h
  have h1 : i < (i / stp h + 1) * stp h := by
    have := Nat.div_add_mod i (stp h)
    have h2 := Nat.mod_lt i (show stp h > 0 by omega)
    rw [Nat.add_mul, Nat.one_mul, Nat.mul_comm]
    omega
  unfold nxt; omega
theorem nxt_spc (h i : Nat) : Spc h (nxt h i) := by
  rw [spc_iff]
  unfold nxt
  by_cases c : (i / stp h + 1) * stp h ≤ h
  · left; rw [Nat.min_eq_left c]; exact Nat.mul_mod_left _ _
  · right; omega
/-- The two parts of one that is not useful. -/
theorem part_sb {h i j : Nat} (s : Sb h i j) (c : ¬ Usf h i j) (h0 : j ≠ 0) :
    let m := anc j (nxt h i.log2)
    m.log2 = nxt h i.log2 ∧ i.log2 < m.log2 ∧ m.log2 < j.log2 ∧ Sb h i m ∧ Sb h m j ∧ m ≠ 0 := by
  obtain ⟨dj, ne, ab⟩ := s.2.resolve_left h0
  have hn1 : ¬ Spc h i.log2 := fun z => c ((usf_j _ _ h0).2 (.inl z))
  have hn2 : ¬ (j.log2 ≤ nxt h i.log2) := fun z => c ((usf_j _ _ h0).2 (.inr z))
  have hi1 : i.log2 < h := Nat.lt_of_le_of_ne s.1.2.2.2 (fun z => hn1 (.inr z))
  obtain ⟨g1, g2⟩ := nxt_gt hi1
  intro m
  have hj0 := dj.2.2.1
  have ml : m.log2 = nxt h i.log2 := anc_log2 hj0 (by omega)
  have m0 : m ≠ 0 := anc_ne hj0
  have am : Abv m j := abv_anc hj0 (by omega)
  have ai : Abv i m := Abv.total hj0 ab am (by omega)
  have dm : Nd h m := ⟨s.1.1, s.1.2.1, m0, by omega⟩
  refine ⟨ml, by omega, by omega, ⟨s.1, .inr ⟨dm, fun e => ?_, ai⟩⟩, ⟨dm, .inr ⟨dj, fun e => ?_, am⟩⟩, m0⟩
  · rw [e] at g1 ml; omega
  · rw [e] at ml; omega
theorem spl_one {h i j : Nat} (c : Usf h i j ∨ j = 0) : spl h i j = [(i, j)] := by unfold spl; rw [if_pos c]
theorem spl_two {h i j : Nat} (c : ¬ (Usf h i j ∨ j = 0)) : spl h i j = [(i, anc j (nxt h i.log2)), (anc j (nxt h i.log2), j)] := by unfold spl; rw [if_neg c]
theorem two_in {h i m j : Nat} (s1 : Sb h i m) (s2 : Sb h m j) (m0 : m ≠ 0) (j0 : j ≠ 0) (p : Nat) :
    (In h i m p ∧ ¬ In h m j p ∧ In h i j p) ∨ (¬ In h i m p ∧ In h m j p ∧ In h i j p) ∨ (¬ In h i m p ∧ ¬ In h m j p ∧ ¬ In h i j p) := by
  obtain ⟨dm, _, a1⟩ := s1.2.resolve_left m0
  obtain ⟨dj, _, a2⟩ := s2.2.resolve_left j0
  have b1 := abv_lohi s1.1 dm a1
  have b2 := abv_lohi dm dj a2
  simp only [in_iff]
  omega
theorem two_sb {h i m j : Nat} (s1 : Sb h i m) (s2 : Sb h m j) (m0 : m ≠ 0) (j0 : j ≠ 0) : Sb h i j := by
  obtain ⟨dm, n1, a1⟩ := s1.2.resolve_left m0
  obtain ⟨dj, n2, a2⟩ := s2.2.resolve_left j0
  refine ⟨s1.1, .inr ⟨dj, fun e => ?_, Abv.trans dj.2.2.1 a1 a2⟩⟩
  subst e
  exact n1 (a1.antisymm a2)
theorem two_tot {h i m j : Nat} (s1 : Sb h i m) (s2 : Sb h m j) (m0 : m ≠ 0) (j0 : j ≠ 0) : tot (spn h i m) + tot (spn h m j) = tot (spn h i j) := by
  have t1 := spn_tot s1
  have t2 := spn_tot s2
  have t3 := spn_tot (two_sb s1 s2 m0 j0)
  rw [if_neg m0] at t1
  rw [if_neg j0] at t2 t3
  omega
theorem two_usf {h i j : Nat} (s : Sb h i j) (c : ¬ Usf h i j) (h0 : j ≠ 0) : Usf h i (anc j (nxt h i.log2)) ∧ Usf h (anc j (nxt h i.log2)) j := by
  obtain ⟨ml, _, _, _, _, m0⟩ := part_sb s c h0
  refine ⟨(usf_j _ _ m0).2 (.inr (by rw [ml]; exact Nat.le_refl _)), (usf_j _ _ h0).2 (.inl ?_)⟩
  rw [ml]; exact nxt_spc _ _
theorem rdT_sbs {l : List (Nat × Nat)} {i : Nat} (h : i < l.length) : rd_T24 (sbs l) (i : Int) = ⟨(l[i].1 : Int), (l[i].2 : Int)⟩ := by
  unfold rd_T24 sbs
  simp [List.getD_eq_getElem?_getD, h]
theorem sbs_len (l : List (Nat × Nat)) : (sbs l).length = l.length := by simp [sbs]
/-- Each part may be, and is a node's. -/
theorem spl_sb {h i j : Nat} (s : Sb h i j) : ∀ p ∈ spl h i j, Sb h p.1 p.2 := by
  intro p hp
  by_cases c : Usf h i j ∨ j = 0
  · rw [spl_one c] at hp
    simp only [List.mem_singleton] at hp
    subst hp; exact s
  · rw [spl_two c] at hp
    obtain ⟨_, _, _, s1, s2, _⟩ := part_sb s (fun z => c (.inl z)) (fun z => c (.inr z))
    simp only [List.mem_cons, List.not_mem_nil, or_false] at hp
    rcases hp with rfl | rfl
    · exact s1
    · exact s2
def sumtot (h : Nat) : List (Nat × Nat) → Nat
  | [] => 0
  | p :: l => tot (spn h p.1 p.2) + sumtot h l
theorem spl_tot {h i j : Nat} (s : Sb h i j) : sumtot h (spl h i j) = tot (spn h i j) := by
  by_cases c : Usf h i j ∨ j = 0
  · rw [spl_one c]; simp [sumtot]
  · rw [spl_two c]
    have c1 : ¬ Usf h i j := fun z => c (.inl z)
    have c2 : j ≠ 0 := fun z => c (.inr z)
    obtain ⟨_, _, _, s1, s2, m0⟩ := part_sb s c1 c2
    have := two_tot s1 s2 m0 c2
    simp only [sumtot]; omega
end Go.Proofs.Ytmaaibcnfhbajaa.Med
