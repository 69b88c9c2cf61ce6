/- SteinerDown: for every height, list of at most thirty numbers, node and leaf: the deepest node above all below one is the same from there; a set with one leaf more has no deeper one; no condition. -/
import Derived.Test.YtoikjfcdpiikbaaZSteinerDown
import Derived.Test.YtoikjfcdpiikbaaMPx34
set_option linter.unusedVariables false
set_option linter.unusedSimpArgs false
set_option linter.unusedSectionVars false
namespace Go.Proofs.Ytoikjfcdpiikbaa.Pure
open Go.RowKit Go.Proofs.Ytoikjfcdpiikbaa.MP Go.Proofs.YtoikjfcdpiikbaaW.PrintWords Go.Proofs.YtoikjfcdpiikbaaW.PrintLast Go.Proofs.Ytoikjfcdpiikbaa.Med
theorem SteinerDown : medlarlaw09_SteinerDown.Pure := by
  intro h l n p w0 w1 w2 w3 w4 w5
  obtain ⟨l, rfl, hb⟩ := ints_of l w3
  obtain ⟨n, rfl, hn⟩ := wf_u64 w4
  obtain ⟨p, rfl, hp⟩ := wf_u64 w5
  refine ⟨40100, ?_⟩
  generalize hK : (40100 : Nat) = K
  obtain ⟨K, rfl⟩ : ∃ j, K = j + 2 := ⟨K - 2, by omega⟩
  unfold medlarlaw09_SteinerDown.f
  rw [live9 (by omega)]; simp only [bnd]
  rw [ints_len] at *
  by_cases l30 : (l.length : Int) > 30
  · rw [if_pos l30]
  · rw [if_neg l30, Down_eq h hb (by omega) hn (by omega)]; simp only [bnd]
    by_cases c : Lst h l ∧ Nd h.toNat n
    · rw [if_pos c]
      by_cases z : inT h.toNat l n = true
      · rw [if_pos z]; dsimp only
        obtain ⟨⟨hh, n1, hl, hu⟩, nd⟩ := c
        have cl : Lst h l := ⟨hh, n1, hl, hu⟩
        have dd : Nd h.toNat (dwn h.toNat l n) := ⟨nd.1, nd.2.1, dwn_ne hl hu z, dwn_le hl hu z⟩
        have dlt := dd.lt33
        have c1 : Lst h l ∧ Nd h.toNat n := ⟨cl, nd⟩
        have c2 : Lst h l ∧ Nd h.toNat (dwn h.toNat l n) := ⟨cl, dd⟩
        rw [if_pos (by trivial), Down_eq h hb (by omega) (by omega) (by omega), lBelow_eq h hb (by omega) hn (by omega), lBelow_eq h hb (by omega) (by omega) (by omega)]; simp only [bnd]
        rw [if_pos c1, if_pos c2, if_pos c2, if_pos (dwn_inT hl hu z), dwn_dwn hl hu z, dwn_blw hl hu z]; dsimp only
        have bl : (blw h.toNat l n).length ≤ l.length := List.length_filter_le _ _
        rw [if_pos (by trivial), if_pos (by trivial), if_pos (by trivial), if_pos (by trivial), Same2_eq _ _ (by omega) (by omega) (by omega)]; simp only [bnd]
        rw [decide_true, medlarlaw09_SteinerDown.j0, if_neg (by simp), With_eq h hb (by omega) hp (by omega)]; simp only [bnd]
        by_cases lp : Lfi h p
        · have c3 : Lst h l ∧ Lfi h p := ⟨cl, lp⟩
          rw [if_pos c3]
          by_cases m : p ∈ l
          · rw [if_pos m]; simp
          · have l4 : l.length ≠ 1024 := by omega
            rw [if_neg m, if_neg l4]; dsimp only
            have ci := ins_lst cl lp m l4
            have il := ins_len (l := l) (p := p)
            have pb : ∀ x ∈ ins l p, x < 18446744073709551616 := fun x hx => by
              rcases mem_ins.1 hx with y | rfl
              · exact hb x y
              · exact hp
            obtain ⟨i1, i2⟩ := dwn_more hl hu ci.2.2.1 ci.2.2.2 (fun i hi => mem_ins.2 (.inl hi)) z
            have de : Nd h.toNat (dwn h.toNat (ins l p) n) := ⟨nd.1, nd.2.1, dwn_ne ci.2.2.1 ci.2.2.2 i1, dwn_le ci.2.2.1 ci.2.2.2 i1⟩
            have elt := de.lt33
            have c4 : Lst h (ins l p) ∧ Nd h.toNat n := ⟨ci, nd⟩
            have c5 : Nd h.toNat (dwn h.toNat (ins l p) n) ∧ Nd h.toNat (dwn h.toNat l n) := ⟨de, dd⟩
            rw [if_pos (by trivial), Down_eq h pb (by omega) hn (by omega)]; simp only [bnd]
            rw [if_pos c4, if_pos i1]; dsimp only
            rw [Above_eq h (by omega) (by omega)]; simp only [bnd]
            rw [if_pos c5, decide_eq_true i2]; simp
        · have c3 : ¬ (Lst h l ∧ Lfi h p) := fun z => lp z.2
          rw [if_neg c3]; simp
      · rw [if_neg z]; simp
    · rw [if_neg c]; simp
end Go.Proofs.Ytoikjfcdpiikbaa.Pure
