/- ImageSets: any set written, and any octets read as one, the document's answer; no condition but the law's own. -/
import Derived.Test.YtldmfaaoifjhaaaZImageSets
import Derived.Test.YtldmfaaoifjhaaaMPx2
import Derived.Test.YtldmfaaoifjhaaaMPx3
import Derived.Test.YtldmfaaoifjhaaaMPx4
set_option linter.unusedVariables false
set_option linter.unusedSimpArgs false
set_option linter.unusedSectionVars false
namespace Go.Proofs.Ytldmfaaoifjhaaa.Pure
open Go.RowKit Go.Proofs.Ytldmfaaoifjhaaa.MP Go.Proofs.YtldmfaaoifjhaaaW.PrintWords Go.Proofs.YtldmfaaoifjhaaaW.PrintLast Go.Proofs.Ytldmfaaoifjhaaa.Med
theorem octs_of (l : List Int) (h : ∀ x ∈ l, (Lit.int .u8 x).wf = true) : ∃ m : List Nat, l = ints m ∧ ∀ x ∈ m, x < 256 := by
  induction l with
  | nil => exact ⟨[], rfl, by simp⟩
  | cons x l ih =>
    obtain ⟨m, rfl, hm⟩ := ih fun y hy => h y (List.mem_cons_of_mem _ hy)
    have hx := h x List.mem_cons_self
    have h0 : IntKind.u8.min = 0 := by decide
    have h1 : IntKind.u8.max = 255 := by decide
    simp [Lit.wf, h0, h1] at hx
    obtain ⟨n, rfl⟩ := Int.eq_ofNat_of_zero_le hx.1
    refine ⟨n :: m, rfl, fun y hy => ?_⟩
    rcases List.mem_cons.1 hy with rfl | hy
    · omega
    · exact hm y hy
theorem both_leaves {b : List Nat} (hb : ∀ c ∈ b, c < 256) {k : Nat} (hk : 50000 ≤ k) : ∃ (a : Int) (L : List Nat) (e : Int), image_Leaves.f k (ints b) = some (a, ints L, e) ∧ medlarref17_Leaves.f k (ints b) = some (a, ints L, e) ∧ L.length ≤ 10000 := by
  by_cases c1 : b.length > 65536
  · refine ⟨0, [], 3, ?_, ?_, by simp⟩
    · unfold image_Leaves.f; rw [if_pos (by rw [ints_len]; omega)]; rfl
    · unfold medlarref17_Leaves.f; rw [if_pos (by rw [ints_len]; omega)]; rfl
  by_cases c2 : b.length < 7 ∨ (b.length - 7) % 8 ≠ 0
  · obtain ⟨k, rfl⟩ : ∃ n, k = n + 1 := ⟨k - 1, by omega⟩
    refine ⟨0, [], 2, ?_, ?_, by simp⟩
    · unfold image_Leaves.f; rw [if_neg (by rw [ints_len]; omega), if_pos (by rw [ints_len]; exact c2)]; rfl
    · unfold medlarref17_Leaves.f
      rw [if_neg (by rw [ints_len]; omega)]
      by_cases c3 : b.length < 7
      · rw [if_pos (by rw [ints_len]; omega), medlarref17_Leaves.j0, if_pos rfl]; rfl
      · have tm : (Int.tmod (wrap64 (((ints b).length : Int) - 7)) 8 != 0) = true := by
          rw [ints_len, w64 (by omega) (by omega), Int.tmod_eq_emod_of_nonneg (by omega)]
          simp only [bne_iff_ne, ne_eq]; omega
        rw [if_neg (by rw [ints_len]; omega), tm, medlarref17_Leaves.j0, if_pos rfl]; rfl
  obtain ⟨m, hm⟩ : ∃ m, b.length = 7 + 8 * m := ⟨(b.length - 7) / 8, by omega⟩
  have h7 : 2 < b.length := by omega
  rw [Leaves_eq hb (by omega) hm (by omega) h7, rLeaves17_eq hb (by omega) hm hk h7]
  unfold rdl
  by_cases c : Lst ((b[2] : Nat) : Int) (sm (dn b) m).1 ∧ txt b[2] (sm (dn b) m).1 = b
  · rw [if_pos c]; exact ⟨_, _, _, rfl, rfl, by rw [sm_len]; omega⟩
  · rw [if_neg c]; exact ⟨0, [], 2, rfl, rfl, by simp⟩
theorem live17' : medlarlaw17_live.f 200 = some true := by decide +kernel
theorem ImageSets : medlarlaw17_ImageSets.Pure := by
  intro h l1 l2 w0 n1 s1 w1 n2 s2 w2
  obtain ⟨l, rfl, hl⟩ := ints_of l1 w1
  obtain ⟨b, rfl, hb⟩ := octs_of l2 w2
  refine ⟨60000, ?_⟩
  have lv : medlarlaw17_live.f 60000 = some true := at_rounds (g := fun k => medlarlaw17_live.f k) medlarlaw17_live.mono (by omega) live17'
  obtain ⟨K, hK⟩ : ∃ K : Nat, K = 60000 := ⟨_, rfl⟩
  rw [← hK] at lv ⊢
  have J : ∀ x, (x = false → l.length ≤ 1030) → medlarlaw17_ImageSets.j0 K h (ints l) (ints b) true x = some true := by
    intro x hx
    obtain ⟨k, rfl⟩ : ∃ n, K = n + 1 := ⟨K - 1, by omega⟩
    cases x
    · have ll := hx rfl
      obtain ⟨a, L, e, e1, e2, eL⟩ := both_leaves hb (k := k) (by omega)
      rw [medlarlaw17_ImageSets.j0, if_neg (by simp), Set_eq h hl (by omega) (by omega), rSet_eq h hl (by omega) (by omega), e1, e2]
      simp only [bnd]
      unfold medlarref16_SameBytes.f
      simp only [bnd]
      rw [Same2_eq L L (by omega) (by omega) (by omega)]
      simp
    · rw [medlarlaw17_ImageSets.j0, if_pos rfl]
  unfold medlarlaw17_ImageSets.f
  rw [lv]; simp only [bnd]
  rw [ints_len]
  repeat' split
  all_goals exact J _ (fun z => by first | omega | cases z)
end Go.Proofs.Ytldmfaaoifjhaaa.Pure
