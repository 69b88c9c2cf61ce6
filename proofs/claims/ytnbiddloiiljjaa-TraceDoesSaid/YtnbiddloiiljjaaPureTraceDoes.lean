/- TraceDoes: for every height, scheme, list of subsets, decoder, probe and number of parts: the decoder's answer, the halves, the bound, and what tracing comes to are the document's; no condition. -/
import Derived.Test.YtnbiddloiiljjaaZTraceDoes
import Derived.Test.YtnbiddloiiljjaaMPx7
import Derived.Test.YtnbiddloiiljjaaMPx8
set_option linter.unusedVariables false
set_option linter.unusedSimpArgs false
set_option linter.unusedSectionVars false
namespace Go.Proofs.Ytnbiddloiiljjaa.Pure
open Go.RowKit Go.Proofs.Ytnbiddloiiljjaa.MP Go.Proofs.YtnbiddloiiljjaaW.PrintWords Go.Proofs.YtnbiddloiiljjaaW.PrintLast Go.Proofs.Ytnbiddloiiljjaa.Med
theorem does_l {h s : Int} {l : List (Nat × Nat)} (hl : l.length ≤ 60) (bl : Bdd l) (a : Bool) (e x g j : Int) (v : Bool) (p n : Int) :
    ∀ (q t k : Nat), t + q = l.length → q + 300 ≤ k →
    medlarlaw23_TraceDoes.l0 k h s true a e a e x g x g j j (sbs l) (l.length : Int) (t : Int) v p n v p n = some true := by
  intro q
  induction q with
  | zero =>
    intro t k ht hk
    obtain ⟨k, rfl⟩ : ∃ m, k = m + 1 := ⟨k - 1, by omega⟩
    rw [medlarlaw23_TraceDoes.l0, if_neg (by omega), if_pos rfl, if_pos (by simp), if_pos rfl, if_pos rfl, if_pos rfl, if_pos (by simp)]
    simp
  | succ q ih =>
    intro t k ht hk
    obtain ⟨k, rfl⟩ : ∃ m, k = m + 1 := ⟨k - 1, by omega⟩
    have tl : t < l.length := by omega
    have b := bl _ (List.getElem_mem tl)
    rw [medlarlaw23_TraceDoes.l0, if_pos (by omega), if_pos (by omega), if_pos (by rw [sbs_len]; omega), rdT_sbs tl]
    dsimp only
    rw [Halves_eq h s b.1 b.2 (k := k) (by omega), rHalves_eq h s b.1 b.2 (k := k) (by omega)]; simp only [bnd]
    have hlen : ∀ r : List S24 × Int, r.1.length ≤ 2 → medlarref08_Same.f k r.1 r.1 = some true := fun r hr => by rw [same8_eq _ _ (by omega) (k := k) (by omega)]; simp
    rw [hlen _ (by repeat' split <;> simp [sbs])]; simp only [bnd]
    rw [if_pos (by trivial), if_pos (by trivial), w64 (by omega) (by omega), show (t : Int) + 1 = ((t + 1 : Nat) : Int) by omega]
    exact ih (t + 1) k (by omega) (by omega)
theorem TraceDoes : ∀ (a0 a1 : Int) (l2 : List S24) (a3_0 : Bool) (l3_1 : List Int) (l3_2 : List Bool) (a4 a5 : Int), (Lit.int .i64 a0).wf = true → (Lit.int .i64 a1).wf = true → l2.length ≤ maxLen → (∀ x ∈ l2, (Lit.int .u64 x.f0).wf = true ∧ (Lit.int .u64 x.f1).wf = true) → l3_1.length ≤ maxLen → (∀ x ∈ l3_1, (Lit.int .u64 x).wf = true) → l3_2.length ≤ maxLen → (Lit.int .i64 a4).wf = true → (Lit.int .i64 a5).wf = true →
    ∃ k, medlarlaw23_TraceDoes.f k a0 a1 l2 a3_0 l3_1 l3_2 a4 a5 = some true := by
  intro h s l2 pl l3 S n m w0 w1 y2 w2 y3 w3 y4 w4 w5
  obtain ⟨l, rfl, bl⟩ := sbs_of l2 w2
  obtain ⟨T, rfl, bT⟩ := ints_of l3 w3
  refine ⟨2500, ?_⟩
  unfold medlarlaw23_TraceDoes.f
  rw [live23 (by omega)]; simp only [bnd]
  rw [few_eq]; simp only [bnd]
  rw [ints_len, sbs_len]
  by_cases few : T.length ≤ 20 ∧ S.length ≤ 300 ∧ l.length ≤ 60
  · rw [decide_eq_true few, if_pos rfl, Ask_eq h pl bT (by omega) S n bl (by omega) (k := 2500) (by omega), rAsk_eq h pl bT few.1 S n bl few.2.2 (k := 2500) (by omega), Bound_eq h m (k := 2500) (by omega), rTBound_eq h m (k := 2500) (by omega), Trace_eq h s pl bT (by omega) S bl (k := 2500) (by omega) (by omega), rTrace_eq h s pl bT few.1 S bl few.2.2 (k := 2500) (by omega)]; simp only [bnd]
    exact does_l few.2.2 bl _ _ _ _ _ _ _ _ l.length 0 2500 (by omega) (by omega)
  · rw [decide_eq_false few, if_neg (by simp)]
end Go.Proofs.Ytnbiddloiiljjaa.Pure
