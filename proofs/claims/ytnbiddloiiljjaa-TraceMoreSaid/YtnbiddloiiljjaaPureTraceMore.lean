/- TraceMore: for every height, scheme, list of subsets, list of leaves, one leaf more, and probe: a decoder that has more answers yes no less often; of one that has what no leaf has nothing is found, with one probe; no condition. -/
import Derived.Test.YtnbiddloiiljjaaZTraceMore
import Derived.Test.YtnbiddloiiljjaaMPx19
import Derived.Test.YtnbiddloiiljjaaMPx4
set_option linter.unusedVariables false
set_option linter.unusedSimpArgs false
set_option linter.unusedSectionVars false
namespace Go.Proofs.Ytnbiddloiiljjaa.Pure
open Go.RowKit Go.Proofs.Ytnbiddloiiljjaa.MP Go.Proofs.YtnbiddloiiljjaaW.PrintWords Go.Proofs.YtnbiddloiiljjaaW.PrintLast Go.Proofs.Ytnbiddloiiljjaa.Med
theorem TraceMore : ∀ (a0 a1 : Int) (l2 : List S24) (l3 : List Int) (a4 a5 : Int), (Lit.int .i64 a0).wf = true → (Lit.int .i64 a1).wf = true → l2.length ≤ maxLen → (∀ x ∈ l2, (Lit.int .u64 x.f0).wf = true ∧ (Lit.int .u64 x.f1).wf = true) → l3.length ≤ maxLen → (∀ x ∈ l3, (Lit.int .u64 x).wf = true) → (Lit.int .u64 a4).wf = true → (Lit.int .i64 a5).wf = true →
    ∃ k, medlarlaw23_TraceMore.f k a0 a1 l2 l3 a4 a5 = some true := by
  intro h s l2 l3 a4 n w0 w1 y2 w2 y3 w3 w4 w5
  obtain ⟨l, rfl, bl⟩ := sbs_of l2 w2
  obtain ⟨T, rfl, bT⟩ := ints_of l3 w3
  obtain ⟨i, rfl, hi'⟩ := wf_u64 w4
  refine ⟨2000, ?_⟩
  unfold medlarlaw23_TraceMore.f
  rw [live23 (by omega)]; simp only [bnd]
  rw [few_eq]; simp only [bnd]
  rw [ints_len, sbs_len]
  by_cases few : T.length ≤ 20 ∧ ([] : List Bool).length ≤ 300 ∧ l.length ≤ 60
  · have te := Trace_eq h s false (T := []) (by simp) (by simp) [] bl (k := 2000) (by simp) (by omega)
    rw [show ints [] = [] from rfl] at te
    have X : ((trace_Trace.f 2000 h s (sbs l) false ([] : List Int) ([] : List Bool)).bind fun bt => (if True then (if bt.2.2.2 = 0 then (some (!bt.1 && (bt.2.1 == 0 && (bt.2.2.1 == 1)))) else (some true)) else (some false))) = some true := by
      rw [te]; simp only [bnd]
      by_cases c : Trc h s [] l
      · have ev : vrd (asks false h.toNat [] []) h.toNat s l = (false, 0, 1, 0) := by
          unfold vrd asks
          rw [if_neg (by simp)]
        rw [if_pos c, ev]; rfl
      · rw [if_neg c]; rfl
    have hb2 : ∀ x ∈ ins T i, x < 18446744073709551616 := fun x hx => by
      rcases mem_ins.1 hx with z | z
      · exact bT x z
      · omega
    rw [decide_eq_true few, if_pos rfl, With_eq h bT (by omega) hi' (k := 2000) (by omega)]; simp only [bnd]
    rw [Ask_eq h false bT (by omega) [] n bl (by omega) (k := 2000) (by omega)]; simp only [bnd]
    have no : ∀ (m : List Nat) (e : Int), (∀ x ∈ m, x < 18446744073709551616) → m.length ≤ 21 → e ≠ 0 → ((trace_Ask.f 2000 h false (ints m) ([] : List Bool) n (sbs l)).bind fun bt527 => (if e = 0 then (if (if Lst h T ∧ 0 ≤ n ∧ ∀ q ∈ l, Sb h.toNat q.1 q.2 then (asks false h.toNat T [] n.toNat l, (0 : Int)) else (false, 1)).2 = 0 then (if bt527.2 = 0 then (if (if Lst h T ∧ 0 ≤ n ∧ ∀ q ∈ l, Sb h.toNat q.1 q.2 then (asks false h.toNat T [] n.toNat l, (0 : Int)) else (false, 1)).1 = true then (if bt527.1 = true then ((trace_Trace.f 2000 h s (sbs l) false ([] : List Int) ([] : List Bool)).bind fun bt => (if True then (if bt.2.2.2 = 0 then (some (!bt.1 && (bt.2.1 == 0 && (bt.2.2.1 == 1)))) else (some true)) else (some false))) else (some false)) else ((trace_Trace.f 2000 h s (sbs l) false ([] : List Int) ([] : List Bool)).bind fun bt => (if True then (if bt.2.2.2 = 0 then (some (!bt.1 && (bt.2.1 == 0 && (bt.2.2.1 == 1)))) else (some true)) else (some false)))) else (some false)) else ((trace_Trace.f 2000 h s (sbs l) false ([] : List Int) ([] : List Bool)).bind fun bt => (if True then (if bt.2.2.2 = 0 then (some (!bt.1 && (bt.2.1 == 0 && (bt.2.2.1 == 1)))) else (some true)) else (some false)))) else ((trace_Trace.f 2000 h s (sbs l) false ([] : List Int) ([] : List Bool)).bind fun bt => (if True then (if bt.2.2.2 = 0 then (some (!bt.1 && (bt.2.1 == 0 && (bt.2.2.1 == 1)))) else (some true)) else (some false))))) = some true := by
      intro m e hm hl he
      rw [Ask_eq h false hm (by omega) [] n bl (by omega) (k := 2000) (by omega)]; simp only [bnd]
      rw [if_neg he, X]
    by_cases c : Lst h T ∧ Lfi h i
    · rw [if_pos c]
      by_cases c1 : i ∈ T
      · rw [if_pos c1]; exact no [] 5 (by simp) (by simp) (by omega)
      · rw [if_neg c1]
        by_cases c2 : T.length = 1024
        · rw [if_pos c2]; exact no [] 6 (by simp) (by simp) (by omega)
        · have L2 := ins_lst c.1 c.2 c1 c2
          have il := ins_len (l := T) (p := i)
          rw [if_neg c2]
          dsimp only
          rw [Ask_eq h false hb2 (by omega) [] n bl (by omega) (k := 2000) (by omega)]; simp only [bnd]
          rw [if_pos (by trivial)]
          by_cases d : 0 ≤ n ∧ ∀ q ∈ l, Sb h.toNat q.1 q.2
          · have d1 : Lst h T ∧ 0 ≤ n ∧ ∀ q ∈ l, Sb h.toNat q.1 q.2 := ⟨c.1, d⟩
            have d2 : Lst h (ins T i) ∧ 0 ≤ n ∧ ∀ q ∈ l, Sb h.toNat q.1 q.2 := ⟨L2, d⟩
            rw [if_pos d1, if_pos d2]; dsimp only
            rw [if_pos (by trivial), if_pos (by trivial)]
            by_cases y : asks false h.toNat T [] n.toNat l = true
            · have y2 : asks false h.toNat (ins T i) [] n.toNat l = true := by
                unfold asks at y ⊢
                rw [if_neg (by simp)] at y ⊢
                rw [List.any_eq_true] at y ⊢
                obtain ⟨t, ht, z⟩ := y
                exact ⟨t, mem_ins.2 (.inl ht), z⟩
              rw [if_pos y, if_pos y2]; exact X
            · rw [if_neg y]; exact X
          · have d1 : ¬ (Lst h T ∧ 0 ≤ n ∧ ∀ q ∈ l, Sb h.toNat q.1 q.2) := fun z => d z.2
            rw [if_neg d1]; dsimp only
            rw [if_neg (by omega)]; exact X
    · rw [if_neg c]; exact no [] 1 (by simp) (by simp) (by omega)
  · rw [decide_eq_false few, if_neg (by simp)]
end Go.Proofs.Ytnbiddloiiljjaa.Pure
