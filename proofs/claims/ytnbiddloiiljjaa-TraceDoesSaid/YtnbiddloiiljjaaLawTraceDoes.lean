-- written by a program of this session (wip/tools/rowgen.py) for this seat
import Derived.Test.YtnbiddloiiljjaaK0
import Derived.Test.YtnbiddloiiljjaaRows
import Derived.Test.YtnbiddloiiljjaaMPx8
import Derived.Test.YtnbiddloiiljjaaPureTraceDoes
import Derived.WalkKit
import Derived.ProofKit
import Derived.OpenShut
import Derived.ShutString
import Derived.ChangeOld
import Derived.Below
import Derived.SizedLaws
import Derived.Carry
import Derived.Lib.SmallJoins
import Derived.Deep.SlicePairs
namespace Go.Proofs.Ytnbiddloiiljjaa.traceDoes
open Go.ChangeShapes Go.WideShapes Go.ChangeAt Go.RowKit Go.Deep Go.Proofs.YtnbiddloiiljjaaW.PrintWords
set_option linter.unusedVariables false
set_option linter.unusedSimpArgs false
theorem own : ownKnob Try.prog.godebug = none := by kernel_rfl
theorem laidOut : laidOutB Try.prog = true := by kernel_rfl
theorem two_of {α : Type} {l : List α} (h : l.length = 2) : ∃ a b, l = [a, b] := by
  match l, h with
  | [a, b], _ => exact ⟨a, b, rfl⟩
/-- A slice that was read, by what each element reads as. -/
theorem open_gen {H : Type} {enc : TypeId × Value → H} {P : Program} {W : World} {fuel : Nat} {cs : List Value} {x : DataW H × List MemPlace} {t e : TypeId} {α : Type} (d : Kd α) (Pw : α → Prop) (z0 : α) (ht : P.underlying t = some (.slice e)) (hsz : P.cellsOf e = d.sz)
    (get : ∀ n cs' y, DataW.trod enc P W 0 (fun _ => true) true n e cs' = some y → cs'.length = d.sz → ∃ z : α, d.K W z cs' ∧ Pw z)
    (hf : DataW.trod enc P W 0 (fun _ => true) true fuel t cs = some x) :
    ∃ (a : Option Addr) (l : List α) (cap : Nat), cs = [.slice a l.length cap] ∧ Kd.C d W a l.length l ∧ l.length ≤ cap ∧ cap ≤ maxLen ∧ ∀ y ∈ l, Pw y := by
  rcases Go.Deep.open_slice ht hf with ⟨rfl, _⟩ | ⟨a, len, cap, m, n, D, Pl, rfl, _, hl, hm, hmm, _, hx⟩
  · exact ⟨none, [], 0, rfl, ⟨rfl, by simp, fun h => absurd h (by simp)⟩, by simp, by simp [maxLen], by simp⟩
  · have em : m = cap := by rw [hmm]; exact if_pos rfl
    have each : ∀ i, ∃ q : α × List Value, i < len → q.2.length = d.sz ∧ d.K W q.1 q.2 ∧ Pw q.1 ∧ ∀ j u, q.2[j]? = some u → W.cell? (a.add (i * d.sz + j)) = some u := by
      intro i
      by_cases h : i < len
      · obtain ⟨cs', h1, h2⟩ := hx i (by omega)
        rw [hsz] at h1
        obtain ⟨_, hlen, hcell⟩ := World.cells?_some h1
        obtain ⟨z, hz, hp⟩ := get n cs' _ h2 hlen
        refine ⟨(z, cs'), fun _ => ⟨hlen, hz, hp, fun j u hu => ?_⟩⟩
        have hj : j < cs'.length := (List.getElem?_eq_some_iff.1 hu).1
        have := hcell j (by omega)
        rw [Go.Deep.add_add] at this
        exact this.trans hu
      · exact ⟨(z0, []), fun h' => absurd h' h⟩
    let q := fun i => Classical.choose (each i)
    have hq : ∀ i, i < len → (q i).2.length = d.sz ∧ d.K W (q i).1 (q i).2 ∧ Pw (q i).1 ∧ ∀ j u, (q i).2[j]? = some u → W.cell? (a.add (i * d.sz + j)) = some u := fun i => Classical.choose_spec (each i)
    generalize q = q at hq
    have hlen : ((List.range len).map fun i => (q i).1).length = len := by simp
    refine ⟨some a, (List.range len).map fun i => (q i).1, cap, by rw [hlen], ?_, by rw [hlen]; exact hl, hm, ?_⟩
    · rw [hlen]
      refine ⟨hlen, by simp only [maxLen] at hm; omega, fun _ => ⟨a, rfl, fun j p hj => ?_⟩⟩
      have hjl : j < len := by
        have := (List.getElem?_eq_some_iff.1 hj).1
        rw [hlen] at this; exact this
      obtain ⟨h1, h2, _, h3⟩ := hq j hjl
      have ep : (q j).1 = p := by simpa [hjl] using hj
      subst ep
      exact ⟨_, h1, h2, h3⟩
    · intro y hy
      obtain ⟨i, hi, rfl⟩ := List.mem_map.1 hy
      exact (hq i (List.mem_range.1 hi)).2.2.1
set_option maxRecDepth 100000 in
theorem lifted (os : Os) (started : os.Started) (H : Type) (enc : TypeId × Value → H) :
    ReturnsInHanded {} Try.checked os 4 .any (Rows.traceDoesSpec.pre6 enc Try.prog Try.f4 Rows.traceDoesRow.domain false) (Rows.traceDoesSpec.post enc Try.prog Try.f4 false true false false) := by
  refine returnsInHanded_of_change_sized (C := Try.checked) own started (by kernel_rfl) Try.func4
    (ChangeSpec.witness6 (enc := enc) (C := Try.checked) false ⟨#[], #[.int .i64 0, .int .i64 0, .slice none 0 0, .agg #[.bool false, .slice none 0 0, .slice none 0 0], .int .i64 0, .int .i64 0], []⟩ 8 (by kernel_rfl) (by kernel_rfl) (by kernel_rfl) (by kernel_rfl)) ?_
  intro W base args ds gs before hval0 hW hcnd hsz0 _
  clear hsz0
  have hval : ∀ (j : Nat) t v, Try.f4.params[j]? = some t → args[j]? = some v → Value.okWide Try.prog W .any base t v := hval0
  have hW' := hW
  obtain ⟨p, q, hA0, hV, rfl, hfz, hnd⟩ := hW
  have hA : DataW.TrodAll enc Try.prog W 0 (fun _ => true) true Try.f4.params.toList args.toList ds p := hA0
  rw [Try.params4] at hA hval
  obtain ⟨v0, vs0, d0, ds0, p0, q0, hargs, rfl, rfl, h0, r0⟩ := trodAll_cons hA
  obtain ⟨v1, vs1, d1, ds1, p1, q1, rfl, rfl, rfl, h1, r1⟩ := trodAll_cons r0
  obtain ⟨v2, vs2, d2, ds2, p2, q2, rfl, rfl, rfl, h2, r2⟩ := trodAll_cons r1
  obtain ⟨v3, vs3, d3, ds3, p3, q3, rfl, rfl, rfl, h3, r3⟩ := trodAll_cons r2
  obtain ⟨v4, vs4, d4, ds4, p4, q4, rfl, rfl, rfl, h4, r4⟩ := trodAll_cons r3
  obtain ⟨v5, vs5, d5, ds5, p5, q5, rfl, rfl, rfl, h5, r5⟩ := trodAll_cons r4
  obtain ⟨rfl, rfl, rfl⟩ := trodAll_nil r5
  obtain rfl : args = #[v0, v1, v2, v3, v4, v5] := by cases args; simp_all
  obtain ⟨rfl, rfl⟩ := trodVars_none hV
  have k0 := h0
  have lt0 : ∀ x ∈ p0, x.block < W.heap.size := by obtain ⟨m, hm⟩ := k0; exact DataW.trod_lt m _ _ _ hm
  have k1 := h1
  have lt1 : ∀ x ∈ p1, x.block < W.heap.size := by obtain ⟨m, hm⟩ := k1; exact DataW.trod_lt m _ _ _ hm
  have k2 := h2
  have lt2 : ∀ x ∈ p2, x.block < W.heap.size := by obtain ⟨m, hm⟩ := k2; exact DataW.trod_lt m _ _ _ hm
  have k3 := h3
  have lt3 : ∀ x ∈ p3, x.block < W.heap.size := by obtain ⟨m, hm⟩ := k3; exact DataW.trod_lt m _ _ _ hm
  have k4 := h4
  have lt4 : ∀ x ∈ p4, x.block < W.heap.size := by obtain ⟨m, hm⟩ := k4; exact DataW.trod_lt m _ _ _ hm
  have k5 := h5
  have lt5 : ∀ x ∈ p5, x.block < W.heap.size := by obtain ⟨m, hm⟩ := k5; exact DataW.trod_lt m _ _ _ hm
  obtain ⟨a0, rfl, _, _, w0⟩ := open_int Try.underlying3 (hval 0 3 v0 rfl rfl) h0
  obtain ⟨a1, rfl, _, _, w1⟩ := open_int Try.underlying3 (hval 1 3 v1 rfl rfl) h1
  obtain ⟨b2, len2, cap2, rfl⟩ := okWide_slice Try.underlying26 (hval 2 26 v2 rfl rfl)
  obtain ⟨fuel2, hf2⟩ := h2
  obtain ⟨A2, l2, c2, ecs2, hr2, hc2, hm2, hw2⟩ := open_gen MP.k24 (fun z => (Lit.int .u64 z.f0).wf = true ∧ (Lit.int .u64 z.f1).wf = true) MP.z24 Try.underlying26 (by kernel_rfl) (fun n cs' y hy hl => by obtain ⟨v0, v1, rfl⟩ := two_of hl; obtain ⟨y0, y1, m, hx, _, h0, h1⟩ := trod_struct2 Try.underlying24 hy; have c0_ : Try.prog.cellsOf 22 = 1 := (by kernel_rfl); rw [c0_] at h0 h1; replace h0 : DataW.trod enc Try.prog W 0 (fun _ => true) true m 22 [v0] = some y0 := h0; replace h1 : DataW.trod enc Try.prog W 0 (fun _ => true) true m 22 [v1] = some y1 := h1; obtain ⟨z0, e0, _, w0⟩ := DataW.trod_int Try.underlying22 h0; obtain ⟨z1, e1, _, w1⟩ := DataW.trod_int Try.underlying22 h1; have e0' : v0 = .int .u64 z0 := (by simpa using e0); have e1' : v1 = .int .u64 z1 := (by simpa using e1); exact ⟨⟨z0, z1⟩, by rw [e0', e1']; exact MP.k24_mk _ _, w0, w1⟩) hf2
  simp [Value.cells] at ecs2
  obtain ⟨rfl, rfl, rfl⟩ := ecs2
  obtain ⟨b3_0, b3_1, b3_2, yy3_0, yy3_1, yy3_2, fu3, rfl, _, _, hy3_0, hy3_1, hy3_2⟩ := Go.Joins.open_agg3 Try.underlying42 (by kernel_rfl) (by kernel_rfl) (hval 3 42 v3 rfl rfl) h3
  obtain ⟨a3_0, e3_0, _⟩ := DataW.trod_bool Try.underlying4 hy3_0
  simp at e3_0
  subst e3_0
  obtain ⟨A3_1, l3_1, c3_1, ecs3_1, hr3_1, hc3_1, hm3_1, hw3_1⟩ := open_gen (Kd.int .u64) (fun z => (Lit.int .u64 z).wf = true) 0 Try.underlying39 (by kernel_rfl) (fun n cs' y hy hl => by obtain ⟨v, rfl⟩ := List.length_eq_one_iff.1 hl; obtain ⟨z, e1, _, w⟩ := DataW.trod_int Try.underlying22 hy; simp at e1; exact ⟨z, by rw [e1]; rfl, w⟩) hy3_1
  simp at ecs3_1
  subst ecs3_1
  obtain ⟨A3_2, l3_2, c3_2, ecs3_2, hr3_2, hc3_2, hm3_2, _⟩ := open_gen Kd.bool (fun _ => True) false Try.underlying40 (by kernel_rfl) (fun n cs' y hy hl => by obtain ⟨v, rfl⟩ := List.length_eq_one_iff.1 hl; obtain ⟨z, e1, _⟩ := DataW.trod_bool Try.underlying4 hy; simp at e1; exact ⟨z, by rw [e1]; rfl, trivial⟩) hy3_2
  simp at ecs3_2
  subst ecs3_2
  obtain ⟨a4, rfl, _, _, w4⟩ := open_int Try.underlying3 (hval 4 3 v4 rfl rfl) h4
  obtain ⟨a5, rfl, _, _, w5⟩ := open_int Try.underlying3 (hval 5 3 v5 rfl rfl) h5
  clear hA0 hval0
  obtain ⟨kk, hh⟩ := Pure.TraceDoes a0 a1 l2 a3_0 l3_1 l3_2 a4 a5 w0 w1 (Nat.le_trans hc2 hm2) hw2 (Nat.le_trans hc3_1 hm3_1) hw3_1 (Nat.le_trans hc3_2 hm3_2) w4 w5
  refine (MP.medlarlaw23_TraceDoes.calls kk a0 a1 _ _ l2 a3_0 _ _ l3_1 _ _ l3_2 a4 a5 true W hr2 hc2 hr3_1 hc3_1 hr3_2 hc3_2 hh ⟨rfl⟩).mono fun e W' ⟨he, bel⟩ => ?_
  subst he
  exact ⟨_, rfl, _, _, _, [], _, [], hW', trodAll_mk1 (shut_bool Try.underlying4 _), (trodAll_cons_mk (Below.trod laidOut (by kernel_rfl) (of_decide_eq_true (by kernel_rfl)) k0 bel lt0) (trodAll_cons_mk (Below.trod laidOut (by kernel_rfl) (of_decide_eq_true (by kernel_rfl)) k1 bel lt1) (trodAll_cons_mk (Below.trod laidOut (by kernel_rfl) (of_decide_eq_true (by kernel_rfl)) k2 bel lt2) (trodAll_cons_mk (Below.trod laidOut (by kernel_rfl) (of_decide_eq_true (by kernel_rfl)) k3 bel lt3) (trodAll_cons_mk (Below.trod laidOut (by kernel_rfl) (of_decide_eq_true (by kernel_rfl)) k4 bel lt4) (trodAll_cons_mk (Below.trod laidOut (by kernel_rfl) (of_decide_eq_true (by kernel_rfl)) k5 bel lt5) trodAll_mk0)))))), rfl, bel.frame _, fun h => by cases h⟩
theorem over : Rows.traceDoesRow.holds Try.pinned (OpenSpec.ofChange Rows.traceDoesSpec) :=
  OpenClaim.holds_of_wide 4 Try.f4 rfl rfl rfl rfl rfl rfl rfl ⟨rfl, rfl, rfl, rfl, rfl⟩ rfl rfl rfl rfl rfl (by kernel_rfl) Try.func4 (by kernel_rfl)
    (of_decide_eq_true (by kernel_rfl)) (by unfold Func.isWrapper; first | (rw [if_pos (by decide +kernel)]; kernel_rfl) | (rw [if_neg (by decide +kernel)]; exact ⟨rfl, rfl⟩))
    (fun os started H enc _ => lifted os started H enc)
theorem proved : Rows.TraceDoesSaid := over
#print axioms proved
end Go.Proofs.Ytnbiddloiiljjaa.traceDoes
namespace Go.Proofs.Ytnbiddloiiljjaa
/-- The row, under a short name, for the claim. -/
theorem traceDoes_holds : Rows.TraceDoesSaid := traceDoes.proved
end Go.Proofs.Ytnbiddloiiljjaa
