-- written by a program of this session (wip/tools/rowgen.py) for this seat
import Derived.Test.YtoljdfgkkkpnbaaK0
import Derived.Test.YtoljdfgkkkpnbaaRows
import Derived.Test.YtoljdfgkkkpnbaaMPx10
import Derived.Test.YtoljdfgkkkpnbaaPureHeadDoes
import Derived.WalkKit
import Derived.ProofKit
import Derived.OpenShut
import Derived.ShutString
import Derived.ChangeOld
import Derived.Below
import Derived.SizedLaws
import Derived.Carry
import Derived.Lib.SmallJoins
import Derived.Deep.SlicePairs
namespace Go.Proofs.Ytoljdfgkkkpnbaa.headDoes
open Go.ChangeShapes Go.WideShapes Go.ChangeAt Go.RowKit Go.Deep Go.Proofs.YtoljdfgkkkpnbaaW.PrintWords
set_option linter.unusedVariables false
set_option linter.unusedSimpArgs false
theorem own : ownKnob Try.prog.godebug = none := by kernel_rfl
theorem laidOut : laidOutB Try.prog = true := by kernel_rfl
theorem two_of {α : Type} {l : List α} (h : l.length = 2) : ∃ a b, l = [a, b] := by
  match l, h with
  | [a, b], _ => exact ⟨a, b, rfl⟩
/-- A slice that was read, by what each element reads as. -/
theorem open_gen {H : Type} {enc : TypeId × Value → H} {P : Program} {W : World} {fuel : Nat} {cs : List Value} {x : DataW H × List MemPlace} {t e : TypeId} {α : Type} (d : Kd α) (Pw : α → Prop) (z0 : α) (ht : P.underlying t = some (.slice e)) (hsz : P.cellsOf e = d.sz)
    (get : ∀ n cs' y, DataW.trod enc P W 0 (fun _ => true) true n e cs' = some y → cs'.length = d.sz → ∃ z : α, d.K W z cs' ∧ Pw z)
    (hf : DataW.trod enc P W 0 (fun _ => true) true fuel t cs = some x) :
    ∃ (a : Option Addr) (l : List α) (cap : Nat), cs = [.slice a l.length cap] ∧ Kd.C d W a l.length l ∧ l.length ≤ cap ∧ cap ≤ maxLen ∧ ∀ y ∈ l, Pw y := by
  rcases Go.Deep.open_slice ht hf with ⟨rfl, _⟩ | ⟨a, len, cap, m, n, D, Pl, rfl, _, hl, hm, hmm, _, hx⟩
  · exact ⟨none, [], 0, rfl, ⟨rfl, by simp, fun h => absurd h (by simp)⟩, by simp, by simp [maxLen], by simp⟩
  · have em : m = cap := by rw [hmm]; exact if_pos rfl
    have each : ∀ i, ∃ q : α × List Value, i < len → q.2.length = d.sz ∧ d.K W q.1 q.2 ∧ Pw q.1 ∧ ∀ j u, q.2[j]? = some u → W.cell? (a.add (i * d.sz + j)) = some u := by
      intro i
      by_cases h : i < len
      · obtain ⟨cs', h1, h2⟩ := hx i (by omega)
        rw [hsz] at h1
        obtain ⟨_, hlen, hcell⟩ := World.cells?_some h1
        obtain ⟨z, hz, hp⟩ := get n cs' _ h2 hlen
        refine ⟨(z, cs'), fun _ => ⟨hlen, hz, hp, fun j u hu => ?_⟩⟩
        have hj : j < cs'.length := (List.getElem?_eq_some_iff.1 hu).1
        have := hcell j (by omega)
        rw [Go.Deep.add_add] at this
        exact this.trans hu
      · exact ⟨(z0, []), fun h' => absurd h' h⟩
    let q := fun i => Classical.choose (each i)
    have hq : ∀ i, i < len → (q i).2.length = d.sz ∧ d.K W (q i).1 (q i).2 ∧ Pw (q i).1 ∧ ∀ j u, (q i).2[j]? = some u → W.cell? (a.add (i * d.sz + j)) = some u := fun i => Classical.choose_spec (each i)
    generalize q = q at hq
    have hlen : ((List.range len).map fun i => (q i).1).length = len := by simp
    refine ⟨some a, (List.range len).map fun i => (q i).1, cap, by rw [hlen], ?_, by rw [hlen]; exact hl, hm, ?_⟩
    · rw [hlen]
      refine ⟨hlen, by simp only [maxLen] at hm; omega, fun _ => ⟨a, rfl, fun j p hj => ?_⟩⟩
      have hjl : j < len := by
        have := (List.getElem?_eq_some_iff.1 hj).1
        rw [hlen] at this; exact this
      obtain ⟨h1, h2, _, h3⟩ := hq j hjl
      have ep : (q j).1 = p := by simpa [hjl] using hj
      subst ep
      exact ⟨_, h1, h2, h3⟩
    · intro y hy
      obtain ⟨i, hi, rfl⟩ := List.mem_map.1 hy
      exact (hq i (List.mem_range.1 hi)).2.2.1
theorem tr_field {H : Type} {enc : TypeId × Value → H} {P : Program} {W : World} {n : Nat} {cs : List Value} {y : DataW H × List MemPlace} {t : TypeId} {fs : Array Field} (ht : P.underlying t = some (.struct fs)) (h : DataW.trod enc P W 0 (fun _ => true) true n t cs = some y) (i : Nat) (ft : TypeId) (off k : Nat) (hf : (fs[i]?).map (fun f => (f.type, f.offset)) = some (ft, off)) (hk : P.cellsOf ft = k) :
    ∃ m z, DataW.trod enc P W 0 (fun _ => true) true m ft ((cs.drop off).take k) = some z := by
  obtain ⟨xs, m, _, _, _, hl, hx⟩ := DataW.trod_struct ht h
  obtain ⟨f, hf1, hf2⟩ := Option.map_eq_some_iff.1 hf
  simp only [Prod.mk.injEq] at hf2
  obtain ⟨rfl, rfl⟩ := hf2
  have hi : i < xs.length := by rw [hl]; exact (Array.getElem?_eq_some_iff.1 hf1).1
  exact ⟨m, xs[i], by rw [← hk, hx i f hf1, List.getElem?_eq_getElem hi]⟩
theorem tr_arr2 {H : Type} {enc : TypeId × Value → H} {P : Program} {W : World} {n : Nat} {c0 c1 : Value} {x : DataW H × List MemPlace} {t e : TypeId} (ht : P.underlying t = some (.array 2 e)) (hce : P.cellsOf e = 1) (h : DataW.trod enc P W 0 (fun _ => true) true n t [c0, c1] = some x) :
    ∃ m y0 y1, DataW.trod enc P W 0 (fun _ => true) true m e [c0] = some y0 ∧ DataW.trod enc P W 0 (fun _ => true) true m e [c1] = some y1 := by
  cases n with
  | zero => simp [DataW.trod] at h
  | succ n =>
    unfold DataW.trod at h
    rw [ht] at h
    have r2 : List.range 2 = [0, 1] := rfl
    simp [r2, hce] at h
    obtain ⟨_, h⟩ := h
    cases h0 : DataW.trod enc P W 0 (fun _ => true) true n e [c0] with
    | none => simp [h0] at h
    | some y0 =>
      cases h1 : DataW.trod enc P W 0 (fun _ => true) true n e [c1] with
      | none => simp [h0, h1] at h
      | some y1 => exact ⟨n, y0, y1, h0, h1⟩
theorem okWide_agg {P : Program} {W : World} {b : Nat} {t : TypeId} {fs : Array Field} {v : Value} (ht : P.underlying t = some (.struct fs)) (h : Value.okWide P W .any b t v) : ∃ cs, v = .agg cs ∧ cs.size = P.cellsOf t := okWide_struct ht h
theorem arrN13 {cs : Array Value} (h : cs.size = 13) : ∃ c0 c1 c2 c3 c4 c5 c6 c7 c8 c9 c10 c11 c12, cs = #[c0, c1, c2, c3, c4, c5, c6, c7, c8, c9, c10, c11, c12] := by
  obtain ⟨l⟩ := cs
  replace h : l.length = 13 := h
  match l, h with
  | [c0, c1, c2, c3, c4, c5, c6, c7, c8, c9, c10, c11, c12], _ => exact ⟨c0, c1, c2, c3, c4, c5, c6, c7, c8, c9, c10, c11, c12, rfl⟩
theorem get39 {H : Type} {enc : TypeId × Value → H} {W : World} {n : Nat} {cs : List Value} {y : DataW H × List MemPlace} (h : DataW.trod enc Try.prog W 0 (fun _ => true) true n 39 cs = some y) (hl : cs.length = 2) :
    ∃ (a0 : Int) (a1 : Int), cs = [.int .u64 a0, .int .u64 a1] ∧ (Lit.int .u64 a0).wf = true ∧ (Lit.int .u64 a1).wf = true := by
  obtain ⟨c0, c1, rfl⟩ : ∃ c0 c1, cs = [c0, c1] := by
    match cs, hl with
    | [c0, c1], _ => exact ⟨c0, c1, rfl⟩
  obtain ⟨m0, z0, h0⟩ := tr_field Try.underlying39 h 0 23 0 1 rfl (by kernel_rfl)
  replace h0 : DataW.trod enc Try.prog W 0 (fun _ => true) true m0 23 [c0] = some z0 := h0
  obtain ⟨m1, z1, h1⟩ := tr_field Try.underlying39 h 1 23 1 1 rfl (by kernel_rfl)
  replace h1 : DataW.trod enc Try.prog W 0 (fun _ => true) true m1 23 [c1] = some z1 := h1
  obtain ⟨b0, e0, _, w0⟩ := DataW.trod_int Try.underlying23 h0
  simp only [List.cons.injEq, and_true] at e0
  subst e0
  obtain ⟨b1, e1, _, w1⟩ := DataW.trod_int Try.underlying23 h1
  simp only [List.cons.injEq, and_true] at e1
  subst e1
  exact ⟨b0, b1, rfl, w0, w1⟩
theorem get25 {H : Type} {enc : TypeId × Value → H} {W : World} {n : Nat} {cs : List Value} {y : DataW H × List MemPlace} (h : DataW.trod enc Try.prog W 0 (fun _ => true) true n 25 cs = some y) (hl : cs.length = 2) :
    ∃ (a0 : Int) (a1 : Int), cs = [.int .u64 a0, .int .u64 a1] ∧ (Lit.int .u64 a0).wf = true ∧ (Lit.int .u64 a1).wf = true := by
  obtain ⟨c0, c1, rfl⟩ : ∃ c0 c1, cs = [c0, c1] := by
    match cs, hl with
    | [c0, c1], _ => exact ⟨c0, c1, rfl⟩
  obtain ⟨m_, z0, z1, h0, h1⟩ := tr_arr2 Try.underlying25 (by kernel_rfl) h
  obtain ⟨b0, e0, _, w0⟩ := DataW.trod_int Try.underlying23 h0
  simp only [List.cons.injEq, and_true] at e0
  subst e0
  obtain ⟨b1, e1, _, w1⟩ := DataW.trod_int Try.underlying23 h1
  simp only [List.cons.injEq, and_true] at e1
  subst e1
  exact ⟨b0, b1, rfl, w0, w1⟩
theorem get27 {H : Type} {enc : TypeId × Value → H} {W : World} {n : Nat} {cs : List Value} {y : DataW H × List MemPlace} (h : DataW.trod enc Try.prog W 0 (fun _ => true) true n 27 cs = some y) (hl : cs.length = 4) :
    ∃ (a0 : Int) (a1 : Int) (a2 : Int) (a3 : Int), cs = [.int .u64 a0, .int .u64 a1, .int .u64 a2, .int .u64 a3] ∧ (Lit.int .u64 a0).wf = true ∧ (Lit.int .u64 a1).wf = true ∧ (Lit.int .u64 a2).wf = true ∧ (Lit.int .u64 a3).wf = true := by
  obtain ⟨c0, c1, c2, c3, rfl⟩ : ∃ c0 c1 c2 c3, cs = [c0, c1, c2, c3] := by
    match cs, hl with
    | [c0, c1, c2, c3], _ => exact ⟨c0, c1, c2, c3, rfl⟩
  obtain ⟨m0, z0, h0⟩ := tr_field Try.underlying27 h 0 25 0 2 rfl (by kernel_rfl)
  replace h0 : DataW.trod enc Try.prog W 0 (fun _ => true) true m0 25 [c0, c1] = some z0 := h0
  obtain ⟨m1, z1, h1⟩ := tr_field Try.underlying27 h 1 25 2 2 rfl (by kernel_rfl)
  replace h1 : DataW.trod enc Try.prog W 0 (fun _ => true) true m1 25 [c2, c3] = some z1 := h1
  obtain ⟨b0, b1, e0, w0_0, w0_1⟩ := get25 h0 rfl
  simp only [List.cons.injEq, and_true] at e0
  obtain ⟨rfl, rfl⟩ := e0
  obtain ⟨b2, b3, e1, w1_0, w1_1⟩ := get25 h1 rfl
  simp only [List.cons.injEq, and_true] at e1
  obtain ⟨rfl, rfl⟩ := e1
  exact ⟨b0, b1, b2, b3, rfl, w0_0, w0_1, w1_0, w1_1⟩
theorem get29 {H : Type} {enc : TypeId × Value → H} {W : World} {n : Nat} {cs : List Value} {y : DataW H × List MemPlace} (h : DataW.trod enc Try.prog W 0 (fun _ => true) true n 29 cs = some y) (hl : cs.length = 9) :
    ∃ (a0 : Bool) (a1 : Bool) (a2 : Int) (a3 : Int) (a4 : Int) (a5 : Int) (a6 : Int) (a7 : Int) (a8 : Int), cs = [.bool a0, .bool a1, .int .u64 a2, .int .u64 a3, .int .u64 a4, .int .u64 a5, .int .u64 a6, .int .u64 a7, .int .i64 a8] ∧ (Lit.int .u64 a2).wf = true ∧ (Lit.int .u64 a3).wf = true ∧ (Lit.int .u64 a4).wf = true ∧ (Lit.int .u64 a5).wf = true ∧ (Lit.int .u64 a6).wf = true ∧ (Lit.int .u64 a7).wf = true ∧ (Lit.int .i64 a8).wf = true := by
  obtain ⟨c0, c1, c2, c3, c4, c5, c6, c7, c8, rfl⟩ : ∃ c0 c1 c2 c3 c4 c5 c6 c7 c8, cs = [c0, c1, c2, c3, c4, c5, c6, c7, c8] := by
    match cs, hl with
    | [c0, c1, c2, c3, c4, c5, c6, c7, c8], _ => exact ⟨c0, c1, c2, c3, c4, c5, c6, c7, c8, rfl⟩
  obtain ⟨m0, z0, h0⟩ := tr_field Try.underlying29 h 0 4 0 1 rfl (by kernel_rfl)
  replace h0 : DataW.trod enc Try.prog W 0 (fun _ => true) true m0 4 [c0] = some z0 := h0
  obtain ⟨m1, z1, h1⟩ := tr_field Try.underlying29 h 1 4 1 1 rfl (by kernel_rfl)
  replace h1 : DataW.trod enc Try.prog W 0 (fun _ => true) true m1 4 [c1] = some z1 := h1
  obtain ⟨m2, z2, h2⟩ := tr_field Try.underlying29 h 2 25 2 2 rfl (by kernel_rfl)
  replace h2 : DataW.trod enc Try.prog W 0 (fun _ => true) true m2 25 [c2, c3] = some z2 := h2
  obtain ⟨m3, z3, h3⟩ := tr_field Try.underlying29 h 3 27 4 4 rfl (by kernel_rfl)
  replace h3 : DataW.trod enc Try.prog W 0 (fun _ => true) true m3 27 [c4, c5, c6, c7] = some z3 := h3
  obtain ⟨m4, z4, h4⟩ := tr_field Try.underlying29 h 4 3 8 1 rfl (by kernel_rfl)
  replace h4 : DataW.trod enc Try.prog W 0 (fun _ => true) true m4 3 [c8] = some z4 := h4
  obtain ⟨b0, e0, _⟩ := DataW.trod_bool Try.underlying4 h0
  simp only [List.cons.injEq, and_true] at e0
  subst e0
  obtain ⟨b1, e1, _⟩ := DataW.trod_bool Try.underlying4 h1
  simp only [List.cons.injEq, and_true] at e1
  subst e1
  obtain ⟨b2, b3, e2, w2_0, w2_1⟩ := get25 h2 rfl
  simp only [List.cons.injEq, and_true] at e2
  obtain ⟨rfl, rfl⟩ := e2
  obtain ⟨b4, b5, b6, b7, e3, w3_0, w3_1, w3_2, w3_3⟩ := get27 h3 rfl
  simp only [List.cons.injEq, and_true] at e3
  obtain ⟨rfl, rfl, rfl, rfl⟩ := e3
  obtain ⟨b8, e4, _, w4⟩ := DataW.trod_int Try.underlying3 h4
  simp only [List.cons.injEq, and_true] at e4
  subst e4
  exact ⟨b0, b1, b2, b3, b4, b5, b6, b7, b8, rfl, w2_0, w2_1, w3_0, w3_1, w3_2, w3_3, w4⟩
theorem get41 {H : Type} {enc : TypeId × Value → H} {W : World} {n : Nat} {cs : List Value} {y : DataW H × List MemPlace} (h : DataW.trod enc Try.prog W 0 (fun _ => true) true n 41 cs = some y) (hl : cs.length = 11) :
    ∃ (a0 : Int) (a1 : Int) (a2 : Bool) (a3 : Bool) (a4 : Int) (a5 : Int) (a6 : Int) (a7 : Int) (a8 : Int) (a9 : Int) (a10 : Int), cs = [.int .u64 a0, .int .u64 a1, .bool a2, .bool a3, .int .u64 a4, .int .u64 a5, .int .u64 a6, .int .u64 a7, .int .u64 a8, .int .u64 a9, .int .i64 a10] ∧ (Lit.int .u64 a0).wf = true ∧ (Lit.int .u64 a1).wf = true ∧ (Lit.int .u64 a4).wf = true ∧ (Lit.int .u64 a5).wf = true ∧ (Lit.int .u64 a6).wf = true ∧ (Lit.int .u64 a7).wf = true ∧ (Lit.int .u64 a8).wf = true ∧ (Lit.int .u64 a9).wf = true ∧ (Lit.int .i64 a10).wf = true := by
  obtain ⟨c0, c1, c2, c3, c4, c5, c6, c7, c8, c9, c10, rfl⟩ : ∃ c0 c1 c2 c3 c4 c5 c6 c7 c8 c9 c10, cs = [c0, c1, c2, c3, c4, c5, c6, c7, c8, c9, c10] := by
    match cs, hl with
    | [c0, c1, c2, c3, c4, c5, c6, c7, c8, c9, c10], _ => exact ⟨c0, c1, c2, c3, c4, c5, c6, c7, c8, c9, c10, rfl⟩
  obtain ⟨m0, z0, h0⟩ := tr_field Try.underlying41 h 0 39 0 2 rfl (by kernel_rfl)
  replace h0 : DataW.trod enc Try.prog W 0 (fun _ => true) true m0 39 [c0, c1] = some z0 := h0
  obtain ⟨m1, z1, h1⟩ := tr_field Try.underlying41 h 1 29 2 9 rfl (by kernel_rfl)
  replace h1 : DataW.trod enc Try.prog W 0 (fun _ => true) true m1 29 [c2, c3, c4, c5, c6, c7, c8, c9, c10] = some z1 := h1
  obtain ⟨b0, b1, e0, w0_0, w0_1⟩ := get39 h0 rfl
  simp only [List.cons.injEq, and_true] at e0
  obtain ⟨rfl, rfl⟩ := e0
  obtain ⟨b2, b3, b4, b5, b6, b7, b8, b9, b10, e1, w1_2, w1_3, w1_4, w1_5, w1_6, w1_7, w1_8⟩ := get29 h1 rfl
  simp only [List.cons.injEq, and_true] at e1
  obtain ⟨rfl, rfl, rfl, rfl, rfl, rfl, rfl, rfl, rfl⟩ := e1
  exact ⟨b0, b1, b2, b3, b4, b5, b6, b7, b8, b9, b10, rfl, w0_0, w0_1, w1_2, w1_3, w1_4, w1_5, w1_6, w1_7, w1_8⟩
set_option maxHeartbeats 8000000 in
set_option maxRecDepth 100000 in
theorem lifted (os : Os) (started : os.Started) (H : Type) (enc : TypeId × Value → H) :
    ReturnsInHanded {} Try.checked os 5 .any (Rows.headDoesSpec.pre6 enc Try.prog Try.f5 Rows.headDoesRow.domain false) (Rows.headDoesSpec.post enc Try.prog Try.f5 false true false false) := by
  refine returnsInHanded_of_change_sized (C := Try.checked) own started (by kernel_rfl) Try.func5
    (ChangeSpec.witness6 (enc := enc) (C := Try.checked) false ⟨#[], #[.agg #[.int .i64 0, .int .i64 0, .int .i64 0, .slice none 0 0, .bool false, .bool false, .int .u64 0, .int .u64 0, .int .u64 0, .int .u64 0, .int .u64 0, .int .u64 0, .int .i64 0], .agg #[.int .i64 0, .int .i64 0, .int .i64 0, .slice none 0 0, .bool false, .bool false, .int .u64 0, .int .u64 0, .int .u64 0, .int .u64 0, .int .u64 0, .int .u64 0, .int .i64 0], .slice none 0 0, .int .i64 0], []⟩ 8 (by kernel_rfl) (by kernel_rfl) (by kernel_rfl) (by kernel_rfl)) ?_
  intro W base args ds gs before hval0 hW hcnd hsz0 _
  clear hsz0
  have hval : ∀ (j : Nat) t v, Try.f5.params[j]? = some t → args[j]? = some v → Value.okWide Try.prog W .any base t v := hval0
  have hW' := hW
  obtain ⟨p, q, hA0, hV, rfl, hfz, hnd⟩ := hW
  have hA : DataW.TrodAll enc Try.prog W 0 (fun _ => true) true Try.f5.params.toList args.toList ds p := hA0
  rw [Try.params5] at hA hval
  obtain ⟨v0, vs0, d0, ds0, p0, q0, hargs, rfl, rfl, h0, r0⟩ := trodAll_cons hA
  obtain ⟨v1, vs1, d1, ds1, p1, q1, rfl, rfl, rfl, h1, r1⟩ := trodAll_cons r0
  obtain ⟨v2, vs2, d2, ds2, p2, q2, rfl, rfl, rfl, h2, r2⟩ := trodAll_cons r1
  obtain ⟨v3, vs3, d3, ds3, p3, q3, rfl, rfl, rfl, h3, r3⟩ := trodAll_cons r2
  obtain ⟨rfl, rfl, rfl⟩ := trodAll_nil r3
  obtain rfl : args = #[v0, v1, v2, v3] := by cases args; simp_all
  obtain ⟨rfl, rfl⟩ := trodVars_none hV
  have k0 := h0
  have lt0 : ∀ x ∈ p0, x.block < W.heap.size := by obtain ⟨m, hm⟩ := k0; exact DataW.trod_lt m _ _ _ hm
  have k1 := h1
  have lt1 : ∀ x ∈ p1, x.block < W.heap.size := by obtain ⟨m, hm⟩ := k1; exact DataW.trod_lt m _ _ _ hm
  have k2 := h2
  have lt2 : ∀ x ∈ p2, x.block < W.heap.size := by obtain ⟨m, hm⟩ := k2; exact DataW.trod_lt m _ _ _ hm
  have k3 := h3
  have lt3 : ∀ x ∈ p3, x.block < W.heap.size := by obtain ⟨m, hm⟩ := k3; exact DataW.trod_lt m _ _ _ hm
  obtain ⟨cs0, rfl, hsz0⟩ := okWide_agg Try.underlying31 (hval 0 31 v0 rfl rfl)
  rw [show Try.prog.cellsOf 31 = 13 from by kernel_rfl] at hsz0
  obtain ⟨c0_0, c0_1, c0_2, c0_3, c0_4, c0_5, c0_6, c0_7, c0_8, c0_9, c0_10, c0_11, c0_12, rfl⟩ := arrN13 hsz0
  obtain ⟨fuel0, hf0⟩ := h0
  replace hf0 : DataW.trod enc Try.prog W 0 (fun _ => true) true fuel0 31 [c0_0, c0_1, c0_2, c0_3, c0_4, c0_5, c0_6, c0_7, c0_8, c0_9, c0_10, c0_11, c0_12] = some _ := hf0
  obtain ⟨m0_0, y0_0, hy0_0⟩ := tr_field Try.underlying31 hf0 0 3 0 1 rfl (by kernel_rfl)
  replace hy0_0 : DataW.trod enc Try.prog W 0 (fun _ => true) true m0_0 3 [c0_0] = some y0_0 := hy0_0
  obtain ⟨a0_0, e0_0, _, w0_0⟩ := DataW.trod_int Try.underlying3 hy0_0
  simp only [List.cons.injEq, and_true] at e0_0
  subst e0_0
  obtain ⟨m0_1, y0_1, hy0_1⟩ := tr_field Try.underlying31 hf0 1 3 1 1 rfl (by kernel_rfl)
  replace hy0_1 : DataW.trod enc Try.prog W 0 (fun _ => true) true m0_1 3 [c0_1] = some y0_1 := hy0_1
  obtain ⟨a0_1, e0_1, _, w0_1⟩ := DataW.trod_int Try.underlying3 hy0_1
  simp only [List.cons.injEq, and_true] at e0_1
  subst e0_1
  obtain ⟨m0_2, y0_2, hy0_2⟩ := tr_field Try.underlying31 hf0 2 2 2 1 rfl (by kernel_rfl)
  replace hy0_2 : DataW.trod enc Try.prog W 0 (fun _ => true) true m0_2 2 [c0_2] = some y0_2 := hy0_2
  obtain ⟨a0_2, e0_2, _, w0_2⟩ := DataW.trod_int Try.underlying2 hy0_2
  simp only [List.cons.injEq, and_true] at e0_2
  subst e0_2
  obtain ⟨m0_3, y0_3, hy0_3⟩ := tr_field Try.underlying31 hf0 3 22 3 1 rfl (by kernel_rfl)
  replace hy0_3 : DataW.trod enc Try.prog W 0 (fun _ => true) true m0_3 22 [c0_3] = some y0_3 := hy0_3
  obtain ⟨A0_3, l0_3, c0_3, ecs0_3, hr0_3, hc0_3, hm0_3, hw0_3⟩ := open_gen MP.k41 (fun z => (Lit.int .u64 z.f0.f0).wf = true ∧ (Lit.int .u64 z.f0.f1).wf = true ∧ (Lit.int .u64 z.f1.f2.f0).wf = true ∧ (Lit.int .u64 z.f1.f2.f1).wf = true ∧ (Lit.int .u64 z.f1.f3.f0.f0).wf = true ∧ (Lit.int .u64 z.f1.f3.f0.f1).wf = true ∧ (Lit.int .u64 z.f1.f3.f1.f0).wf = true ∧ (Lit.int .u64 z.f1.f3.f1.f1).wf = true ∧ (Lit.int .i64 z.f1.f4).wf = true) MP.z41 Try.underlying22 (by kernel_rfl) (fun n cs' y hy hl => by obtain ⟨z_0, z_1, z_2, z_3, z_4, z_5, z_6, z_7, z_8, z_9, z_10, e_, w_0, w_1, w_4, w_5, w_6, w_7, w_8, w_9, w_10⟩ := get41 hy hl; exact ⟨⟨⟨z_0, z_1⟩, ⟨z_2, z_3, ⟨z_4, z_5⟩, ⟨⟨z_6, z_7⟩, ⟨z_8, z_9⟩⟩, z_10⟩⟩, by rw [e_]; exact MP.k41_mk _ ⟨⟨z_0, z_1⟩, ⟨z_2, z_3, ⟨z_4, z_5⟩, ⟨⟨z_6, z_7⟩, ⟨z_8, z_9⟩⟩, z_10⟩⟩, w_0, w_1, w_4, w_5, w_6, w_7, w_8, w_9, w_10⟩) hy0_3
  simp at ecs0_3
  subst ecs0_3
  obtain ⟨m0_4, y0_4, hy0_4⟩ := tr_field Try.underlying31 hf0 4 29 4 9 rfl (by kernel_rfl)
  replace hy0_4 : DataW.trod enc Try.prog W 0 (fun _ => true) true m0_4 29 [c0_4, c0_5, c0_6, c0_7, c0_8, c0_9, c0_10, c0_11, c0_12] = some y0_4 := hy0_4
  obtain ⟨a0_4, a0_5, a0_6, a0_7, a0_8, a0_9, a0_10, a0_11, a0_12, e0_4, w0_6, w0_7, w0_8, w0_9, w0_10, w0_11, w0_12⟩ := get29 hy0_4 rfl
  simp only [List.cons.injEq, and_true] at e0_4
  obtain ⟨rfl, rfl, rfl, rfl, rfl, rfl, rfl, rfl, rfl⟩ := e0_4
  obtain ⟨cs1, rfl, hsz1⟩ := okWide_agg Try.underlying31 (hval 1 31 v1 rfl rfl)
  rw [show Try.prog.cellsOf 31 = 13 from by kernel_rfl] at hsz1
  obtain ⟨c1_0, c1_1, c1_2, c1_3, c1_4, c1_5, c1_6, c1_7, c1_8, c1_9, c1_10, c1_11, c1_12, rfl⟩ := arrN13 hsz1
  obtain ⟨fuel1, hf1⟩ := h1
  replace hf1 : DataW.trod enc Try.prog W 0 (fun _ => true) true fuel1 31 [c1_0, c1_1, c1_2, c1_3, c1_4, c1_5, c1_6, c1_7, c1_8, c1_9, c1_10, c1_11, c1_12] = some _ := hf1
  obtain ⟨m1_0, y1_0, hy1_0⟩ := tr_field Try.underlying31 hf1 0 3 0 1 rfl (by kernel_rfl)
  replace hy1_0 : DataW.trod enc Try.prog W 0 (fun _ => true) true m1_0 3 [c1_0] = some y1_0 := hy1_0
  obtain ⟨a1_0, e1_0, _, w1_0⟩ := DataW.trod_int Try.underlying3 hy1_0
  simp only [List.cons.injEq, and_true] at e1_0
  subst e1_0
  obtain ⟨m1_1, y1_1, hy1_1⟩ := tr_field Try.underlying31 hf1 1 3 1 1 rfl (by kernel_rfl)
  replace hy1_1 : DataW.trod enc Try.prog W 0 (fun _ => true) true m1_1 3 [c1_1] = some y1_1 := hy1_1
  obtain ⟨a1_1, e1_1, _, w1_1⟩ := DataW.trod_int Try.underlying3 hy1_1
  simp only [List.cons.injEq, and_true] at e1_1
  subst e1_1
  obtain ⟨m1_2, y1_2, hy1_2⟩ := tr_field Try.underlying31 hf1 2 2 2 1 rfl (by kernel_rfl)
  replace hy1_2 : DataW.trod enc Try.prog W 0 (fun _ => true) true m1_2 2 [c1_2] = some y1_2 := hy1_2
  obtain ⟨a1_2, e1_2, _, w1_2⟩ := DataW.trod_int Try.underlying2 hy1_2
  simp only [List.cons.injEq, and_true] at e1_2
  subst e1_2
  obtain ⟨m1_3, y1_3, hy1_3⟩ := tr_field Try.underlying31 hf1 3 22 3 1 rfl (by kernel_rfl)
  replace hy1_3 : DataW.trod enc Try.prog W 0 (fun _ => true) true m1_3 22 [c1_3] = some y1_3 := hy1_3
  obtain ⟨A1_3, l1_3, c1_3, ecs1_3, hr1_3, hc1_3, hm1_3, hw1_3⟩ := open_gen MP.k41 (fun z => (Lit.int .u64 z.f0.f0).wf = true ∧ (Lit.int .u64 z.f0.f1).wf = true ∧ (Lit.int .u64 z.f1.f2.f0).wf = true ∧ (Lit.int .u64 z.f1.f2.f1).wf = true ∧ (Lit.int .u64 z.f1.f3.f0.f0).wf = true ∧ (Lit.int .u64 z.f1.f3.f0.f1).wf = true ∧ (Lit.int .u64 z.f1.f3.f1.f0).wf = true ∧ (Lit.int .u64 z.f1.f3.f1.f1).wf = true ∧ (Lit.int .i64 z.f1.f4).wf = true) MP.z41 Try.underlying22 (by kernel_rfl) (fun n cs' y hy hl => by obtain ⟨z_0, z_1, z_2, z_3, z_4, z_5, z_6, z_7, z_8, z_9, z_10, e_, w_0, w_1, w_4, w_5, w_6, w_7, w_8, w_9, w_10⟩ := get41 hy hl; exact ⟨⟨⟨z_0, z_1⟩, ⟨z_2, z_3, ⟨z_4, z_5⟩, ⟨⟨z_6, z_7⟩, ⟨z_8, z_9⟩⟩, z_10⟩⟩, by rw [e_]; exact MP.k41_mk _ ⟨⟨z_0, z_1⟩, ⟨z_2, z_3, ⟨z_4, z_5⟩, ⟨⟨z_6, z_7⟩, ⟨z_8, z_9⟩⟩, z_10⟩⟩, w_0, w_1, w_4, w_5, w_6, w_7, w_8, w_9, w_10⟩) hy1_3
  simp at ecs1_3
  subst ecs1_3
  obtain ⟨m1_4, y1_4, hy1_4⟩ := tr_field Try.underlying31 hf1 4 29 4 9 rfl (by kernel_rfl)
  replace hy1_4 : DataW.trod enc Try.prog W 0 (fun _ => true) true m1_4 29 [c1_4, c1_5, c1_6, c1_7, c1_8, c1_9, c1_10, c1_11, c1_12] = some y1_4 := hy1_4
  obtain ⟨a1_4, a1_5, a1_6, a1_7, a1_8, a1_9, a1_10, a1_11, a1_12, e1_4, w1_6, w1_7, w1_8, w1_9, w1_10, w1_11, w1_12⟩ := get29 hy1_4 rfl
  simp only [List.cons.injEq, and_true] at e1_4
  obtain ⟨rfl, rfl, rfl, rfl, rfl, rfl, rfl, rfl, rfl⟩ := e1_4
  obtain ⟨b2, len2, cap2, rfl⟩ := okWide_slice Try.underlying35 (hval 2 35 v2 rfl rfl)
  obtain ⟨fuel2, hf2⟩ := h2
  obtain ⟨A2, l2, c2, ecs2, hr2, hc2, hm2, hw2⟩ := open_gen (Kd.int .u8) (fun z => (Lit.int .u8 z).wf = true) 0 Try.underlying35 (by kernel_rfl) (fun n cs' y hy hl => by obtain ⟨v, rfl⟩ := List.length_eq_one_iff.1 hl; obtain ⟨z, e1, _, w⟩ := DataW.trod_int Try.underlying5 hy; simp at e1; exact ⟨z, by rw [e1]; rfl, w⟩) hf2
  simp [Value.cells] at ecs2
  obtain ⟨rfl, rfl, rfl⟩ := ecs2
  obtain ⟨a3, rfl, _, _, w3⟩ := open_int Try.underlying3 (hval 3 3 v3 rfl rfl) h3
  clear hA0 hval0
  obtain ⟨kk, hh⟩ := Pure.HeadDoes a0_0 a0_1 a0_2 l0_3 a0_4 a0_5 a0_6 a0_7 a0_8 a0_9 a0_10 a0_11 a0_12 a1_0 a1_1 a1_2 l1_3 a1_4 a1_5 a1_6 a1_7 a1_8 a1_9 a1_10 a1_11 a1_12 l2 a3 w0_0 w0_1 w0_2 (Nat.le_trans hc0_3 hm0_3) hw0_3 w0_6 w0_7 w0_8 w0_9 w0_10 w0_11 w0_12 w1_0 w1_1 w1_2 (Nat.le_trans hc1_3 hm1_3) hw1_3 w1_6 w1_7 w1_8 w1_9 w1_10 w1_11 w1_12 (Nat.le_trans hc2 hm2) hw2 w3
  refine (MP.medlarlaw16_HeadDoes.calls kk a0_0 a0_1 a0_2 _ _ l0_3 a0_4 a0_5 a0_6 a0_7 a0_8 a0_9 a0_10 a0_11 a0_12 a1_0 a1_1 a1_2 _ _ l1_3 a1_4 a1_5 a1_6 a1_7 a1_8 a1_9 a1_10 a1_11 a1_12 _ _ l2 a3 true W hr0_3 hc0_3 hr1_3 hc1_3 hr2 hc2 hh ⟨rfl⟩).mono fun e W' ⟨he, bel⟩ => ?_
  subst he
  exact ⟨_, rfl, _, _, _, [], _, [], hW', trodAll_mk1 (shut_bool Try.underlying4 _), (trodAll_cons_mk (Below.trod laidOut (by kernel_rfl) (of_decide_eq_true (by kernel_rfl)) k0 bel lt0) (trodAll_cons_mk (Below.trod laidOut (by kernel_rfl) (of_decide_eq_true (by kernel_rfl)) k1 bel lt1) (trodAll_cons_mk (Below.trod laidOut (by kernel_rfl) (of_decide_eq_true (by kernel_rfl)) k2 bel lt2) (trodAll_cons_mk (Below.trod laidOut (by kernel_rfl) (of_decide_eq_true (by kernel_rfl)) k3 bel lt3) trodAll_mk0)))), rfl, bel.frame _, fun h => by cases h⟩
theorem over : Rows.headDoesRow.holds Try.pinned (OpenSpec.ofChange Rows.headDoesSpec) :=
  OpenClaim.holds_of_wide 5 Try.f5 rfl rfl rfl rfl rfl rfl rfl ⟨rfl, rfl, rfl, rfl, rfl⟩ rfl rfl rfl rfl rfl (by kernel_rfl) Try.func5 (by kernel_rfl)
    (of_decide_eq_true (by kernel_rfl)) (by unfold Func.isWrapper; first | (rw [if_pos (by decide +kernel)]; kernel_rfl) | (rw [if_neg (by decide +kernel)]; exact ⟨rfl, rfl⟩))
    (fun os started H enc _ => lifted os started H enc)
theorem proved : Rows.HeadDoesSaid := over
#print axioms proved
end Go.Proofs.Ytoljdfgkkkpnbaa.headDoes
namespace Go.Proofs.Ytoljdfgkkkpnbaa
/-- The row, under a short name, for the claim. -/
theorem headDoes_holds : Rows.HeadDoesSaid := headDoes.proved
end Go.Proofs.Ytoljdfgkkkpnbaa
