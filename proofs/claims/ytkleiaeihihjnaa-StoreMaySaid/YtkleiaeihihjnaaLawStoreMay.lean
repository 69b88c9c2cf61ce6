-- written by a program of this session (wip/tools/rowgen.py) for this seat
import Derived.Test.YtkleiaeihihjnaaK0
import Derived.Test.YtkleiaeihihjnaaRows
import Derived.Test.YtkleiaeihihjnaaMPx8
import Derived.Test.YtkleiaeihihjnaaPureStoreMay
import Derived.WalkKit
import Derived.ProofKit
import Derived.OpenShut
import Derived.ShutString
import Derived.ChangeOld
import Derived.Below
import Derived.SizedLaws
import Derived.Carry
import Derived.Lib.SmallJoins
import Derived.Deep.SlicePairs
namespace Go.Proofs.Ytkleiaeihihjnaa.storeMay
open Go.ChangeShapes Go.WideShapes Go.ChangeAt Go.RowKit Go.Deep Go.Proofs.YtkleiaeihihjnaaW.PrintWords
set_option linter.unusedVariables false
set_option linter.unusedSimpArgs false
theorem own : ownKnob Try.prog.godebug = none := by kernel_rfl
theorem laidOut : laidOutB Try.prog = true := by kernel_rfl
theorem two_of {α : Type} {l : List α} (h : l.length = 2) : ∃ a b, l = [a, b] := by
  match l, h with
  | [a, b], _ => exact ⟨a, b, rfl⟩
/-- A slice that was read, by what each element reads as. -/
theorem open_gen {H : Type} {enc : TypeId × Value → H} {P : Program} {W : World} {fuel : Nat} {cs : List Value} {x : DataW H × List MemPlace} {t e : TypeId} {α : Type} (d : Kd α) (Pw : α → Prop) (z0 : α) (ht : P.underlying t = some (.slice e)) (hsz : P.cellsOf e = d.sz)
    (get : ∀ n cs' y, DataW.trod enc P W 0 (fun _ => true) true n e cs' = some y → cs'.length = d.sz → ∃ z : α, d.K W z cs' ∧ Pw z)
    (hf : DataW.trod enc P W 0 (fun _ => true) true fuel t cs = some x) :
    ∃ (a : Option Addr) (l : List α) (cap : Nat), cs = [.slice a l.length cap] ∧ Kd.C d W a l.length l ∧ l.length ≤ cap ∧ cap ≤ maxLen ∧ ∀ y ∈ l, Pw y := by
  rcases Go.Deep.open_slice ht hf with ⟨rfl, _⟩ | ⟨a, len, cap, m, n, D, Pl, rfl, _, hl, hm, hmm, _, hx⟩
  · exact ⟨none, [], 0, rfl, ⟨rfl, by simp, fun h => absurd h (by simp)⟩, by simp, by simp [maxLen], by simp⟩
  · have em : m = cap := by rw [hmm]; exact if_pos rfl
    have each : ∀ i, ∃ q : α × List Value, i < len → q.2.length = d.sz ∧ d.K W q.1 q.2 ∧ Pw q.1 ∧ ∀ j u, q.2[j]? = some u → W.cell? (a.add (i * d.sz + j)) = some u := by
      intro i
      by_cases h : i < len
      · obtain ⟨cs', h1, h2⟩ := hx i (by omega)
        rw [hsz] at h1
        obtain ⟨_, hlen, hcell⟩ := World.cells?_some h1
        obtain ⟨z, hz, hp⟩ := get n cs' _ h2 hlen
        refine ⟨(z, cs'), fun _ => ⟨hlen, hz, hp, fun j u hu => ?_⟩⟩
        have hj : j < cs'.length := (List.getElem?_eq_some_iff.1 hu).1
        have := hcell j (by omega)
        rw [Go.Deep.add_add] at this
        exact this.trans hu
      · exact ⟨(z0, []), fun h' => absurd h' h⟩
    let q := fun i => Classical.choose (each i)
    have hq : ∀ i, i < len → (q i).2.length = d.sz ∧ d.K W (q i).1 (q i).2 ∧ Pw (q i).1 ∧ ∀ j u, (q i).2[j]? = some u → W.cell? (a.add (i * d.sz + j)) = some u := fun i => Classical.choose_spec (each i)
    generalize q = q at hq
    have hlen : ((List.range len).map fun i => (q i).1).length = len := by simp
    refine ⟨some a, (List.range len).map fun i => (q i).1, cap, by rw [hlen], ?_, by rw [hlen]; exact hl, hm, ?_⟩
    · rw [hlen]
      refine ⟨hlen, by simp only [maxLen] at hm; omega, fun _ => ⟨a, rfl, fun j p hj => ?_⟩⟩
      have hjl : j < len := by
        have := (List.getElem?_eq_some_iff.1 hj).1
        rw [hlen] at this; exact this
      obtain ⟨h1, h2, _, h3⟩ := hq j hjl
      have ep : (q j).1 = p := by simpa [hjl] using hj
      subst ep
      exact ⟨_, h1, h2, h3⟩
    · intro y hy
      obtain ⟨i, hi, rfl⟩ := List.mem_map.1 hy
      exact (hq i (List.mem_range.1 hi)).2.2.1
theorem tr_field {H : Type} {enc : TypeId × Value → H} {P : Program} {W : World} {n : Nat} {cs : List Value} {y : DataW H × List MemPlace} {t : TypeId} {fs : Array Field} (ht : P.underlying t = some (.struct fs)) (h : DataW.trod enc P W 0 (fun _ => true) true n t cs = some y) (i : Nat) (ft : TypeId) (off k : Nat) (hf : (fs[i]?).map (fun f => (f.type, f.offset)) = some (ft, off)) (hk : P.cellsOf ft = k) :
    ∃ m z, DataW.trod enc P W 0 (fun _ => true) true m ft ((cs.drop off).take k) = some z := by
  obtain ⟨xs, m, _, _, _, hl, hx⟩ := DataW.trod_struct ht h
  obtain ⟨f, hf1, hf2⟩ := Option.map_eq_some_iff.1 hf
  simp only [Prod.mk.injEq] at hf2
  obtain ⟨rfl, rfl⟩ := hf2
  have hi : i < xs.length := by rw [hl]; exact (Array.getElem?_eq_some_iff.1 hf1).1
  exact ⟨m, xs[i], by rw [← hk, hx i f hf1, List.getElem?_eq_getElem hi]⟩
theorem tr_arr2 {H : Type} {enc : TypeId × Value → H} {P : Program} {W : World} {n : Nat} {c0 c1 : Value} {x : DataW H × List MemPlace} {t e : TypeId} (ht : P.underlying t = some (.array 2 e)) (hce : P.cellsOf e = 1) (h : DataW.trod enc P W 0 (fun _ => true) true n t [c0, c1] = some x) :
    ∃ m y0 y1, DataW.trod enc P W 0 (fun _ => true) true m e [c0] = some y0 ∧ DataW.trod enc P W 0 (fun _ => true) true m e [c1] = some y1 := by
  cases n with
  | zero => simp [DataW.trod] at h
  | succ n =>
    unfold DataW.trod at h
    rw [ht] at h
    have r2 : List.range 2 = [0, 1] := rfl
    simp [r2, hce] at h
    obtain ⟨_, h⟩ := h
    cases h0 : DataW.trod enc P W 0 (fun _ => true) true n e [c0] with
    | none => simp [h0] at h
    | some y0 =>
      cases h1 : DataW.trod enc P W 0 (fun _ => true) true n e [c1] with
      | none => simp [h0, h1] at h
      | some y1 => exact ⟨n, y0, y1, h0, h1⟩
theorem okWide_agg {P : Program} {W : World} {b : Nat} {t : TypeId} {fs : Array Field} {v : Value} (ht : P.underlying t = some (.struct fs)) (h : Value.okWide P W .any b t v) : ∃ cs, v = .agg cs ∧ cs.size = P.cellsOf t := okWide_struct ht h
theorem okWide_agg_arr {P : Program} {W : World} {b : Nat} {t e : TypeId} {n : Nat} {v : Value} (ht : P.underlying t = some (.array n e)) (h : Value.okWide P W .any b t v) : ∃ cs, v = .agg cs ∧ cs.size = P.cellsOf t := by
  cases v <;> simp_all [Value.okWide]
theorem arrN2 {cs : Array Value} (h : cs.size = 2) : ∃ c0 c1, cs = #[c0, c1] := by
  obtain ⟨l⟩ := cs
  replace h : l.length = 2 := h
  match l, h with
  | [c0, c1], _ => exact ⟨c0, c1, rfl⟩
theorem get24 {H : Type} {enc : TypeId × Value → H} {W : World} {n : Nat} {cs : List Value} {y : DataW H × List MemPlace} (h : DataW.trod enc Try.prog W 0 (fun _ => true) true n 24 cs = some y) (hl : cs.length = 2) :
    ∃ (a0 : Int) (a1 : Int), cs = [.int .u64 a0, .int .u64 a1] ∧ (Lit.int .u64 a0).wf = true ∧ (Lit.int .u64 a1).wf = true := by
  obtain ⟨c0, c1, rfl⟩ : ∃ c0 c1, cs = [c0, c1] := by
    match cs, hl with
    | [c0, c1], _ => exact ⟨c0, c1, rfl⟩
  obtain ⟨m_, z0, z1, h0, h1⟩ := tr_arr2 Try.underlying24 (by kernel_rfl) h
  obtain ⟨b0, e0, _, w0⟩ := DataW.trod_int Try.underlying22 h0
  simp only [List.cons.injEq, and_true] at e0
  subst e0
  obtain ⟨b1, e1, _, w1⟩ := DataW.trod_int Try.underlying22 h1
  simp only [List.cons.injEq, and_true] at e1
  subst e1
  exact ⟨b0, b1, rfl, w0, w1⟩
set_option maxHeartbeats 8000000 in
set_option maxRecDepth 100000 in
theorem lifted (os : Os) (started : os.Started) (H : Type) (enc : TypeId × Value → H) :
    ReturnsInHanded {} Try.checked os 4 .any (Rows.storeMaySpec.pre6 enc Try.prog Try.f4 Rows.storeMayRow.domain false) (Rows.storeMaySpec.post enc Try.prog Try.f4 false true false false) := by
  refine returnsInHanded_of_change_sized (C := Try.checked) own started (by kernel_rfl) Try.func4
    (ChangeSpec.witness6 (enc := enc) (C := Try.checked) false ⟨#[], #[.agg #[.int .u64 0, .int .u64 0], .int .i64 0, .int .i64 0, .int .u64 0], []⟩ 8 (by kernel_rfl) (by kernel_rfl) (by kernel_rfl) (by kernel_rfl)) ?_
  intro W base args ds gs before hval0 hW hcnd hsz0 _
  clear hsz0
  have hval : ∀ (j : Nat) t v, Try.f4.params[j]? = some t → args[j]? = some v → Value.okWide Try.prog W .any base t v := hval0
  have hW' := hW
  obtain ⟨p, q, hA0, hV, rfl, hfz, hnd⟩ := hW
  have hA : DataW.TrodAll enc Try.prog W 0 (fun _ => true) true Try.f4.params.toList args.toList ds p := hA0
  rw [Try.params4] at hA hval
  obtain ⟨v0, vs0, d0, ds0, p0, q0, hargs, rfl, rfl, h0, r0⟩ := trodAll_cons hA
  obtain ⟨v1, vs1, d1, ds1, p1, q1, rfl, rfl, rfl, h1, r1⟩ := trodAll_cons r0
  obtain ⟨v2, vs2, d2, ds2, p2, q2, rfl, rfl, rfl, h2, r2⟩ := trodAll_cons r1
  obtain ⟨v3, vs3, d3, ds3, p3, q3, rfl, rfl, rfl, h3, r3⟩ := trodAll_cons r2
  obtain ⟨rfl, rfl, rfl⟩ := trodAll_nil r3
  obtain rfl : args = #[v0, v1, v2, v3] := by cases args; simp_all
  obtain ⟨rfl, rfl⟩ := trodVars_none hV
  have k0 := h0
  have lt0 : ∀ x ∈ p0, x.block < W.heap.size := by obtain ⟨m, hm⟩ := k0; exact DataW.trod_lt m _ _ _ hm
  have k1 := h1
  have lt1 : ∀ x ∈ p1, x.block < W.heap.size := by obtain ⟨m, hm⟩ := k1; exact DataW.trod_lt m _ _ _ hm
  have k2 := h2
  have lt2 : ∀ x ∈ p2, x.block < W.heap.size := by obtain ⟨m, hm⟩ := k2; exact DataW.trod_lt m _ _ _ hm
  have k3 := h3
  have lt3 : ∀ x ∈ p3, x.block < W.heap.size := by obtain ⟨m, hm⟩ := k3; exact DataW.trod_lt m _ _ _ hm
  obtain ⟨cs0, rfl, hsz0⟩ := okWide_agg_arr Try.underlying24 (hval 0 24 v0 rfl rfl)
  rw [show Try.prog.cellsOf 24 = 2 from by kernel_rfl] at hsz0
  obtain ⟨c0_0, c0_1, rfl⟩ := arrN2 hsz0
  obtain ⟨fuel0, hf0⟩ := h0
  replace hf0 : DataW.trod enc Try.prog W 0 (fun _ => true) true fuel0 24 [c0_0, c0_1] = some _ := hf0
  obtain ⟨a0_0, a0_1, e0, w0_0, w0_1⟩ := get24 hf0 rfl
  simp only [List.cons.injEq, and_true] at e0
  obtain ⟨rfl, rfl⟩ := e0
  obtain ⟨a1, rfl, _, _, w1⟩ := open_int Try.underlying3 (hval 1 3 v1 rfl rfl) h1
  obtain ⟨a2, rfl, _, _, w2⟩ := open_int Try.underlying3 (hval 2 3 v2 rfl rfl) h2
  obtain ⟨a3, rfl, _, _, w3⟩ := open_int Try.underlying22 (hval 3 22 v3 rfl rfl) h3
  clear hA0 hval0
  obtain ⟨kk, hh⟩ := Pure.StoreMay a0_0 a0_1 a1 a2 a3 w0_0 w0_1 w1 w2 w3
  refine (MP.medlarlaw14_StoreMay.calls kk a0_0 a0_1 a1 a2 a3 true W  hh ⟨rfl⟩).mono fun e W' ⟨he, bel⟩ => ?_
  subst he
  exact ⟨_, rfl, _, _, _, [], _, [], hW', trodAll_mk1 (shut_bool Try.underlying4 _), (trodAll_cons_mk (Below.trod laidOut (by kernel_rfl) (of_decide_eq_true (by kernel_rfl)) k0 bel lt0) (trodAll_cons_mk (Below.trod laidOut (by kernel_rfl) (of_decide_eq_true (by kernel_rfl)) k1 bel lt1) (trodAll_cons_mk (Below.trod laidOut (by kernel_rfl) (of_decide_eq_true (by kernel_rfl)) k2 bel lt2) (trodAll_cons_mk (Below.trod laidOut (by kernel_rfl) (of_decide_eq_true (by kernel_rfl)) k3 bel lt3) trodAll_mk0)))), rfl, bel.frame _, fun h => by cases h⟩
theorem over : Rows.storeMayRow.holds Try.pinned (OpenSpec.ofChange Rows.storeMaySpec) :=
  OpenClaim.holds_of_wide 4 Try.f4 rfl rfl rfl rfl rfl rfl rfl ⟨rfl, rfl, rfl, rfl, rfl⟩ rfl rfl rfl rfl rfl (by kernel_rfl) Try.func4 (by kernel_rfl)
    (of_decide_eq_true (by kernel_rfl)) (by unfold Func.isWrapper; first | (rw [if_pos (by decide +kernel)]; kernel_rfl) | (rw [if_neg (by decide +kernel)]; exact ⟨rfl, rfl⟩))
    (fun os started H enc _ => lifted os started H enc)
theorem proved : Rows.StoreMaySaid := over
#print axioms proved
end Go.Proofs.Ytkleiaeihihjnaa.storeMay
namespace Go.Proofs.Ytkleiaeihihjnaa
/-- The row, under a short name, for the claim. -/
theorem storeMay_holds : Rows.StoreMaySaid := storeMay.proved
end Go.Proofs.Ytkleiaeihihjnaa
