-- written by a program of this session (wip/tools/lawsub.py) for this seat
import Derived.Test.YtmffkfakcbopcaaK0
import Derived.Test.YtmffkfakcbopcaaRows
import Derived.Test.YtmffkfakcbopcaaMPx25
import Derived.Test.YtmffkfakcbopcaaPureLayerOrder
import Derived.WalkKit
import Derived.ProofKit
import Derived.OpenShut
import Derived.ShutString
import Derived.ChangeOld
import Derived.Below
import Derived.SizedLaws
import Derived.Lib.SmallJoins
import Derived.Deep.SlicePairs
namespace Go.Proofs.Ytmffkfakcbopcaa.layerOrder
open Go.ChangeShapes Go.WideShapes Go.ChangeAt Go.RowKit Go.Proofs.YtmffkfakcbopcaaW.PrintWords
set_option linter.unusedVariables false
theorem own : ownKnob Try.prog.godebug = none := by kernel_rfl
theorem laidOut : laidOutB Try.prog = true := by kernel_rfl
/-- A row's slice of pairs, read. -/
theorem open_subs {H : Type} {enc : TypeId × Value → H} {W : World} {fuel : Nat} {a : Option Addr} {len cap : Nat} {d : DataW H} {ps : List MemPlace} {ts : List TypeId} {ds : List (DataW H)} {j : Nat}
    (hsz : (DataW.weightsEach Try.prog ts ds).all (· ≤ reachBytes) = true) (ht : ts[j]? = some 24) (hd : ds[j]? = some d)
    (hf : DataW.trod enc Try.prog W 0 (fun _ => true) true fuel 24 [.slice a len cap] = some (d, ps)) :
    ∃ l : List MP.S34, len = l.length ∧ Kd.C MP.k34 W a l.length l ∧ l.length ≤ cap ∧ l.length ≤ maxLen ∧ l.length * 16 ≤ 140737488351232 ∧ ∀ x ∈ l, (Lit.int .u64 x.f0).wf = true ∧ (Lit.int .u64 x.f1).wf = true := by
  rcases Go.Deep.open_slice_pairs Try.underlying24 Try.underlying34 (by kernel_rfl) rfl rfl (by kernel_rfl) (by kernel_rfl) hf with ⟨hcs, _⟩ | ⟨x, len', cap', m, n, V0, V1, D0, D1, P0, P1, hcs, _, hl, hm, hmm, hx, hi⟩
  · simp at hcs
    obtain ⟨rfl, rfl, rfl⟩ := hcs
    exact ⟨[], rfl, ⟨rfl, by simp, fun h => absurd h (by simp)⟩, by simp, by simp [maxLen], by simp, by simp⟩
  · simp at hcs
    obtain ⟨rfl, rfl, rfl⟩ := hcs
    have em : m = cap := by rw [hmm]; exact if_pos rfl
    obtain ⟨hx, _⟩ := Prod.mk.inj hx
    subst hx
    have z := sized_slice hsz ht hd Try.underlying24
    rw [show Try.prog.bytesOf 34 = 16 by kernel_rfl] at z
    have each : ∀ i, ∃ p : Int × Int, i < len → V0 i = .int .u64 p.1 ∧ V1 i = .int .u64 p.2 ∧ (Lit.int .u64 p.1).wf = true ∧ (Lit.int .u64 p.2).wf = true := by
      intro i
      by_cases h : i < len
      · obtain ⟨_, _, h0, h1⟩ := hi i (by omega)
        obtain ⟨x0, e0, _, w0⟩ := DataW.trod_int Try.underlying28 h0
        obtain ⟨x1, e1, _, w1⟩ := DataW.trod_int Try.underlying28 h1
        simp at e0 e1
        exact ⟨(x0, x1), fun _ => ⟨e0, e1, w0, w1⟩⟩
      · exact ⟨(0, 0), fun h' => absurd h' h⟩
    let q := fun i => Classical.choose (each i)
    have hq : ∀ i, i < len → V0 i = .int .u64 (q i).1 ∧ V1 i = .int .u64 (q i).2 ∧ (Lit.int .u64 (q i).1).wf = true ∧ (Lit.int .u64 (q i).2).wf = true := fun i => Classical.choose_spec (each i)
    generalize q = q at hq
    have hlen : ((List.range len).map fun i => (⟨(q i).1, (q i).2⟩ : MP.S34)).length = len := by simp
    refine ⟨(List.range len).map fun i => ⟨(q i).1, (q i).2⟩, hlen.symm, ?_, by rw [hlen]; exact hl, by rw [hlen]; omega, ?_, ?_⟩
    · rw [hlen]
      refine ⟨hlen, by simp only [maxLen] at hm; omega, fun _ => ⟨x, rfl, fun j p hj => ?_⟩⟩
      have hjl : j < len := by
        have := (List.getElem?_eq_some_iff.1 hj).1
        rw [hlen] at this; exact this
      obtain ⟨c0, c1, _, _⟩ := hi j (by omega)
      obtain ⟨e0, e1, _, _⟩ := hq j hjl
      have ep : (⟨(q j).1, (q j).2⟩ : MP.S34) = p := by simpa [hjl] using hj
      subst ep
      refine ⟨_, rfl, MP.k34_mk _ _, fun i u hu => ?_⟩
      match i, hu with
      | 0, hu =>
        have : Value.int .u64 (q j).1 = u := by simpa using hu
        rw [Nat.add_zero]
        exact c0.trans (by rw [e0, this])
      | 1, hu =>
        have : Value.int .u64 (q j).2 = u := by simpa using hu
        exact c1.trans (by rw [e1, this])
      | i + 2, hu => simp at hu
    · rw [hlen]
      simp only [reachBytes, List.length_map, List.length_range] at z
      have := Nat.mul_le_mul_right 16 (show len ≤ len + (m - len) by omega)
      omega
    · intro y hy
      obtain ⟨i, hi', rfl⟩ := List.mem_map.1 hy
      obtain ⟨_, _, w0, w1⟩ := hq i (List.mem_range.1 hi')
      exact ⟨w0, w1⟩
set_option maxRecDepth 100000 in
theorem lifted (os : Os) (started : os.Started) (H : Type) (enc : TypeId × Value → H) :
    ReturnsInHanded {} Try.checked os 8 .any (Rows.layerOrderSpec.pre6 enc Try.prog Try.f8 Rows.layerOrderRow.domain false) (Rows.layerOrderSpec.post enc Try.prog Try.f8 false true false false) := by
  refine returnsInHanded_of_change_sized (C := Try.checked) own started (by kernel_rfl) Try.func8
    (ChangeSpec.witness6 (enc := enc) (C := Try.checked) false ⟨#[], #[.slice none 0 0], []⟩ 8 (by kernel_rfl) (by kernel_rfl) (by kernel_rfl) (by kernel_rfl)) ?_
  intro W base args ds gs before hval0 hW hcnd hsz0 _
  have hsz : (DataW.weightsEach Try.prog (Try.f8.params.toList ++ Rows.layerOrderSpec.plain.varTypes Try.prog) (ds ++ gs)).all (· ≤ reachBytes) = true := hsz0
  have hval : ∀ (j : Nat) t v, Try.f8.params[j]? = some t → args[j]? = some v → Value.okWide Try.prog W .any base t v := hval0
  have hW' := hW
  obtain ⟨p, q, hA0, hV, rfl, hfz, hnd⟩ := hW
  have hA : DataW.TrodAll enc Try.prog W 0 (fun _ => true) true Try.f8.params.toList args.toList ds p := hA0
  rw [Try.params8] at hA hval hsz
  obtain ⟨v0, vs0, d0, ds0, p0, q0, hargs, rfl, rfl, h0, r0⟩ := trodAll_cons hA
  obtain ⟨rfl, rfl, rfl⟩ := trodAll_nil r0
  obtain rfl : args = #[v0] := by cases args; simp_all
  obtain ⟨rfl, rfl⟩ := trodVars_none hV
  obtain ⟨a0, len0, cap0, rfl⟩ := okWide_slice Try.underlying24 (hval 0 24 v0 rfl rfl)
  have k0 := h0
  have lt0 : ∀ x ∈ p0, x.block < W.heap.size := by obtain ⟨m, hm⟩ := k0; exact DataW.trod_lt m _ _ _ hm
  obtain ⟨fuel, hf⟩ := h0
  obtain ⟨l0, rfl, hr0, hc0, hm0, y0, hw0⟩ := open_subs hsz (j := 0) rfl rfl hf
  clear hA0 hval0 hsz0 hsz
  refine (MP.medlarlaw12_LayerOrder.walk Pure.LayerOrder a0 cap0 l0 W hr0 hc0 hm0 y0 hw0).mono fun e W' ⟨he, bel⟩ => ?_
  subst he
  exact ⟨_, rfl, _, _, _, [], _, [], hW', trodAll_mk1 (shut_bool Try.underlying4 _), (trodAll_cons_mk (Below.trod laidOut (by kernel_rfl) (of_decide_eq_true (by kernel_rfl)) k0 bel lt0) trodAll_mk0), rfl, bel.frame _, fun h => by cases h⟩
theorem over : Rows.layerOrderRow.holds Try.pinned (OpenSpec.ofChange Rows.layerOrderSpec) :=
  OpenClaim.holds_of_wide 8 Try.f8 rfl rfl rfl rfl rfl rfl rfl ⟨rfl, rfl, rfl, rfl, rfl⟩ rfl rfl rfl rfl rfl (by kernel_rfl) Try.func8 (by kernel_rfl)
    (of_decide_eq_true (by kernel_rfl)) (by unfold Func.isWrapper; first | (rw [if_pos (by decide +kernel)]; kernel_rfl) | (rw [if_neg (by decide +kernel)]; exact ⟨rfl, rfl⟩))
    (fun os started H enc _ => lifted os started H enc)
theorem proved : Rows.LayerOrderSaid := over
#print axioms proved
end Go.Proofs.Ytmffkfakcbopcaa.layerOrder
namespace Go.Proofs.Ytmffkfakcbopcaa
/-- The row, under a short name, for the claim. -/
theorem layerOrder_holds : Rows.LayerOrderSaid := layerOrder.proved
end Go.Proofs.Ytmffkfakcbopcaa
