-- written by a program of this session (wip/tools/rowgen.py) for this seat
import Derived.Test.YtccmoohcpaohmaaK0
import Derived.Test.YtccmoohcpaohmaaRows
import Derived.Test.YtccmoohcpaohmaaMPx28
import Derived.Test.YtccmoohcpaohmaaPureStoreMany
import Derived.WalkKit
import Derived.ProofKit
import Derived.OpenShut
import Derived.ShutString
import Derived.ChangeOld
import Derived.Below
import Derived.SizedLaws
import Derived.Carry
import Derived.Lib.SmallJoins
import Derived.Deep.SlicePairs
namespace Go.Proofs.Ytccmoohcpaohmaa.storeMany
open Go.ChangeShapes Go.WideShapes Go.ChangeAt Go.RowKit Go.Deep Go.Proofs.YtccmoohcpaohmaaW.PrintWords
set_option linter.unusedVariables false
set_option linter.unusedSimpArgs false
theorem own : ownKnob Try.prog.godebug = none := by kernel_rfl
theorem laidOut : laidOutB Try.prog = true := by kernel_rfl
theorem two_of {α : Type} {l : List α} (h : l.length = 2) : ∃ a b, l = [a, b] := by
  match l, h with
  | [a, b], _ => exact ⟨a, b, rfl⟩
/-- A slice that was read, by what each element reads as. -/
theorem open_gen {H : Type} {enc : TypeId × Value → H} {P : Program} {W : World} {fuel : Nat} {cs : List Value} {x : DataW H × List MemPlace} {t e : TypeId} {α : Type} (d : Kd α) (Pw : α → Prop) (z0 : α) (ht : P.underlying t = some (.slice e)) (hsz : P.cellsOf e = d.sz)
    (get : ∀ n cs' y, DataW.trod enc P W 0 (fun _ => true) true n e cs' = some y → cs'.length = d.sz → ∃ z : α, d.K W z cs' ∧ Pw z)
    (hf : DataW.trod enc P W 0 (fun _ => true) true fuel t cs = some x) :
    ∃ (a : Option Addr) (l : List α) (cap : Nat), cs = [.slice a l.length cap] ∧ Kd.C d W a l.length l ∧ l.length ≤ cap ∧ cap ≤ maxLen ∧ ∀ y ∈ l, Pw y := by
  rcases Go.Deep.open_slice ht hf with ⟨rfl, _⟩ | ⟨a, len, cap, m, n, D, Pl, rfl, _, hl, hm, hmm, _, hx⟩
  · exact ⟨none, [], 0, rfl, ⟨rfl, by simp, fun h => absurd h (by simp)⟩, by simp, by simp [maxLen], by simp⟩
  · have em : m = cap := by rw [hmm]; exact if_pos rfl
    have each : ∀ i, ∃ q : α × List Value, i < len → q.2.length = d.sz ∧ d.K W q.1 q.2 ∧ Pw q.1 ∧ ∀ j u, q.2[j]? = some u → W.cell? (a.add (i * d.sz + j)) = some u := by
      intro i
      by_cases h : i < len
      · obtain ⟨cs', h1, h2⟩ := hx i (by omega)
        rw [hsz] at h1
        obtain ⟨_, hlen, hcell⟩ := World.cells?_some h1
        obtain ⟨z, hz, hp⟩ := get n cs' _ h2 hlen
        refine ⟨(z, cs'), fun _ => ⟨hlen, hz, hp, fun j u hu => ?_⟩⟩
        have hj : j < cs'.length := (List.getElem?_eq_some_iff.1 hu).1
        have := hcell j (by omega)
        rw [Go.Deep.add_add] at this
        exact this.trans hu
      · exact ⟨(z0, []), fun h' => absurd h' h⟩
    let q := fun i => Classical.choose (each i)
    have hq : ∀ i, i < len → (q i).2.length = d.sz ∧ d.K W (q i).1 (q i).2 ∧ Pw (q i).1 ∧ ∀ j u, (q i).2[j]? = some u → W.cell? (a.add (i * d.sz + j)) = some u := fun i => Classical.choose_spec (each i)
    generalize q = q at hq
    have hlen : ((List.range len).map fun i => (q i).1).length = len := by simp
    refine ⟨some a, (List.range len).map fun i => (q i).1, cap, by rw [hlen], ?_, by rw [hlen]; exact hl, hm, ?_⟩
    · rw [hlen]
      refine ⟨hlen, by simp only [maxLen] at hm; omega, fun _ => ⟨a, rfl, fun j p hj => ?_⟩⟩
      have hjl : j < len := by
        have := (List.getElem?_eq_some_iff.1 hj).1
        rw [hlen] at this; exact this
      obtain ⟨h1, h2, _, h3⟩ := hq j hjl
      have ep : (q j).1 = p := by simpa [hjl] using hj
      subst ep
      exact ⟨_, h1, h2, h3⟩
    · intro y hy
      obtain ⟨i, hi, rfl⟩ := List.mem_map.1 hy
      exact (hq i (List.mem_range.1 hi)).2.2.1
set_option maxRecDepth 100000 in
theorem lifted (os : Os) (started : os.Started) (H : Type) (enc : TypeId × Value → H) :
    ReturnsInHanded {} Try.checked os 11 .any (Rows.storeManySpec.pre6 enc Try.prog Try.f11 Rows.storeManyRow.domain false) (Rows.storeManySpec.post enc Try.prog Try.f11 false true false false) := by
  refine returnsInHanded_of_change_sized (C := Try.checked) own started (by kernel_rfl) Try.func11
    (ChangeSpec.witness6 (enc := enc) (C := Try.checked) false ⟨#[], #[.int .i64 0, .int .i64 0, .int .u64 0], []⟩ 8 (by kernel_rfl) (by kernel_rfl) (by kernel_rfl) (by kernel_rfl)) ?_
  intro W base args ds gs before hval0 hW hcnd hsz0 _
  clear hsz0
  have hval : ∀ (j : Nat) t v, Try.f11.params[j]? = some t → args[j]? = some v → Value.okWide Try.prog W .any base t v := hval0
  have hW' := hW
  obtain ⟨p, q, hA0, hV, rfl, hfz, hnd⟩ := hW
  have hA : DataW.TrodAll enc Try.prog W 0 (fun _ => true) true Try.f11.params.toList args.toList ds p := hA0
  rw [Try.params11] at hA hval
  obtain ⟨v0, vs0, d0, ds0, p0, q0, hargs, rfl, rfl, h0, r0⟩ := trodAll_cons hA
  obtain ⟨v1, vs1, d1, ds1, p1, q1, rfl, rfl, rfl, h1, r1⟩ := trodAll_cons r0
  obtain ⟨v2, vs2, d2, ds2, p2, q2, rfl, rfl, rfl, h2, r2⟩ := trodAll_cons r1
  obtain ⟨rfl, rfl, rfl⟩ := trodAll_nil r2
  obtain rfl : args = #[v0, v1, v2] := by cases args; simp_all
  obtain ⟨rfl, rfl⟩ := trodVars_none hV
  have k0 := h0
  have lt0 : ∀ x ∈ p0, x.block < W.heap.size := by obtain ⟨m, hm⟩ := k0; exact DataW.trod_lt m _ _ _ hm
  have k1 := h1
  have lt1 : ∀ x ∈ p1, x.block < W.heap.size := by obtain ⟨m, hm⟩ := k1; exact DataW.trod_lt m _ _ _ hm
  have k2 := h2
  have lt2 : ∀ x ∈ p2, x.block < W.heap.size := by obtain ⟨m, hm⟩ := k2; exact DataW.trod_lt m _ _ _ hm
  obtain ⟨a0, rfl, _, _, w0⟩ := open_int Try.underlying3 (hval 0 3 v0 rfl rfl) h0
  obtain ⟨a1, rfl, _, _, w1⟩ := open_int Try.underlying3 (hval 1 3 v1 rfl rfl) h1
  obtain ⟨a2, rfl, _, _, w2⟩ := open_int Try.underlying22 (hval 2 22 v2 rfl rfl) h2
  clear hA0 hval0
  obtain ⟨kk, hh⟩ := Pure.StoreMany a0 a1 a2 w0 w1 w2
  refine (MP.medlarlaw14_StoreMany.calls kk a0 a1 a2 true W  hh ⟨rfl⟩).mono fun e W' ⟨he, bel⟩ => ?_
  subst he
  exact ⟨_, rfl, _, _, _, [], _, [], hW', trodAll_mk1 (shut_bool Try.underlying4 _), (trodAll_cons_mk (Below.trod laidOut (by kernel_rfl) (of_decide_eq_true (by kernel_rfl)) k0 bel lt0) (trodAll_cons_mk (Below.trod laidOut (by kernel_rfl) (of_decide_eq_true (by kernel_rfl)) k1 bel lt1) (trodAll_cons_mk (Below.trod laidOut (by kernel_rfl) (of_decide_eq_true (by kernel_rfl)) k2 bel lt2) trodAll_mk0))), rfl, bel.frame _, fun h => by cases h⟩
theorem over : Rows.storeManyRow.holds Try.pinned (OpenSpec.ofChange Rows.storeManySpec) :=
  OpenClaim.holds_of_wide 11 Try.f11 rfl rfl rfl rfl rfl rfl rfl ⟨rfl, rfl, rfl, rfl, rfl⟩ rfl rfl rfl rfl rfl (by kernel_rfl) Try.func11 (by kernel_rfl)
    (of_decide_eq_true (by kernel_rfl)) (by unfold Func.isWrapper; first | (rw [if_pos (by decide +kernel)]; kernel_rfl) | (rw [if_neg (by decide +kernel)]; exact ⟨rfl, rfl⟩))
    (fun os started H enc _ => lifted os started H enc)
theorem proved : Rows.StoreManySaid := over
#print axioms proved
end Go.Proofs.Ytccmoohcpaohmaa.storeMany
namespace Go.Proofs.Ytccmoohcpaohmaa
/-- The row, under a short name, for the claim. -/
theorem storeMany_holds : Rows.StoreManySaid := storeMany.proved
end Go.Proofs.Ytccmoohcpaohmaa
