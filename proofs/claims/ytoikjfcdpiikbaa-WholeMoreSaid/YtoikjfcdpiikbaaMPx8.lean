-- written by a program of this session (wip/tools/mprint.sh) for this seat
import Derived.Test.YtoikjfcdpiikbaaMPx0
import Derived.Test.YtoikjfcdpiikbaaMPx7
namespace Go.Proofs.Ytoikjfcdpiikbaa.MP
open Go.RowKit Go.Proofs.YtoikjfcdpiikbaaW.PrintWords Go.Proofs.YtoikjfcdpiikbaaW.PrintLast Go.Proofs.YtoikjfcdpiikbaaW.PrintMore
attribute [local go_sem] max2_int min2_int max_two min_two max_three min_three max_four min_four   -- for this text's walks alone
set_option linter.unusedVariables false
set_option linter.unusedSimpArgs false

/-! ### leaf_Has: function 18 -/
def leaf_Has.f (k : Nat) (a0 : Int) (l1 : List Int) (a2 : Int) : Option (Bool × Int) := (leaf_find.f k a0 l1 a2).bind fun bt198 => (some (bt198.2.1, bt198.2.2))
theorem leaf_Has.mono : ∀ a0 a1 a2 k, LeO (leaf_Has.f k a0 a1 a2) (leaf_Has.f (k + 1) a0 a1 a2) := by
  intro a0 a1 a2 k
  unfold leaf_Has.f
  repeat' first
      | (with_reducible exact leaf_find.mono _ _ _ _)
      | (with_reducible exact LeO.refl _)
      | (with_reducible exact LeO.none _)
      | (with_reducible refine LeO.ite ?_ ?_)
      | (with_reducible refine LeO.bind ?_ (fun _ => ?_))
      | exact leaf_find.mono _ _ _ _
      | exact LeO.none _
      | refine LeO.ite ?_ ?_
      | refine LeO.bind ?_ (fun _ => ?_)
set_option maxHeartbeats 8000000 in
set_option maxRecDepth 100000 in
theorem leaf_Has.calls (k : Nat) (a0 : Int) (A1 : Option Addr) (c1 : Nat) (l1 : List Int) (a2 : Int) (r1 : Bool) (r2 : Int) (w : World) (hr1 : Kd.C (Kd.int .u64) w A1 l1.length l1) (hc1 : l1.length ≤ c1) (h : leaf_Has.f k a0 l1 a2 = some (r1, r2)) :
    Calls Try.prog 18 #[.int .i64 a0, .slice A1 l1.length c1, .int .u64 a2] w fun e w' => e = .returned (.tuple #[.bool r1, .int .i64 r2]) ∧ Drawn0 w w' := by
  have HR1 := Aside0.mk hr1
  have HC1 := Aside0.mk hc1
  clear hr1 hc1
  have H : ((leaf_find.f k a0 l1 a2).bind fun bt198 => (some (bt198.2.1, bt198.2.2))) = some (r1, r2) := h
  clear h
  replace H := Option.bind_eq_some_iff.mp H
  obtain ⟨⟨t198, t199, t200⟩, A40, H⟩ := H
  replace H : (some (t199, t200)) = some (r1, r2) := H
  have A4 := Aside0.mk A40
  clear A40
  simp only [Option.some.injEq, Prod.mk.injEq] at H
  obtain ⟨rfl, rfl⟩ := H
  go_enter Try.func18, Try.ntmps18
  go_wp2_with (first | ((with_reducible refine gate_callee (f := 50) rfl ?_); refine goesL_ (some 15) rfl rfl Try.func50 (by kernel_rfl) rfl #[.int .i64 a0, .slice A1 l1.length c1, .int .u64 a2] rfl (by (try simp only [List.map_toArray, List.map_cons, List.map_nil]); first | done | rfl | (simp only [List.length_drop, List.length_take]; rfl)) ?_; (with_reducible refine (leaf_find.calls k a0 _ _ l1 a2 t198 t199 t200 _ ?side1 ?side2 A4.out).mono ?_); (case side1 => repeat (first | exact HR1.out | (with_reducible refine Kd.C_alloc ?_ _) | (with_reducible refine Kd.C_drewN ?_ _) | (with_reducible refine Kd.C_drew ?_))); (case side2 => exact HC1.out); rintro e w' ⟨rfl, ⟨nd, rfl⟩⟩; refine ⟨_, rfl, ?_⟩))
  go_ret2
  exact ⟨by first | rfl | (simp; done) | (simp [*]; done), by repeat (first | exact Drawn0.refl _ | apply Drawn0.step)⟩

end Go.Proofs.Ytoikjfcdpiikbaa.MP
