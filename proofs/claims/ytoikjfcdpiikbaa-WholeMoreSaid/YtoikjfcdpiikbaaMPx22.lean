-- written by a program of this session (wip/tools/mprint.sh) for this seat
import Derived.Test.YtoikjfcdpiikbaaMPx0
import Derived.Test.YtoikjfcdpiikbaaMPx2
namespace Go.Proofs.Ytoikjfcdpiikbaa.MP
open Go.RowKit Go.Proofs.YtoikjfcdpiikbaaW.PrintWords Go.Proofs.YtoikjfcdpiikbaaW.PrintLast Go.Proofs.YtoikjfcdpiikbaaW.PrintMore
attribute [local go_sem] max2_int min2_int max_two min_two max_three min_three max_four min_four   -- for this text's walks alone
set_option linter.unusedVariables false
set_option linter.unusedSimpArgs false

/-! ### node_both: function 59 -/
def node_both.f (k : Nat) (a0 : Int) (a1 : Int) (a2 : Int) : Option (Int) := (node_Check.f k a0 a1).bind fun t376 => (if t376 = 0 then ((node_Check.f k a0 a2).bind fun t377 => (if t377 = 0 then (some 0) else (some 1))) else (some 1))
theorem node_both.mono : ∀ a0 a1 a2 k, LeO (node_both.f k a0 a1 a2) (node_both.f (k + 1) a0 a1 a2) := by
  intro a0 a1 a2 k
  unfold node_both.f
  repeat' first
      | (with_reducible exact node_Check.mono _ _ _)
      | (with_reducible exact LeO.refl _)
      | (with_reducible exact LeO.none _)
      | (with_reducible refine LeO.ite ?_ ?_)
      | (with_reducible refine LeO.bind ?_ (fun _ => ?_))
      | exact node_Check.mono _ _ _
      | exact LeO.none _
      | refine LeO.ite ?_ ?_
      | refine LeO.bind ?_ (fun _ => ?_)
set_option maxHeartbeats 8000000 in
set_option maxRecDepth 100000 in
theorem node_both.calls (k : Nat) (a0 : Int) (a1 : Int) (a2 : Int) (r : Int) (w : World) (h : node_both.f k a0 a1 a2 = some r) :
    Calls Try.prog 59 #[.int .i64 a0, .int .u64 a1, .int .u64 a2] w fun e w' => e = .returned (.int .i64 r) ∧ Drawn0 w w' := by
  have H : ((node_Check.f k a0 a1).bind fun t376 => (if t376 = 0 then ((node_Check.f k a0 a2).bind fun t377 => (if t377 = 0 then (some 0) else (some 1))) else (some 1))) = some r := h
  clear h
  replace H := Option.bind_eq_some_iff.mp H
  obtain ⟨t376, A40, H⟩ := H
  replace H : (if t376 = 0 then ((node_Check.f k a0 a2).bind fun t377 => (if t377 = 0 then (some 0) else (some 1))) else (some 1)) = some r := H
  have A4 := Aside0.mk A40
  clear A40
  by_cases c5 : t376 = 0
  · rw [if_pos c5] at H
    have c5b0 : (t376 == 0) = true := beq_iff_eq.mpr c5
    have c5b1 : (t376 != 0) = false := bne_eq_false_iff_eq.mpr c5
    clear c5
    replace H := Option.bind_eq_some_iff.mp H
    obtain ⟨t377, A60, H⟩ := H
    replace H : (if t377 = 0 then (some 0) else (some 1)) = some r := H
    have A6 := Aside0.mk A60
    clear A60
    by_cases c7 : t377 = 0
    · rw [if_pos c7] at H
      have c7b0 : (t377 == 0) = true := beq_iff_eq.mpr c7
      have c7b1 : (t377 != 0) = false := bne_eq_false_iff_eq.mpr c7
      clear c7
      obtain rfl := Option.some.inj H
      go_enter Try.func59, Try.ntmps59
      go_wp2_with (first | ((with_reducible refine gate_callee (f := 51) rfl ?_); refine goesL_ (some 9) rfl rfl Try.func51 (by kernel_rfl) rfl #[.int .i64 a0, .int .u64 a1] rfl (by (try simp only [List.map_toArray, List.map_cons, List.map_nil]); first | done | rfl | (simp only [List.length_drop, List.length_take]; rfl)) ?_; (with_reducible refine (node_Check.calls k a0 a1 t376 _ A4.out).mono ?_); rintro e w' ⟨rfl, ⟨nd, rfl⟩⟩; refine ⟨_, rfl, ?_⟩) | (go_at_call 51; (with_reducible refine (node_Check.calls k a0 a2 t377 _ A6.out).mono ?_); rintro e w' ⟨rfl, ⟨nd, rfl⟩⟩))
      go_ret
      exact ⟨by first | rfl | (simp; done) | (simp [*]; done), by repeat (first | exact Drawn0.refl _ | apply Drawn0.step)⟩
    · rw [if_neg c7] at H
      have c7b0 : (t377 == 0) = false := beq_eq_false_iff_ne.mpr c7
      have c7b1 : (t377 != 0) = true := bne_iff_ne.mpr c7
      obtain rfl := Option.some.inj H
      go_enter Try.func59, Try.ntmps59
      go_wp2_with (first | ((with_reducible refine gate_callee (f := 51) rfl ?_); refine goesL_ (some 9) rfl rfl Try.func51 (by kernel_rfl) rfl #[.int .i64 a0, .int .u64 a1] rfl (by (try simp only [List.map_toArray, List.map_cons, List.map_nil]); first | done | rfl | (simp only [List.length_drop, List.length_take]; rfl)) ?_; (with_reducible refine (node_Check.calls k a0 a1 t376 _ A4.out).mono ?_); rintro e w' ⟨rfl, ⟨nd, rfl⟩⟩; refine ⟨_, rfl, ?_⟩) | (go_at_call 51; (with_reducible refine (node_Check.calls k a0 a2 t377 _ A6.out).mono ?_); rintro e w' ⟨rfl, ⟨nd, rfl⟩⟩))
      go_ret
      exact ⟨by first | rfl | (simp; done) | (simp [*]; done), by repeat (first | exact Drawn0.refl _ | apply Drawn0.step)⟩
  · rw [if_neg c5] at H
    have c5b0 : (t376 == 0) = false := beq_eq_false_iff_ne.mpr c5
    have c5b1 : (t376 != 0) = true := bne_iff_ne.mpr c5
    obtain rfl := Option.some.inj H
    go_enter Try.func59, Try.ntmps59
    go_wp2_with (first | ((with_reducible refine gate_callee (f := 51) rfl ?_); refine goesL_ (some 9) rfl rfl Try.func51 (by kernel_rfl) rfl #[.int .i64 a0, .int .u64 a1] rfl (by (try simp only [List.map_toArray, List.map_cons, List.map_nil]); first | done | rfl | (simp only [List.length_drop, List.length_take]; rfl)) ?_; (with_reducible refine (node_Check.calls k a0 a1 t376 _ A4.out).mono ?_); rintro e w' ⟨rfl, ⟨nd, rfl⟩⟩; refine ⟨_, rfl, ?_⟩))
    go_ret
    exact ⟨by first | rfl | (simp; done) | (simp [*]; done), by repeat (first | exact Drawn0.refl _ | apply Drawn0.step)⟩

end Go.Proofs.Ytoikjfcdpiikbaa.MP
