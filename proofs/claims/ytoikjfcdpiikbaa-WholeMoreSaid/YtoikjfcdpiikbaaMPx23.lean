-- written by a program of this session (wip/tools/mprint.sh) for this seat
import Derived.Test.YtoikjfcdpiikbaaMPx0
import Derived.Test.YtoikjfcdpiikbaaMPx2
import Derived.Test.YtoikjfcdpiikbaaMPx22
namespace Go.Proofs.Ytoikjfcdpiikbaa.MP
open Go.RowKit Go.Proofs.YtoikjfcdpiikbaaW.PrintWords Go.Proofs.YtoikjfcdpiikbaaW.PrintLast Go.Proofs.YtoikjfcdpiikbaaW.PrintMore
attribute [local go_sem] max2_int min2_int max_two min_two max_three min_three max_four min_four   -- for this text's walks alone
set_option linter.unusedVariables false
set_option linter.unusedSimpArgs false

/-! ### node_above: function 60 -/
def node_above.f (k : Nat) (a0 : Int) (a1 : Int) : Option (Bool) := (node_depth.f k a0).bind fun t378 => ((node_depth.f k a1).bind fun t379 => (if t378 ≤ t379 then ((node_depth.f k a1).bind fun t380 => ((node_depth.f k a0).bind fun t381 => (if 0 ≤ (wrap64 (t380 - t381)) then (some ((shr .u64 a1 (wrap64 (t380 - t381))) == a0)) else (none)))) else (some false)))
theorem node_above.mono : ∀ a0 a1 k, LeO (node_above.f k a0 a1) (node_above.f (k + 1) a0 a1) := by
  intro a0 a1 k
  unfold node_above.f
  repeat' first
      | (with_reducible exact node_depth.mono _ _)
      | (with_reducible exact LeO.refl _)
      | (with_reducible exact LeO.none _)
      | (with_reducible refine LeO.ite ?_ ?_)
      | (with_reducible refine LeO.bind ?_ (fun _ => ?_))
      | exact node_depth.mono _ _
      | exact LeO.none _
      | refine LeO.ite ?_ ?_
      | refine LeO.bind ?_ (fun _ => ?_)
set_option maxHeartbeats 8000000 in
set_option maxRecDepth 100000 in
theorem node_above.calls (k : Nat) (a0 : Int) (a1 : Int) (r : Bool) (w : World) (h : node_above.f k a0 a1 = some r) :
    Calls Try.prog 60 #[.int .u64 a0, .int .u64 a1] w fun e w' => e = .returned (.bool r) ∧ Drawn0 w w' := by
  have H : ((node_depth.f k a0).bind fun t378 => ((node_depth.f k a1).bind fun t379 => (if t378 ≤ t379 then ((node_depth.f k a1).bind fun t380 => ((node_depth.f k a0).bind fun t381 => (if 0 ≤ (wrap64 (t380 - t381)) then (some ((shr .u64 a1 (wrap64 (t380 - t381))) == a0)) else (none)))) else (some false)))) = some r := h
  clear h
  replace H := Option.bind_eq_some_iff.mp H
  obtain ⟨t378, A30, H⟩ := H
  replace H : ((node_depth.f k a1).bind fun t379 => (if t378 ≤ t379 then ((node_depth.f k a1).bind fun t380 => ((node_depth.f k a0).bind fun t381 => (if 0 ≤ (wrap64 (t380 - t381)) then (some ((shr .u64 a1 (wrap64 (t380 - t381))) == a0)) else (none)))) else (some false))) = some r := H
  have A3 := Aside0.mk A30
  clear A30
  replace H := Option.bind_eq_some_iff.mp H
  obtain ⟨t379, A40, H⟩ := H
  replace H : (if t378 ≤ t379 then ((node_depth.f k a1).bind fun t380 => ((node_depth.f k a0).bind fun t381 => (if 0 ≤ (wrap64 (t380 - t381)) then (some ((shr .u64 a1 (wrap64 (t380 - t381))) == a0)) else (none)))) else (some false)) = some r := H
  have A4 := Aside0.mk A40
  clear A40
  by_cases c5 : t378 ≤ t379
  · rw [if_pos c5] at H
    have c5b0 : decide (t378 ≤ t379) = true := decide_eq_true c5
    clear c5
    replace H := Option.bind_eq_some_iff.mp H
    obtain ⟨t380, A60, H⟩ := H
    replace H : ((node_depth.f k a0).bind fun t381 => (if 0 ≤ (wrap64 (t380 - t381)) then (some ((shr .u64 a1 (wrap64 (t380 - t381))) == a0)) else (none))) = some r := H
    have A6 := Aside0.mk A60
    clear A60
    replace H := Option.bind_eq_some_iff.mp H
    obtain ⟨t381, A70, H⟩ := H
    replace H : (if 0 ≤ (wrap64 (t380 - t381)) then (some ((shr .u64 a1 (wrap64 (t380 - t381))) == a0)) else (none)) = some r := H
    have A7 := Aside0.mk A70
    clear A70
    obtain ⟨ji8, hji8⟩ : ∃ j_ : Int, (wrap64 (t380 - t381)) = j_ := ⟨_, rfl⟩
    replace H : (if 0 ≤ (ji8) then (some ((shr .u64 a1 (ji8)) == a0)) else (none)) = some r := by first | (rw [hji8] at H; exact H) | (simp only [hji8] at H ⊢; exact H)
    (try rw [hji8] at A3)
    (try rw [hji8] at A4)
    (try rw [hji8] at A6)
    (try rw [hji8] at A7)
    have hji8w : (IntKind.i64.wrap (t380 - t381)) = ji8 := (i64_w _).trans hji8
    by_cases c9 : 0 ≤ (ji8)
    · rw [if_pos c9] at H
      have c9b0 := eq_true c9
      have c9b1 : decide (0 ≤ (ji8)) = true := decide_eq_true c9
      clear c9
      obtain ⟨ji10, hji10⟩ : ∃ j_ : Int, (shr .u64 a1 (ji8)) = j_ := ⟨_, rfl⟩
      replace H : (some ((ji10) == a0)) = some r := by first | (rw [hji10] at H; exact H) | (simp only [hji10] at H ⊢; exact H)
      (try rw [hji10] at A3)
      (try rw [hji10] at A4)
      (try rw [hji10] at A6)
      (try rw [hji10] at A7)
      have hji10_ : (a1 / 2 ^ min (ji8).toNat 64) = ji10 := hji10
      have hji10z : (ji8) ≤ 64 → (a1 / 2 ^ (ji8).toNat) = ji10 := shr_small hji10
      obtain rfl := Option.some.inj H
      go_enter Try.func60, Try.ntmps60
      go_wp2_with (first | ((with_reducible refine gate_callee (f := 52) rfl ?_); refine goesL_ (some 6) rfl rfl Try.func52 (by kernel_rfl) rfl #[.int .u64 a0] rfl (by (try simp only [List.map_toArray, List.map_cons, List.map_nil]); first | done | rfl | (simp only [List.length_drop, List.length_take]; rfl)) ?_; (with_reducible refine (node_depth.calls k a0 t378 _ A3.out).mono ?_); rintro e w' ⟨rfl, ⟨nd, rfl⟩⟩; refine ⟨_, rfl, ?_⟩) | ((with_reducible refine gate_callee (f := 52) rfl ?_); refine goesL_ (some 8) rfl rfl Try.func52 (by kernel_rfl) rfl #[.int .u64 a1] rfl (by (try simp only [List.map_toArray, List.map_cons, List.map_nil]); first | done | rfl | (simp only [List.length_drop, List.length_take]; rfl)) ?_; (with_reducible refine (node_depth.calls k a1 t379 _ A4.out).mono ?_); rintro e w' ⟨rfl, ⟨nd, rfl⟩⟩; refine ⟨_, rfl, ?_⟩) | (go_at_call 52; (with_reducible refine (node_depth.calls k a1 t380 _ A6.out).mono ?_); rintro e w' ⟨rfl, ⟨nd, rfl⟩⟩) | (go_at_call 52; (with_reducible refine (node_depth.calls k a0 t381 _ A7.out).mono ?_); rintro e w' ⟨rfl, ⟨nd, rfl⟩⟩))
      go_ret
      exact ⟨by first | rfl | (simp; done) | (simp only [← hji8, ← hji10] <;> (first | rfl | simp)) | (simp [*]; done), by repeat (first | exact Drawn0.refl _ | apply Drawn0.step)⟩
    · rw [if_neg c9] at H
      exact absurd H (by simp)
  · rw [if_neg c5] at H
    have c5b0 : decide (t378 ≤ t379) = false := decide_eq_false c5
    clear c5
    obtain rfl := Option.some.inj H
    go_enter Try.func60, Try.ntmps60
    go_wp2_with (first | ((with_reducible refine gate_callee (f := 52) rfl ?_); refine goesL_ (some 6) rfl rfl Try.func52 (by kernel_rfl) rfl #[.int .u64 a0] rfl (by (try simp only [List.map_toArray, List.map_cons, List.map_nil]); first | done | rfl | (simp only [List.length_drop, List.length_take]; rfl)) ?_; (with_reducible refine (node_depth.calls k a0 t378 _ A3.out).mono ?_); rintro e w' ⟨rfl, ⟨nd, rfl⟩⟩; refine ⟨_, rfl, ?_⟩) | ((with_reducible refine gate_callee (f := 52) rfl ?_); refine goesL_ (some 8) rfl rfl Try.func52 (by kernel_rfl) rfl #[.int .u64 a1] rfl (by (try simp only [List.map_toArray, List.map_cons, List.map_nil]); first | done | rfl | (simp only [List.length_drop, List.length_take]; rfl)) ?_; (with_reducible refine (node_depth.calls k a1 t379 _ A4.out).mono ?_); rintro e w' ⟨rfl, ⟨nd, rfl⟩⟩; refine ⟨_, rfl, ?_⟩))
    go_ret
    exact ⟨by first | rfl | (simp; done) | (simp [*]; done), by repeat (first | exact Drawn0.refl _ | apply Drawn0.step)⟩

/-! ### node_Above: function 28 -/
def node_Above.f (k : Nat) (a0 : Int) (a1 : Int) (a2 : Int) : Option (Bool × Int) := (node_both.f k a0 a1 a2).bind fun t382 => (if t382 = 0 then ((node_above.f k a1 a2).bind fun t383 => (some (t383, 0))) else (some (false, t382)))
theorem node_Above.mono : ∀ a0 a1 a2 k, LeO (node_Above.f k a0 a1 a2) (node_Above.f (k + 1) a0 a1 a2) := by
  intro a0 a1 a2 k
  unfold node_Above.f
  repeat' first
      | (with_reducible exact node_above.mono _ _ _)
      | (with_reducible exact node_both.mono _ _ _ _)
      | (with_reducible exact LeO.refl _)
      | (with_reducible exact LeO.none _)
      | (with_reducible refine LeO.ite ?_ ?_)
      | (with_reducible refine LeO.bind ?_ (fun _ => ?_))
      | exact node_above.mono _ _ _
      | exact node_both.mono _ _ _ _
      | exact LeO.none _
      | refine LeO.ite ?_ ?_
      | refine LeO.bind ?_ (fun _ => ?_)
set_option maxHeartbeats 8000000 in
set_option maxRecDepth 100000 in
theorem node_Above.calls (k : Nat) (a0 : Int) (a1 : Int) (a2 : Int) (r1 : Bool) (r2 : Int) (w : World) (h : node_Above.f k a0 a1 a2 = some (r1, r2)) :
    Calls Try.prog 28 #[.int .i64 a0, .int .u64 a1, .int .u64 a2] w fun e w' => e = .returned (.tuple #[.bool r1, .int .i64 r2]) ∧ Drawn0 w w' := by
  have H : ((node_both.f k a0 a1 a2).bind fun t382 => (if t382 = 0 then ((node_above.f k a1 a2).bind fun t383 => (some (t383, 0))) else (some (false, t382)))) = some (r1, r2) := h
  clear h
  replace H := Option.bind_eq_some_iff.mp H
  obtain ⟨t382, A40, H⟩ := H
  replace H : (if t382 = 0 then ((node_above.f k a1 a2).bind fun t383 => (some (t383, 0))) else (some (false, t382))) = some (r1, r2) := H
  have A4 := Aside0.mk A40
  clear A40
  by_cases c5 : t382 = 0
  · rw [if_pos c5] at H
    have c5b0 : (t382 == 0) = true := beq_iff_eq.mpr c5
    have c5b1 : (t382 != 0) = false := bne_eq_false_iff_eq.mpr c5
    clear c5
    replace H := Option.bind_eq_some_iff.mp H
    obtain ⟨t383, A60, H⟩ := H
    replace H : (some (t383, 0)) = some (r1, r2) := H
    have A6 := Aside0.mk A60
    clear A60
    simp only [Option.some.injEq, Prod.mk.injEq] at H
    obtain ⟨rfl, rfl⟩ := H
    go_enter Try.func28, Try.ntmps28
    go_wp2_with (first | ((with_reducible refine gate_callee (f := 59) rfl ?_); refine goesL_ (some 12) rfl rfl Try.func59 (by kernel_rfl) rfl #[.int .i64 a0, .int .u64 a1, .int .u64 a2] rfl (by (try simp only [List.map_toArray, List.map_cons, List.map_nil]); first | done | rfl | (simp only [List.length_drop, List.length_take]; rfl)) ?_; (with_reducible refine (node_both.calls k a0 a1 a2 t382 _ A4.out).mono ?_); rintro e w' ⟨rfl, ⟨nd, rfl⟩⟩; refine ⟨_, rfl, ?_⟩) | ((with_reducible refine gate_callee (f := 60) rfl ?_); refine goesL_ (some 18) rfl rfl Try.func60 (by kernel_rfl) rfl #[.int .u64 a1, .int .u64 a2] rfl (by (try simp only [List.map_toArray, List.map_cons, List.map_nil]); first | done | rfl | (simp only [List.length_drop, List.length_take]; rfl)) ?_; (with_reducible refine (node_above.calls k a1 a2 t383 _ A6.out).mono ?_); rintro e w' ⟨rfl, ⟨nd, rfl⟩⟩; refine ⟨_, rfl, ?_⟩))
    go_ret2
    exact ⟨by first | rfl | (simp; done) | (simp [*]; done), by repeat (first | exact Drawn0.refl _ | apply Drawn0.step)⟩
  · rw [if_neg c5] at H
    have c5b0 : (t382 == 0) = false := beq_eq_false_iff_ne.mpr c5
    have c5b1 : (t382 != 0) = true := bne_iff_ne.mpr c5
    simp only [Option.some.injEq, Prod.mk.injEq] at H
    obtain ⟨rfl, rfl⟩ := H
    go_enter Try.func28, Try.ntmps28
    go_wp2_with (first | ((with_reducible refine gate_callee (f := 59) rfl ?_); refine goesL_ (some 12) rfl rfl Try.func59 (by kernel_rfl) rfl #[.int .i64 a0, .int .u64 a1, .int .u64 a2] rfl (by (try simp only [List.map_toArray, List.map_cons, List.map_nil]); first | done | rfl | (simp only [List.length_drop, List.length_take]; rfl)) ?_; (with_reducible refine (node_both.calls k a0 a1 a2 t382 _ A4.out).mono ?_); rintro e w' ⟨rfl, ⟨nd, rfl⟩⟩; refine ⟨_, rfl, ?_⟩))
    go_ret2
    exact ⟨by first | rfl | (simp; done) | (simp [*]; done), by repeat (first | exact Drawn0.refl _ | apply Drawn0.step)⟩

end Go.Proofs.Ytoikjfcdpiikbaa.MP
