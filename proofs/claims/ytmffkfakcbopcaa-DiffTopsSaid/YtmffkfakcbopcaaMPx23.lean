-- written by a program of this session (wip/tools/mprint.sh) for this seat
import Derived.Test.YtmffkfakcbopcaaMPx0
import Derived.Test.YtmffkfakcbopcaaMPx2
import Derived.Test.YtmffkfakcbopcaaMPx11
namespace Go.Proofs.Ytmffkfakcbopcaa.MP
open Go.RowKit Go.Proofs.YtmffkfakcbopcaaW.PrintWords Go.Proofs.YtmffkfakcbopcaaW.PrintLast Go.Proofs.YtmffkfakcbopcaaW.PrintMore
attribute [local go_sem] max2_int min2_int max_two min_two max_three min_three max_four min_four   -- for this text's walks alone
set_option linter.unusedVariables false
set_option linter.unusedSimpArgs false

/-! ### layer_check: function 73 -/
def layer_check.f (k : Nat) (a0 : Int) (a1 : Int) : Option (Int) := if a1 < 1 then (some 1) else (if a1 > 3 then (some 1) else ((node_Check.f k a0 1).bind fun t581 => (some t581)))
theorem layer_check.mono : ∀ a0 a1 k, LeO (layer_check.f k a0 a1) (layer_check.f (k + 1) a0 a1) := by
  intro a0 a1 k
  unfold layer_check.f
  repeat' first
      | (with_reducible exact node_Check.mono _ _ _)
      | (with_reducible exact LeO.refl _)
      | (with_reducible exact LeO.none _)
      | (with_reducible refine LeO.ite ?_ ?_)
      | (with_reducible refine LeO.bind ?_ (fun _ => ?_))
      | exact node_Check.mono _ _ _
      | exact LeO.none _
      | refine LeO.ite ?_ ?_
      | refine LeO.bind ?_ (fun _ => ?_)
set_option maxHeartbeats 8000000 in
set_option maxRecDepth 100000 in
theorem layer_check.calls (k : Nat) (a0 : Int) (a1 : Int) (r : Int) (w : World) (h : layer_check.f k a0 a1 = some r) :
    Calls Try.prog 73 #[.int .i64 a0, .int .i64 a1] w fun e w' => e = .returned (.int .i64 r) ∧ Drawn0 w w' := by
  have H : (if a1 < 1 then (some 1) else (if a1 > 3 then (some 1) else ((node_Check.f k a0 1).bind fun t581 => (some t581)))) = some r := h
  clear h
  by_cases c3 : a1 < 1
  · rw [if_pos c3] at H
    have c3b0 : decide (a1 < 1) = true := decide_eq_true c3
    clear c3
    obtain rfl := Option.some.inj H
    go_enter Try.func73, Try.ntmps73
    go_wp2
    go_ret
    exact ⟨by first | rfl | (simp; done) | (simp [*]; done), by repeat (first | exact Drawn0.refl _ | apply Drawn0.step)⟩
  · rw [if_neg c3] at H
    have c3b0 : decide (a1 < 1) = false := decide_eq_false c3
    clear c3
    by_cases c4 : a1 > 3
    · rw [if_pos c4] at H
      have c4b0 : decide (3 < a1) = true := decide_eq_true c4
      clear c4
      obtain rfl := Option.some.inj H
      go_enter Try.func73, Try.ntmps73
      go_wp2
      go_ret
      exact ⟨by first | rfl | (simp; done) | (simp [*]; done), by repeat (first | exact Drawn0.refl _ | apply Drawn0.step)⟩
    · rw [if_neg c4] at H
      have c4b0 : decide (3 < a1) = false := decide_eq_false c4
      clear c4
      replace H := Option.bind_eq_some_iff.mp H
      obtain ⟨t581, A50, H⟩ := H
      replace H : (some t581) = some r := H
      have A5 := Aside0.mk A50
      clear A50
      obtain rfl := Option.some.inj H
      go_enter Try.func73, Try.ntmps73
      go_wp2_with (first | ((with_reducible refine gate_callee (f := 64) rfl ?_); refine goesL_ (some 12) rfl rfl Try.func64 (by kernel_rfl) rfl #[.int .i64 a0, .int .u64 1] rfl (by (try simp only [List.map_toArray, List.map_cons, List.map_nil]); first | done | rfl | (simp only [List.length_drop, List.length_take]; rfl)) ?_; (with_reducible refine (node_Check.calls k a0 1 t581 _ A5.out).mono ?_); rintro e w' ⟨rfl, ⟨nd, rfl⟩⟩; refine ⟨_, rfl, ?_⟩))
      go_ret
      exact ⟨by first | rfl | (simp; done) | (simp [*]; done), by repeat (first | exact Drawn0.refl _ | apply Drawn0.step)⟩

/-! ### sub_Step: function 33 -/
def sub_Step.l0 : Nat → Int → Int → Option (Int × Int)
  | 0, _, _ => none
  | k + 1, x0, x5 => if (wrap64 (x5 * x5)) < x0 then (sub_Step.l0 k x0 (wrap64 (x5 + 1))) else (some (x5, 0))
def sub_Step.f (k : Nat) (a0 : Int) : Option (Int × Int) := (node_Check.f k a0 1).bind fun t582 => (if t582 = 0 then (sub_Step.l0 k a0 1) else (some (0, t582)))
theorem sub_Step.mono_l : ∀ k, (∀ y0 y1, LeO (sub_Step.l0 k y0 y1) (sub_Step.l0 (k + 1) y0 y1))
  | 0 => fun _ _ r h => by simp [sub_Step.l0] at h
  | k + 1 => by
    have ih0 := sub_Step.mono_l k
    · intro y0 y1
      unfold sub_Step.l0
      repeat' first
      | (with_reducible exact ih0 _ _)
      | (with_reducible exact node_Check.mono _ _ _)
      | (with_reducible exact LeO.refl _)
      | (with_reducible exact LeO.none _)
      | (with_reducible refine LeO.ite ?_ ?_)
      | (with_reducible refine LeO.bind ?_ (fun _ => ?_))
      | exact ih0 _ _
      | exact node_Check.mono _ _ _
      | exact LeO.none _
      | refine LeO.ite ?_ ?_
      | refine LeO.bind ?_ (fun _ => ?_)
theorem sub_Step.mono : ∀ a0 k, LeO (sub_Step.f k a0) (sub_Step.f (k + 1) a0) := by
  intro a0 k
  have ih0 := sub_Step.mono_l k
  unfold sub_Step.f
  repeat' first
      | (with_reducible exact ih0 _ _)
      | (with_reducible exact node_Check.mono _ _ _)
      | (with_reducible exact LeO.refl _)
      | (with_reducible exact LeO.none _)
      | (with_reducible refine LeO.ite ?_ ?_)
      | (with_reducible refine LeO.bind ?_ (fun _ => ?_))
      | exact ih0 _ _
      | exact node_Check.mono _ _ _
      | exact LeO.none _
      | refine LeO.ite ?_ ?_
      | refine LeO.bind ?_ (fun _ => ?_)
set_option maxHeartbeats 8000000 in
set_option maxRecDepth 100000 in
theorem sub_Step.calls (k : Nat) (a0 : Int) (r1 : Int) (r2 : Int) (w : World) (h : sub_Step.f k a0 = some (r1, r2)) :
    Calls Try.prog 33 #[.int .i64 a0] w fun e w' => e = .returned (.tuple #[.int .i64 r1, .int .i64 r2]) ∧ Drawn0 w w' := by
  have H : ((node_Check.f k a0 1).bind fun t582 => (if t582 = 0 then (sub_Step.l0 k a0 1) else (some (0, t582)))) = some (r1, r2) := h
  clear h
  replace H := Option.bind_eq_some_iff.mp H
  obtain ⟨t582, A20, H⟩ := H
  replace H : (if t582 = 0 then (sub_Step.l0 k a0 1) else (some (0, t582))) = some (r1, r2) := H
  have A2 := Aside0.mk A20
  clear A20
  by_cases c3 : t582 = 0
  · rw [if_pos c3] at H
    have c3b0 : (t582 == 0) = true := beq_iff_eq.mpr c3
    have c3b1 : (t582 != 0) = false := bne_eq_false_iff_eq.mpr c3
    clear c3
    have H' := Aside0.mk H
    clear H
    go_enter Try.func33, Try.ntmps33
    go_wp2_with (first | ((with_reducible refine gate_callee (f := 64) rfl ?_); refine goesL_ (some 7) rfl rfl Try.func64 (by kernel_rfl) rfl #[.int .i64 a0, .int .u64 1] rfl (by (try simp only [List.map_toArray, List.map_cons, List.map_nil]); first | done | rfl | (simp only [List.length_drop, List.length_take]; rfl)) ?_; (with_reducible refine (node_Check.calls k a0 1 t582 _ A2.out).mono ?_); rintro e w' ⟨rfl, ⟨nd, rfl⟩⟩; refine ⟨_, rfl, ?_⟩))
    go_loopg [5] k (fun kq v5 w' => ∃ (x5_1 : Int), v5 = .int .i64 x5_1 ∧ Aside0 (sub_Step.l0 kq a0 x5_1 = some (r1, r2)) ∧ Aside0 (kq ≤ k) ∧ Drawn0 w w')
    case atStart => exact ⟨(1), (by first | rfl | (simp; done) | (simp [*]; done)), H', ⟨Nat.le_refl _⟩, by repeat (first | exact Drawn0.refl _ | apply Drawn0.step)⟩
    case round =>
      clear H'
      try clear p2
      try clear c3
      try clear c3b0
      try clear c3b1
      obtain ⟨x5_1, rfl, HA, HK1, ⟨m1, rfl⟩⟩ := hrel
      cases gk with
      | zero => exact absurd HA.out (by simp [sub_Step.l0])
      | succ k1 =>
        have H := HA.out
        clear HA
        simp only [sub_Step.l0] at H
        by_cases c4 : (wrap64 (x5_1 * x5_1)) < a0
        · rw [if_pos c4] at H
          have c4b0 : decide ((wrap64 (x5_1 * x5_1)) < a0) = true := decide_eq_true c4
          clear c4
          have H' := Aside0.mk H
          clear H
          go_wp2
          go_roundg k1
          case measure => have := HK1.out; omega
          case rel => exact ⟨(wrap64 (x5_1 + 1)), (by first | rfl | (simp; done) | (simp [*]; done)), H', ⟨by have := HK1.out; omega⟩, by repeat (first | exact Drawn0.refl _ | apply Drawn0.step)⟩
        · rw [if_neg c4] at H
          have c4b0 : decide ((wrap64 (x5_1 * x5_1)) < a0) = false := decide_eq_false c4
          clear c4
          simp only [Option.some.injEq, Prod.mk.injEq] at H
          obtain ⟨rfl, rfl⟩ := H
          go_wp2
          go_ret2
          exact ⟨by first | rfl | (simp; done) | (simp [*]; done), by repeat (first | exact Drawn0.refl _ | apply Drawn0.step)⟩
  · rw [if_neg c3] at H
    have c3b0 : (t582 == 0) = false := beq_eq_false_iff_ne.mpr c3
    have c3b1 : (t582 != 0) = true := bne_iff_ne.mpr c3
    simp only [Option.some.injEq, Prod.mk.injEq] at H
    obtain ⟨rfl, rfl⟩ := H
    go_enter Try.func33, Try.ntmps33
    go_wp2_with (first | ((with_reducible refine gate_callee (f := 64) rfl ?_); refine goesL_ (some 7) rfl rfl Try.func64 (by kernel_rfl) rfl #[.int .i64 a0, .int .u64 1] rfl (by (try simp only [List.map_toArray, List.map_cons, List.map_nil]); first | done | rfl | (simp only [List.length_drop, List.length_take]; rfl)) ?_; (with_reducible refine (node_Check.calls k a0 1 t582 _ A2.out).mono ?_); rintro e w' ⟨rfl, ⟨nd, rfl⟩⟩; refine ⟨_, rfl, ?_⟩))
    go_ret2
    exact ⟨by first | rfl | (simp; done) | (simp [*]; done), by repeat (first | exact Drawn0.refl _ | apply Drawn0.step)⟩

/-! ### node_Depth: function 60 -/
def node_Depth.f (k : Nat) (a0 : Int) (a1 : Int) : Option (Int × Int) := (node_Check.f k a0 a1).bind fun t583 => (if t583 = 0 then ((node_depth.f k a1).bind fun t584 => (some (t584, 0))) else (some (0, t583)))
theorem node_Depth.mono : ∀ a0 a1 k, LeO (node_Depth.f k a0 a1) (node_Depth.f (k + 1) a0 a1) := by
  intro a0 a1 k
  unfold node_Depth.f
  repeat' first
      | (with_reducible exact node_Check.mono _ _ _)
      | (with_reducible exact node_depth.mono _ _)
      | (with_reducible exact LeO.refl _)
      | (with_reducible exact LeO.none _)
      | (with_reducible refine LeO.ite ?_ ?_)
      | (with_reducible refine LeO.bind ?_ (fun _ => ?_))
      | exact node_Check.mono _ _ _
      | exact node_depth.mono _ _
      | exact LeO.none _
      | refine LeO.ite ?_ ?_
      | refine LeO.bind ?_ (fun _ => ?_)
set_option maxHeartbeats 8000000 in
set_option maxRecDepth 100000 in
theorem node_Depth.calls (k : Nat) (a0 : Int) (a1 : Int) (r1 : Int) (r2 : Int) (w : World) (h : node_Depth.f k a0 a1 = some (r1, r2)) :
    Calls Try.prog 60 #[.int .i64 a0, .int .u64 a1] w fun e w' => e = .returned (.tuple #[.int .i64 r1, .int .i64 r2]) ∧ Drawn0 w w' := by
  have H : ((node_Check.f k a0 a1).bind fun t583 => (if t583 = 0 then ((node_depth.f k a1).bind fun t584 => (some (t584, 0))) else (some (0, t583)))) = some (r1, r2) := h
  clear h
  replace H := Option.bind_eq_some_iff.mp H
  obtain ⟨t583, A30, H⟩ := H
  replace H : (if t583 = 0 then ((node_depth.f k a1).bind fun t584 => (some (t584, 0))) else (some (0, t583))) = some (r1, r2) := H
  have A3 := Aside0.mk A30
  clear A30
  by_cases c4 : t583 = 0
  · rw [if_pos c4] at H
    have c4b0 : (t583 == 0) = true := beq_iff_eq.mpr c4
    have c4b1 : (t583 != 0) = false := bne_eq_false_iff_eq.mpr c4
    clear c4
    replace H := Option.bind_eq_some_iff.mp H
    obtain ⟨t584, A50, H⟩ := H
    replace H : (some (t584, 0)) = some (r1, r2) := H
    have A5 := Aside0.mk A50
    clear A50
    simp only [Option.some.injEq, Prod.mk.injEq] at H
    obtain ⟨rfl, rfl⟩ := H
    go_enter Try.func60, Try.ntmps60
    go_wp2_with (first | ((with_reducible refine gate_callee (f := 64) rfl ?_); refine goesL_ (some 9) rfl rfl Try.func64 (by kernel_rfl) rfl #[.int .i64 a0, .int .u64 a1] rfl (by (try simp only [List.map_toArray, List.map_cons, List.map_nil]); first | done | rfl | (simp only [List.length_drop, List.length_take]; rfl)) ?_; (with_reducible refine (node_Check.calls k a0 a1 t583 _ A3.out).mono ?_); rintro e w' ⟨rfl, ⟨nd, rfl⟩⟩; refine ⟨_, rfl, ?_⟩) | ((with_reducible refine gate_callee (f := 102) rfl ?_); refine goesL_ (some 14) rfl rfl Try.func102 (by kernel_rfl) rfl #[.int .u64 a1] rfl (by (try simp only [List.map_toArray, List.map_cons, List.map_nil]); first | done | rfl | (simp only [List.length_drop, List.length_take]; rfl)) ?_; (with_reducible refine (node_depth.calls k a1 t584 _ A5.out).mono ?_); rintro e w' ⟨rfl, ⟨nd, rfl⟩⟩; refine ⟨_, rfl, ?_⟩))
    go_ret2
    exact ⟨by first | rfl | (simp; done) | (simp [*]; done), by repeat (first | exact Drawn0.refl _ | apply Drawn0.step)⟩
  · rw [if_neg c4] at H
    have c4b0 : (t583 == 0) = false := beq_eq_false_iff_ne.mpr c4
    have c4b1 : (t583 != 0) = true := bne_iff_ne.mpr c4
    simp only [Option.some.injEq, Prod.mk.injEq] at H
    obtain ⟨rfl, rfl⟩ := H
    go_enter Try.func60, Try.ntmps60
    go_wp2_with (first | ((with_reducible refine gate_callee (f := 64) rfl ?_); refine goesL_ (some 9) rfl rfl Try.func64 (by kernel_rfl) rfl #[.int .i64 a0, .int .u64 a1] rfl (by (try simp only [List.map_toArray, List.map_cons, List.map_nil]); first | done | rfl | (simp only [List.length_drop, List.length_take]; rfl)) ?_; (with_reducible refine (node_Check.calls k a0 a1 t583 _ A3.out).mono ?_); rintro e w' ⟨rfl, ⟨nd, rfl⟩⟩; refine ⟨_, rfl, ?_⟩))
    go_ret2
    exact ⟨by first | rfl | (simp; done) | (simp [*]; done), by repeat (first | exact Drawn0.refl _ | apply Drawn0.step)⟩

/-! ### sub_depths: function 76 -/
def sub_depths.f (k : Nat) (a0 : Int) (a1_0 : Int) (a1_1 : Int) : Option (Int × Int × Int × Bool × Int) := (sub_Step.f k a0).bind fun bt586 => (if bt586.2 = 0 then ((node_Depth.f k a0 a1_0).bind fun bt588 => (if bt588.2 = 0 then (if a1_1 = 0 then (if bt586.1 = 0 then (none) else (if (Int.tmod bt588.1 bt586.1) = 0 then (some (bt588.1, 0, mn (wrap64 ((wrap64 ((wrap64 (Int.tdiv bt588.1 bt586.1)) + 1)) * bt586.1)) a0, true, bt588.2)) else (some (bt588.1, 0, mn (wrap64 ((wrap64 ((wrap64 (Int.tdiv bt588.1 bt586.1)) + 1)) * bt586.1)) a0, (bt588.1 == a0), bt588.2)))) else ((node_Depth.f k a0 a1_1).bind fun bt590 => (if bt586.1 = 0 then (none) else (if (Int.tmod bt588.1 bt586.1) = 0 then (some (bt588.1, bt590.1, mn (wrap64 ((wrap64 ((wrap64 (Int.tdiv bt588.1 bt586.1)) + 1)) * bt586.1)) a0, true, bt590.2)) else (some (bt588.1, bt590.1, mn (wrap64 ((wrap64 ((wrap64 (Int.tdiv bt588.1 bt586.1)) + 1)) * bt586.1)) a0, (bt588.1 == a0), bt590.2)))))) else (if bt586.1 = 0 then (none) else (if (Int.tmod bt588.1 bt586.1) = 0 then (some (bt588.1, 0, mn (wrap64 ((wrap64 ((wrap64 (Int.tdiv bt588.1 bt586.1)) + 1)) * bt586.1)) a0, true, bt588.2)) else (some (bt588.1, 0, mn (wrap64 ((wrap64 ((wrap64 (Int.tdiv bt588.1 bt586.1)) + 1)) * bt586.1)) a0, (bt588.1 == a0), bt588.2)))))) else (some (0, 0, 0, false, bt586.2)))
theorem sub_depths.mono : ∀ a0 a1 a2 k, LeO (sub_depths.f k a0 a1 a2) (sub_depths.f (k + 1) a0 a1 a2) := by
  intro a0 a1 a2 k
  unfold sub_depths.f
  repeat' first
      | (with_reducible exact node_Depth.mono _ _ _)
      | (with_reducible exact sub_Step.mono _ _)
      | (with_reducible exact LeO.refl _)
      | (with_reducible exact LeO.none _)
      | (with_reducible refine LeO.ite ?_ ?_)
      | (with_reducible refine LeO.bind ?_ (fun _ => ?_))
      | exact node_Depth.mono _ _ _
      | exact sub_Step.mono _ _
      | exact LeO.none _
      | refine LeO.ite ?_ ?_
      | refine LeO.bind ?_ (fun _ => ?_)
set_option maxHeartbeats 8000000 in
set_option maxRecDepth 100000 in
theorem sub_depths.calls (k : Nat) (a0 : Int) (a1_0 : Int) (a1_1 : Int) (r1 : Int) (r2 : Int) (r3 : Int) (r4 : Bool) (r5 : Int) (w : World) (h : sub_depths.f k a0 a1_0 a1_1 = some (r1, r2, r3, r4, r5)) :
    Calls Try.prog 76 #[.int .i64 a0, .agg #[.int .u64 a1_0, .int .u64 a1_1]] w fun e w' => e = .returned (.tuple #[.int .i64 r1, .int .i64 r2, .int .i64 r3, .bool r4, .int .i64 r5]) ∧ Below w.heap.size w w' := by
  have hu34 := Try.underlying34
  have HB := Aside0.mk (Below.refl w.heap.size w)
  have H : ((sub_Step.f k a0).bind fun bt586 => (if bt586.2 = 0 then ((node_Depth.f k a0 a1_0).bind fun bt588 => (if bt588.2 = 0 then (if a1_1 = 0 then (if bt586.1 = 0 then (none) else (if (Int.tmod bt588.1 bt586.1) = 0 then (some (bt588.1, 0, mn (wrap64 ((wrap64 ((wrap64 (Int.tdiv bt588.1 bt586.1)) + 1)) * bt586.1)) a0, true, bt588.2)) else (some (bt588.1, 0, mn (wrap64 ((wrap64 ((wrap64 (Int.tdiv bt588.1 bt586.1)) + 1)) * bt586.1)) a0, (bt588.1 == a0), bt588.2)))) else ((node_Depth.f k a0 a1_1).bind fun bt590 => (if bt586.1 = 0 then (none) else (if (Int.tmod bt588.1 bt586.1) = 0 then (some (bt588.1, bt590.1, mn (wrap64 ((wrap64 ((wrap64 (Int.tdiv bt588.1 bt586.1)) + 1)) * bt586.1)) a0, true, bt590.2)) else (some (bt588.1, bt590.1, mn (wrap64 ((wrap64 ((wrap64 (Int.tdiv bt588.1 bt586.1)) + 1)) * bt586.1)) a0, (bt588.1 == a0), bt590.2)))))) else (if bt586.1 = 0 then (none) else (if (Int.tmod bt588.1 bt586.1) = 0 then (some (bt588.1, 0, mn (wrap64 ((wrap64 ((wrap64 (Int.tdiv bt588.1 bt586.1)) + 1)) * bt586.1)) a0, true, bt588.2)) else (some (bt588.1, 0, mn (wrap64 ((wrap64 ((wrap64 (Int.tdiv bt588.1 bt586.1)) + 1)) * bt586.1)) a0, (bt588.1 == a0), bt588.2)))))) else (some (0, 0, 0, false, bt586.2)))) = some (r1, r2, r3, r4, r5) := h
  clear h
  replace H := Option.bind_eq_some_iff.mp H
  obtain ⟨⟨t586, t587⟩, A30, H⟩ := H
  replace H : (if t587 = 0 then ((node_Depth.f k a0 a1_0).bind fun bt588 => (if bt588.2 = 0 then (if a1_1 = 0 then (if t586 = 0 then (none) else (if (Int.tmod bt588.1 t586) = 0 then (some (bt588.1, 0, mn (wrap64 ((wrap64 ((wrap64 (Int.tdiv bt588.1 t586)) + 1)) * t586)) a0, true, bt588.2)) else (some (bt588.1, 0, mn (wrap64 ((wrap64 ((wrap64 (Int.tdiv bt588.1 t586)) + 1)) * t586)) a0, (bt588.1 == a0), bt588.2)))) else ((node_Depth.f k a0 a1_1).bind fun bt590 => (if t586 = 0 then (none) else (if (Int.tmod bt588.1 t586) = 0 then (some (bt588.1, bt590.1, mn (wrap64 ((wrap64 ((wrap64 (Int.tdiv bt588.1 t586)) + 1)) * t586)) a0, true, bt590.2)) else (some (bt588.1, bt590.1, mn (wrap64 ((wrap64 ((wrap64 (Int.tdiv bt588.1 t586)) + 1)) * t586)) a0, (bt588.1 == a0), bt590.2)))))) else (if t586 = 0 then (none) else (if (Int.tmod bt588.1 t586) = 0 then (some (bt588.1, 0, mn (wrap64 ((wrap64 ((wrap64 (Int.tdiv bt588.1 t586)) + 1)) * t586)) a0, true, bt588.2)) else (some (bt588.1, 0, mn (wrap64 ((wrap64 ((wrap64 (Int.tdiv bt588.1 t586)) + 1)) * t586)) a0, (bt588.1 == a0), bt588.2)))))) else (some (0, 0, 0, false, t587))) = some (r1, r2, r3, r4, r5) := H
  have A3 := Aside0.mk A30
  clear A30
  by_cases c4 : t587 = 0
  · rw [if_pos c4] at H
    have c4b0 : (t587 == 0) = true := beq_iff_eq.mpr c4
    have c4b1 : (t587 != 0) = false := bne_eq_false_iff_eq.mpr c4
    clear c4
    replace H := Option.bind_eq_some_iff.mp H
    obtain ⟨⟨t588, t589⟩, A50, H⟩ := H
    replace H : (if t589 = 0 then (if a1_1 = 0 then (if t586 = 0 then (none) else (if (Int.tmod t588 t586) = 0 then (some (t588, 0, mn (wrap64 ((wrap64 ((wrap64 (Int.tdiv t588 t586)) + 1)) * t586)) a0, true, t589)) else (some (t588, 0, mn (wrap64 ((wrap64 ((wrap64 (Int.tdiv t588 t586)) + 1)) * t586)) a0, (t588 == a0), t589)))) else ((node_Depth.f k a0 a1_1).bind fun bt590 => (if t586 = 0 then (none) else (if (Int.tmod t588 t586) = 0 then (some (t588, bt590.1, mn (wrap64 ((wrap64 ((wrap64 (Int.tdiv t588 t586)) + 1)) * t586)) a0, true, bt590.2)) else (some (t588, bt590.1, mn (wrap64 ((wrap64 ((wrap64 (Int.tdiv t588 t586)) + 1)) * t586)) a0, (t588 == a0), bt590.2)))))) else (if t586 = 0 then (none) else (if (Int.tmod t588 t586) = 0 then (some (t588, 0, mn (wrap64 ((wrap64 ((wrap64 (Int.tdiv t588 t586)) + 1)) * t586)) a0, true, t589)) else (some (t588, 0, mn (wrap64 ((wrap64 ((wrap64 (Int.tdiv t588 t586)) + 1)) * t586)) a0, (t588 == a0), t589))))) = some (r1, r2, r3, r4, r5) := H
    have A5 := Aside0.mk A50
    clear A50
    by_cases c6 : t589 = 0
    · rw [if_pos c6] at H
      have c6b0 : (t589 == 0) = true := beq_iff_eq.mpr c6
      have c6b1 : (t589 != 0) = false := bne_eq_false_iff_eq.mpr c6
      clear c6
      by_cases c7 : a1_1 = 0
      · rw [if_pos c7] at H
        have c7b0 : (a1_1 == 0) = true := beq_iff_eq.mpr c7
        have c7b1 : (a1_1 != 0) = false := bne_eq_false_iff_eq.mpr c7
        clear c7
        by_cases c8 : t586 = 0
        · rw [if_pos c8] at H
          exact absurd H (by simp)
        · rw [if_neg c8] at H
          have c8b0 : (t586 == 0) = false := beq_eq_false_iff_ne.mpr c8
          have c8b1 : (t586 != 0) = true := bne_iff_ne.mpr c8
          obtain ⟨ji9, hji9⟩ : ∃ j_ : Int, (mn (wrap64 ((wrap64 ((wrap64 (Int.tdiv t588 t586)) + 1)) * t586)) a0) = j_ := ⟨_, rfl⟩
          replace H : (if (Int.tmod t588 t586) = 0 then (some (t588, 0, ji9, true, t589)) else (some (t588, 0, ji9, (t588 == a0), t589))) = some (r1, r2, r3, r4, r5) := by first | (rw [hji9] at H; exact H) | (simp only [hji9] at H ⊢; exact H)
          (try rw [hji9] at A3)
          (try rw [hji9] at A5)
          have hji9_ : (if a0 < (wrap64 ((wrap64 ((wrap64 (Int.tdiv t588 t586)) + 1)) * t586)) then a0 else (wrap64 ((wrap64 ((wrap64 (Int.tdiv t588 t586)) + 1)) * t586))) = ji9 := hji9
          by_cases c10 : (Int.tmod t588 t586) = 0
          · rw [if_pos c10] at H
            have c10b0 : ((Int.tmod t588 t586) == 0) = true := beq_iff_eq.mpr c10
            have c10b1 : ((Int.tmod t588 t586) != 0) = false := bne_eq_false_iff_eq.mpr c10
            clear c10
            simp only [Option.some.injEq, Prod.mk.injEq] at H
            obtain ⟨rfl, rfl, rfl, rfl, rfl⟩ := H
            go_enter Try.func76, Try.ntmps76
            go_wp2_with (first | ((with_reducible refine gate_dst (N := 3) rfl ?_); refine box_event ?hg (N := 3) ?hd (cs := #[.int .u64 a1_0, .int .u64 a1_1]) (t := 34) ?hr ?_; (case hd => rfl); (case hg => rfl); (case hr => first | (go_simp; done) | (go_simp; rfl)); intro gb585 hg w11 hbox hb; have n0_ := Aside0.mk (below_step (by repeat (first | (with_reducible first | exact HB.out | apply below_alloc | apply pw_below_drewN | apply below_drew1) | exact HB.out)) hb); have n1_ := Aside0.mk (hbox); have n2_ := Aside0.mk ((by rw [hg]; exact (below_size (by repeat (first | (with_reducible first | exact HB.out | apply below_alloc | apply pw_below_drewN | apply below_drew1) | exact HB.out))) : w.heap.size ≤ gb585)); have n3_ := Aside0.mk ((by rw [hg]; exact (below_size (by repeat (first | (with_reducible first | exact HB.out | apply below_alloc | apply pw_below_drewN | apply below_drew1) | exact HB.out))) : w.heap.size ≤ gb585)); clear HB; have HB := n0_; have BK585 := n1_; have GW585 := n2_; have GE585 := n3_; clear n0_ n1_ n2_ n3_; clear hb hbox hg) | (go_at_call 33; (with_reducible refine (sub_Step.calls k a0 t586 t587 _ A3.out).mono ?_); rintro e w' ⟨rfl, ⟨nd, rfl⟩⟩; (try first | exact ⟨rfl, _, World.drewN_drewN _ _ _⟩ | exact ⟨rfl, _, Eq.trans (World.drewN_drewN _ _ _) (congrArg (World.drewN _) (Nat.add_assoc _ _ _))⟩); have hcz12_0 : w11.cell? ⟨gb585, 0, none⟩ = some (.int .u64 a1_0) := (blk_cell BK585.out 0).trans rfl; have hcz12_1 : w11.cell? ⟨gb585, 1, none⟩ = some (.int .u64 a1_1) := (blk_cell BK585.out 1).trans rfl; have hfz12_0 := blk_frozen BK585.out 0; have hfz12_1 := blk_frozen BK585.out 1) | (go_at_call 60; (with_reducible refine (node_Depth.calls k a0 a1_0 t588 t589 _ A5.out).mono ?_); rintro e w' ⟨rfl, ⟨nd, rfl⟩⟩; (try first | exact ⟨rfl, _, World.drewN_drewN _ _ _⟩ | exact ⟨rfl, _, Eq.trans (World.drewN_drewN _ _ _) (congrArg (World.drewN _) (Nat.add_assoc _ _ _))⟩)))
            repeat (go_quiet (first | ((with_reducible refine gate_dst (N := 3) rfl ?_); refine box_event ?hg (N := 3) ?hd (cs := #[.int .u64 a1_0, .int .u64 a1_1]) (t := 34) ?hr ?_; (case hd => rfl); (case hg => rfl); (case hr => first | (go_simp; done) | (go_simp; rfl)); intro gb585 hg w11 hbox hb; have n0_ := Aside0.mk (below_step (by repeat (first | (with_reducible first | exact HB.out | apply below_alloc | apply pw_below_drewN | apply below_drew1) | exact HB.out)) hb); have n1_ := Aside0.mk (hbox); have n2_ := Aside0.mk ((by rw [hg]; exact (below_size (by repeat (first | (with_reducible first | exact HB.out | apply below_alloc | apply pw_below_drewN | apply below_drew1) | exact HB.out))) : w.heap.size ≤ gb585)); have n3_ := Aside0.mk ((by rw [hg]; exact (below_size (by repeat (first | (with_reducible first | exact HB.out | apply below_alloc | apply pw_below_drewN | apply below_drew1) | exact HB.out))) : w.heap.size ≤ gb585)); clear HB; have HB := n0_; have BK585 := n1_; have GW585 := n2_; have GE585 := n3_; clear n0_ n1_ n2_ n3_; clear hb hbox hg) | (go_at_call 33; (with_reducible refine (sub_Step.calls k a0 t586 t587 _ A3.out).mono ?_); rintro e w' ⟨rfl, ⟨nd, rfl⟩⟩; (try first | exact ⟨rfl, _, World.drewN_drewN _ _ _⟩ | exact ⟨rfl, _, Eq.trans (World.drewN_drewN _ _ _) (congrArg (World.drewN _) (Nat.add_assoc _ _ _))⟩); have hcz12_0 : w11.cell? ⟨gb585, 0, none⟩ = some (.int .u64 a1_0) := (blk_cell BK585.out 0).trans rfl; have hcz12_1 : w11.cell? ⟨gb585, 1, none⟩ = some (.int .u64 a1_1) := (blk_cell BK585.out 1).trans rfl; have hfz12_0 := blk_frozen BK585.out 0; have hfz12_1 := blk_frozen BK585.out 1) | (go_at_call 60; (with_reducible refine (node_Depth.calls k a0 a1_0 t588 t589 _ A5.out).mono ?_); rintro e w' ⟨rfl, ⟨nd, rfl⟩⟩; (try first | exact ⟨rfl, _, World.drewN_drewN _ _ _⟩ | exact ⟨rfl, _, Eq.trans (World.drewN_drewN _ _ _) (congrArg (World.drewN _) (Nat.add_assoc _ _ _))⟩))); try go_wp2_with (first | ((with_reducible refine gate_dst (N := 3) rfl ?_); refine box_event ?hg (N := 3) ?hd (cs := #[.int .u64 a1_0, .int .u64 a1_1]) (t := 34) ?hr ?_; (case hd => rfl); (case hg => rfl); (case hr => first | (go_simp; done) | (go_simp; rfl)); intro gb585 hg w11 hbox hb; have n0_ := Aside0.mk (below_step (by repeat (first | (with_reducible first | exact HB.out | apply below_alloc | apply pw_below_drewN | apply below_drew1) | exact HB.out)) hb); have n1_ := Aside0.mk (hbox); have n2_ := Aside0.mk ((by rw [hg]; exact (below_size (by repeat (first | (with_reducible first | exact HB.out | apply below_alloc | apply pw_below_drewN | apply below_drew1) | exact HB.out))) : w.heap.size ≤ gb585)); have n3_ := Aside0.mk ((by rw [hg]; exact (below_size (by repeat (first | (with_reducible first | exact HB.out | apply below_alloc | apply pw_below_drewN | apply below_drew1) | exact HB.out))) : w.heap.size ≤ gb585)); clear HB; have HB := n0_; have BK585 := n1_; have GW585 := n2_; have GE585 := n3_; clear n0_ n1_ n2_ n3_; clear hb hbox hg) | (go_at_call 33; (with_reducible refine (sub_Step.calls k a0 t586 t587 _ A3.out).mono ?_); rintro e w' ⟨rfl, ⟨nd, rfl⟩⟩; (try first | exact ⟨rfl, _, World.drewN_drewN _ _ _⟩ | exact ⟨rfl, _, Eq.trans (World.drewN_drewN _ _ _) (congrArg (World.drewN _) (Nat.add_assoc _ _ _))⟩); have hcz12_0 : w11.cell? ⟨gb585, 0, none⟩ = some (.int .u64 a1_0) := (blk_cell BK585.out 0).trans rfl; have hcz12_1 : w11.cell? ⟨gb585, 1, none⟩ = some (.int .u64 a1_1) := (blk_cell BK585.out 1).trans rfl; have hfz12_0 := blk_frozen BK585.out 0; have hfz12_1 := blk_frozen BK585.out 1) | (go_at_call 60; (with_reducible refine (node_Depth.calls k a0 a1_0 t588 t589 _ A5.out).mono ?_); rintro e w' ⟨rfl, ⟨nd, rfl⟩⟩; (try first | exact ⟨rfl, _, World.drewN_drewN _ _ _⟩ | exact ⟨rfl, _, Eq.trans (World.drewN_drewN _ _ _) (congrArg (World.drewN _) (Nat.add_assoc _ _ _))⟩))))
            refine bodyPost_ret (results_list (rs := [.tmp 4, .tmp 5, .tmp 6, .tmp 7, .tmp 8]) rfl (by simp) (.tmp (.tmp (.tmp (.tmp (.tmp .nil)))))) rfl ?_
            exact ⟨by first | rfl | (simp [errW_none, errW_some] <;> rfl) | (simp only [← hji9]; first | rfl | (simp [errW_none, errW_some] <;> rfl)) | (simp [*, errW_none, errW_some] <;> rfl), by repeat (first | (with_reducible first | exact HB.out | apply below_alloc | apply pw_below_drewN | apply below_drew1 | refine below_set ?_ GE585.out) | exact HB.out)⟩
          · rw [if_neg c10] at H
            have c10b0 : ((Int.tmod t588 t586) == 0) = false := beq_eq_false_iff_ne.mpr c10
            have c10b1 : ((Int.tmod t588 t586) != 0) = true := bne_iff_ne.mpr c10
            simp only [Option.some.injEq, Prod.mk.injEq] at H
            obtain ⟨rfl, rfl, rfl, rfl, rfl⟩ := H
            go_enter Try.func76, Try.ntmps76
            go_wp2_with (first | ((with_reducible refine gate_dst (N := 3) rfl ?_); refine box_event ?hg (N := 3) ?hd (cs := #[.int .u64 a1_0, .int .u64 a1_1]) (t := 34) ?hr ?_; (case hd => rfl); (case hg => rfl); (case hr => first | (go_simp; done) | (go_simp; rfl)); intro gb585 hg w13 hbox hb; have n0_ := Aside0.mk (below_step (by repeat (first | (with_reducible first | exact HB.out | apply below_alloc | apply pw_below_drewN | apply below_drew1) | exact HB.out)) hb); have n1_ := Aside0.mk (hbox); have n2_ := Aside0.mk ((by rw [hg]; exact (below_size (by repeat (first | (with_reducible first | exact HB.out | apply below_alloc | apply pw_below_drewN | apply below_drew1) | exact HB.out))) : w.heap.size ≤ gb585)); have n3_ := Aside0.mk ((by rw [hg]; exact (below_size (by repeat (first | (with_reducible first | exact HB.out | apply below_alloc | apply pw_below_drewN | apply below_drew1) | exact HB.out))) : w.heap.size ≤ gb585)); clear HB; have HB := n0_; have BK585 := n1_; have GW585 := n2_; have GE585 := n3_; clear n0_ n1_ n2_ n3_; clear hb hbox hg) | (go_at_call 33; (with_reducible refine (sub_Step.calls k a0 t586 t587 _ A3.out).mono ?_); rintro e w' ⟨rfl, ⟨nd, rfl⟩⟩; (try first | exact ⟨rfl, _, World.drewN_drewN _ _ _⟩ | exact ⟨rfl, _, Eq.trans (World.drewN_drewN _ _ _) (congrArg (World.drewN _) (Nat.add_assoc _ _ _))⟩); have hcz14_0 : w13.cell? ⟨gb585, 0, none⟩ = some (.int .u64 a1_0) := (blk_cell BK585.out 0).trans rfl; have hcz14_1 : w13.cell? ⟨gb585, 1, none⟩ = some (.int .u64 a1_1) := (blk_cell BK585.out 1).trans rfl; have hfz14_0 := blk_frozen BK585.out 0; have hfz14_1 := blk_frozen BK585.out 1) | (go_at_call 60; (with_reducible refine (node_Depth.calls k a0 a1_0 t588 t589 _ A5.out).mono ?_); rintro e w' ⟨rfl, ⟨nd, rfl⟩⟩; (try first | exact ⟨rfl, _, World.drewN_drewN _ _ _⟩ | exact ⟨rfl, _, Eq.trans (World.drewN_drewN _ _ _) (congrArg (World.drewN _) (Nat.add_assoc _ _ _))⟩)))
            repeat (go_quiet (first | ((with_reducible refine gate_dst (N := 3) rfl ?_); refine box_event ?hg (N := 3) ?hd (cs := #[.int .u64 a1_0, .int .u64 a1_1]) (t := 34) ?hr ?_; (case hd => rfl); (case hg => rfl); (case hr => first | (go_simp; done) | (go_simp; rfl)); intro gb585 hg w13 hbox hb; have n0_ := Aside0.mk (below_step (by repeat (first | (with_reducible first | exact HB.out | apply below_alloc | apply pw_below_drewN | apply below_drew1) | exact HB.out)) hb); have n1_ := Aside0.mk (hbox); have n2_ := Aside0.mk ((by rw [hg]; exact (below_size (by repeat (first | (with_reducible first | exact HB.out | apply below_alloc | apply pw_below_drewN | apply below_drew1) | exact HB.out))) : w.heap.size ≤ gb585)); have n3_ := Aside0.mk ((by rw [hg]; exact (below_size (by repeat (first | (with_reducible first | exact HB.out | apply below_alloc | apply pw_below_drewN | apply below_drew1) | exact HB.out))) : w.heap.size ≤ gb585)); clear HB; have HB := n0_; have BK585 := n1_; have GW585 := n2_; have GE585 := n3_; clear n0_ n1_ n2_ n3_; clear hb hbox hg) | (go_at_call 33; (with_reducible refine (sub_Step.calls k a0 t586 t587 _ A3.out).mono ?_); rintro e w' ⟨rfl, ⟨nd, rfl⟩⟩; (try first | exact ⟨rfl, _, World.drewN_drewN _ _ _⟩ | exact ⟨rfl, _, Eq.trans (World.drewN_drewN _ _ _) (congrArg (World.drewN _) (Nat.add_assoc _ _ _))⟩); have hcz14_0 : w13.cell? ⟨gb585, 0, none⟩ = some (.int .u64 a1_0) := (blk_cell BK585.out 0).trans rfl; have hcz14_1 : w13.cell? ⟨gb585, 1, none⟩ = some (.int .u64 a1_1) := (blk_cell BK585.out 1).trans rfl; have hfz14_0 := blk_frozen BK585.out 0; have hfz14_1 := blk_frozen BK585.out 1) | (go_at_call 60; (with_reducible refine (node_Depth.calls k a0 a1_0 t588 t589 _ A5.out).mono ?_); rintro e w' ⟨rfl, ⟨nd, rfl⟩⟩; (try first | exact ⟨rfl, _, World.drewN_drewN _ _ _⟩ | exact ⟨rfl, _, Eq.trans (World.drewN_drewN _ _ _) (congrArg (World.drewN _) (Nat.add_assoc _ _ _))⟩))); try go_wp2_with (first | ((with_reducible refine gate_dst (N := 3) rfl ?_); refine box_event ?hg (N := 3) ?hd (cs := #[.int .u64 a1_0, .int .u64 a1_1]) (t := 34) ?hr ?_; (case hd => rfl); (case hg => rfl); (case hr => first | (go_simp; done) | (go_simp; rfl)); intro gb585 hg w13 hbox hb; have n0_ := Aside0.mk (below_step (by repeat (first | (with_reducible first | exact HB.out | apply below_alloc | apply pw_below_drewN | apply below_drew1) | exact HB.out)) hb); have n1_ := Aside0.mk (hbox); have n2_ := Aside0.mk ((by rw [hg]; exact (below_size (by repeat (first | (with_reducible first | exact HB.out | apply below_alloc | apply pw_below_drewN | apply below_drew1) | exact HB.out))) : w.heap.size ≤ gb585)); have n3_ := Aside0.mk ((by rw [hg]; exact (below_size (by repeat (first | (with_reducible first | exact HB.out | apply below_alloc | apply pw_below_drewN | apply below_drew1) | exact HB.out))) : w.heap.size ≤ gb585)); clear HB; have HB := n0_; have BK585 := n1_; have GW585 := n2_; have GE585 := n3_; clear n0_ n1_ n2_ n3_; clear hb hbox hg) | (go_at_call 33; (with_reducible refine (sub_Step.calls k a0 t586 t587 _ A3.out).mono ?_); rintro e w' ⟨rfl, ⟨nd, rfl⟩⟩; (try first | exact ⟨rfl, _, World.drewN_drewN _ _ _⟩ | exact ⟨rfl, _, Eq.trans (World.drewN_drewN _ _ _) (congrArg (World.drewN _) (Nat.add_assoc _ _ _))⟩); have hcz14_0 : w13.cell? ⟨gb585, 0, none⟩ = some (.int .u64 a1_0) := (blk_cell BK585.out 0).trans rfl; have hcz14_1 : w13.cell? ⟨gb585, 1, none⟩ = some (.int .u64 a1_1) := (blk_cell BK585.out 1).trans rfl; have hfz14_0 := blk_frozen BK585.out 0; have hfz14_1 := blk_frozen BK585.out 1) | (go_at_call 60; (with_reducible refine (node_Depth.calls k a0 a1_0 t588 t589 _ A5.out).mono ?_); rintro e w' ⟨rfl, ⟨nd, rfl⟩⟩; (try first | exact ⟨rfl, _, World.drewN_drewN _ _ _⟩ | exact ⟨rfl, _, Eq.trans (World.drewN_drewN _ _ _) (congrArg (World.drewN _) (Nat.add_assoc _ _ _))⟩))))
            refine bodyPost_ret (results_list (rs := [.tmp 4, .tmp 5, .tmp 6, .tmp 7, .tmp 8]) rfl (by simp) (.tmp (.tmp (.tmp (.tmp (.tmp .nil)))))) rfl ?_
            exact ⟨by first | rfl | (simp [errW_none, errW_some] <;> rfl) | (simp only [← hji9]; first | rfl | (simp [errW_none, errW_some] <;> rfl)) | (simp [*, errW_none, errW_some] <;> rfl), by repeat (first | (with_reducible first | exact HB.out | apply below_alloc | apply pw_below_drewN | apply below_drew1 | refine below_set ?_ GE585.out) | exact HB.out)⟩
      · rw [if_neg c7] at H
        have c7b0 : (a1_1 == 0) = false := beq_eq_false_iff_ne.mpr c7
        have c7b1 : (a1_1 != 0) = true := bne_iff_ne.mpr c7
        replace H := Option.bind_eq_some_iff.mp H
        obtain ⟨⟨t590, t591⟩, A150, H⟩ := H
        replace H : (if t586 = 0 then (none) else (if (Int.tmod t588 t586) = 0 then (some (t588, t590, mn (wrap64 ((wrap64 ((wrap64 (Int.tdiv t588 t586)) + 1)) * t586)) a0, true, t591)) else (some (t588, t590, mn (wrap64 ((wrap64 ((wrap64 (Int.tdiv t588 t586)) + 1)) * t586)) a0, (t588 == a0), t591)))) = some (r1, r2, r3, r4, r5) := H
        have A15 := Aside0.mk A150
        clear A150
        by_cases c16 : t586 = 0
        · rw [if_pos c16] at H
          exact absurd H (by simp)
        · rw [if_neg c16] at H
          have c16b0 : (t586 == 0) = false := beq_eq_false_iff_ne.mpr c16
          have c16b1 : (t586 != 0) = true := bne_iff_ne.mpr c16
          obtain ⟨ji17, hji17⟩ : ∃ j_ : Int, (mn (wrap64 ((wrap64 ((wrap64 (Int.tdiv t588 t586)) + 1)) * t586)) a0) = j_ := ⟨_, rfl⟩
          replace H : (if (Int.tmod t588 t586) = 0 then (some (t588, t590, ji17, true, t591)) else (some (t588, t590, ji17, (t588 == a0), t591))) = some (r1, r2, r3, r4, r5) := by first | (rw [hji17] at H; exact H) | (simp only [hji17] at H ⊢; exact H)
          (try rw [hji17] at A3)
          (try rw [hji17] at A5)
          (try rw [hji17] at A15)
          have hji17_ : (if a0 < (wrap64 ((wrap64 ((wrap64 (Int.tdiv t588 t586)) + 1)) * t586)) then a0 else (wrap64 ((wrap64 ((wrap64 (Int.tdiv t588 t586)) + 1)) * t586))) = ji17 := hji17
          by_cases c18 : (Int.tmod t588 t586) = 0
          · rw [if_pos c18] at H
            have c18b0 : ((Int.tmod t588 t586) == 0) = true := beq_iff_eq.mpr c18
            have c18b1 : ((Int.tmod t588 t586) != 0) = false := bne_eq_false_iff_eq.mpr c18
            clear c18
            simp only [Option.some.injEq, Prod.mk.injEq] at H
            obtain ⟨rfl, rfl, rfl, rfl, rfl⟩ := H
            go_enter Try.func76, Try.ntmps76
            go_wp2_with (first | ((with_reducible refine gate_dst (N := 3) rfl ?_); refine box_event ?hg (N := 3) ?hd (cs := #[.int .u64 a1_0, .int .u64 a1_1]) (t := 34) ?hr ?_; (case hd => rfl); (case hg => rfl); (case hr => first | (go_simp; done) | (go_simp; rfl)); intro gb585 hg w19 hbox hb; have n0_ := Aside0.mk (below_step (by repeat (first | (with_reducible first | exact HB.out | apply below_alloc | apply pw_below_drewN | apply below_drew1) | exact HB.out)) hb); have n1_ := Aside0.mk (hbox); have n2_ := Aside0.mk ((by rw [hg]; exact (below_size (by repeat (first | (with_reducible first | exact HB.out | apply below_alloc | apply pw_below_drewN | apply below_drew1) | exact HB.out))) : w.heap.size ≤ gb585)); have n3_ := Aside0.mk ((by rw [hg]; exact (below_size (by repeat (first | (with_reducible first | exact HB.out | apply below_alloc | apply pw_below_drewN | apply below_drew1) | exact HB.out))) : w.heap.size ≤ gb585)); clear HB; have HB := n0_; have BK585 := n1_; have GW585 := n2_; have GE585 := n3_; clear n0_ n1_ n2_ n3_; clear hb hbox hg) | (go_at_call 33; (with_reducible refine (sub_Step.calls k a0 t586 t587 _ A3.out).mono ?_); rintro e w' ⟨rfl, ⟨nd, rfl⟩⟩; (try first | exact ⟨rfl, _, World.drewN_drewN _ _ _⟩ | exact ⟨rfl, _, Eq.trans (World.drewN_drewN _ _ _) (congrArg (World.drewN _) (Nat.add_assoc _ _ _))⟩); have hcz20_0 : w19.cell? ⟨gb585, 0, none⟩ = some (.int .u64 a1_0) := (blk_cell BK585.out 0).trans rfl; have hcz20_1 : w19.cell? ⟨gb585, 1, none⟩ = some (.int .u64 a1_1) := (blk_cell BK585.out 1).trans rfl; have hfz20_0 := blk_frozen BK585.out 0; have hfz20_1 := blk_frozen BK585.out 1) | (go_at_call 60; (with_reducible refine (node_Depth.calls k a0 a1_0 t588 t589 _ A5.out).mono ?_); rintro e w' ⟨rfl, ⟨nd, rfl⟩⟩; (try first | exact ⟨rfl, _, World.drewN_drewN _ _ _⟩ | exact ⟨rfl, _, Eq.trans (World.drewN_drewN _ _ _) (congrArg (World.drewN _) (Nat.add_assoc _ _ _))⟩)) | (go_at_call 60; (with_reducible refine (node_Depth.calls k a0 a1_1 t590 t591 _ A15.out).mono ?_); rintro e w' ⟨rfl, ⟨nd, rfl⟩⟩; (try first | exact ⟨rfl, _, World.drewN_drewN _ _ _⟩ | exact ⟨rfl, _, Eq.trans (World.drewN_drewN _ _ _) (congrArg (World.drewN _) (Nat.add_assoc _ _ _))⟩)))
            repeat (go_quiet (first | ((with_reducible refine gate_dst (N := 3) rfl ?_); refine box_event ?hg (N := 3) ?hd (cs := #[.int .u64 a1_0, .int .u64 a1_1]) (t := 34) ?hr ?_; (case hd => rfl); (case hg => rfl); (case hr => first | (go_simp; done) | (go_simp; rfl)); intro gb585 hg w19 hbox hb; have n0_ := Aside0.mk (below_step (by repeat (first | (with_reducible first | exact HB.out | apply below_alloc | apply pw_below_drewN | apply below_drew1) | exact HB.out)) hb); have n1_ := Aside0.mk (hbox); have n2_ := Aside0.mk ((by rw [hg]; exact (below_size (by repeat (first | (with_reducible first | exact HB.out | apply below_alloc | apply pw_below_drewN | apply below_drew1) | exact HB.out))) : w.heap.size ≤ gb585)); have n3_ := Aside0.mk ((by rw [hg]; exact (below_size (by repeat (first | (with_reducible first | exact HB.out | apply below_alloc | apply pw_below_drewN | apply below_drew1) | exact HB.out))) : w.heap.size ≤ gb585)); clear HB; have HB := n0_; have BK585 := n1_; have GW585 := n2_; have GE585 := n3_; clear n0_ n1_ n2_ n3_; clear hb hbox hg) | (go_at_call 33; (with_reducible refine (sub_Step.calls k a0 t586 t587 _ A3.out).mono ?_); rintro e w' ⟨rfl, ⟨nd, rfl⟩⟩; (try first | exact ⟨rfl, _, World.drewN_drewN _ _ _⟩ | exact ⟨rfl, _, Eq.trans (World.drewN_drewN _ _ _) (congrArg (World.drewN _) (Nat.add_assoc _ _ _))⟩); have hcz20_0 : w19.cell? ⟨gb585, 0, none⟩ = some (.int .u64 a1_0) := (blk_cell BK585.out 0).trans rfl; have hcz20_1 : w19.cell? ⟨gb585, 1, none⟩ = some (.int .u64 a1_1) := (blk_cell BK585.out 1).trans rfl; have hfz20_0 := blk_frozen BK585.out 0; have hfz20_1 := blk_frozen BK585.out 1) | (go_at_call 60; (with_reducible refine (node_Depth.calls k a0 a1_0 t588 t589 _ A5.out).mono ?_); rintro e w' ⟨rfl, ⟨nd, rfl⟩⟩; (try first | exact ⟨rfl, _, World.drewN_drewN _ _ _⟩ | exact ⟨rfl, _, Eq.trans (World.drewN_drewN _ _ _) (congrArg (World.drewN _) (Nat.add_assoc _ _ _))⟩)) | (go_at_call 60; (with_reducible refine (node_Depth.calls k a0 a1_1 t590 t591 _ A15.out).mono ?_); rintro e w' ⟨rfl, ⟨nd, rfl⟩⟩; (try first | exact ⟨rfl, _, World.drewN_drewN _ _ _⟩ | exact ⟨rfl, _, Eq.trans (World.drewN_drewN _ _ _) (congrArg (World.drewN _) (Nat.add_assoc _ _ _))⟩))); try go_wp2_with (first | ((with_reducible refine gate_dst (N := 3) rfl ?_); refine box_event ?hg (N := 3) ?hd (cs := #[.int .u64 a1_0, .int .u64 a1_1]) (t := 34) ?hr ?_; (case hd => rfl); (case hg => rfl); (case hr => first | (go_simp; done) | (go_simp; rfl)); intro gb585 hg w19 hbox hb; have n0_ := Aside0.mk (below_step (by repeat (first | (with_reducible first | exact HB.out | apply below_alloc | apply pw_below_drewN | apply below_drew1) | exact HB.out)) hb); have n1_ := Aside0.mk (hbox); have n2_ := Aside0.mk ((by rw [hg]; exact (below_size (by repeat (first | (with_reducible first | exact HB.out | apply below_alloc | apply pw_below_drewN | apply below_drew1) | exact HB.out))) : w.heap.size ≤ gb585)); have n3_ := Aside0.mk ((by rw [hg]; exact (below_size (by repeat (first | (with_reducible first | exact HB.out | apply below_alloc | apply pw_below_drewN | apply below_drew1) | exact HB.out))) : w.heap.size ≤ gb585)); clear HB; have HB := n0_; have BK585 := n1_; have GW585 := n2_; have GE585 := n3_; clear n0_ n1_ n2_ n3_; clear hb hbox hg) | (go_at_call 33; (with_reducible refine (sub_Step.calls k a0 t586 t587 _ A3.out).mono ?_); rintro e w' ⟨rfl, ⟨nd, rfl⟩⟩; (try first | exact ⟨rfl, _, World.drewN_drewN _ _ _⟩ | exact ⟨rfl, _, Eq.trans (World.drewN_drewN _ _ _) (congrArg (World.drewN _) (Nat.add_assoc _ _ _))⟩); have hcz20_0 : w19.cell? ⟨gb585, 0, none⟩ = some (.int .u64 a1_0) := (blk_cell BK585.out 0).trans rfl; have hcz20_1 : w19.cell? ⟨gb585, 1, none⟩ = some (.int .u64 a1_1) := (blk_cell BK585.out 1).trans rfl; have hfz20_0 := blk_frozen BK585.out 0; have hfz20_1 := blk_frozen BK585.out 1) | (go_at_call 60; (with_reducible refine (node_Depth.calls k a0 a1_0 t588 t589 _ A5.out).mono ?_); rintro e w' ⟨rfl, ⟨nd, rfl⟩⟩; (try first | exact ⟨rfl, _, World.drewN_drewN _ _ _⟩ | exact ⟨rfl, _, Eq.trans (World.drewN_drewN _ _ _) (congrArg (World.drewN _) (Nat.add_assoc _ _ _))⟩)) | (go_at_call 60; (with_reducible refine (node_Depth.calls k a0 a1_1 t590 t591 _ A15.out).mono ?_); rintro e w' ⟨rfl, ⟨nd, rfl⟩⟩; (try first | exact ⟨rfl, _, World.drewN_drewN _ _ _⟩ | exact ⟨rfl, _, Eq.trans (World.drewN_drewN _ _ _) (congrArg (World.drewN _) (Nat.add_assoc _ _ _))⟩))))
            refine bodyPost_ret (results_list (rs := [.tmp 4, .tmp 5, .tmp 6, .tmp 7, .tmp 8]) rfl (by simp) (.tmp (.tmp (.tmp (.tmp (.tmp .nil)))))) rfl ?_
            exact ⟨by first | rfl | (simp [errW_none, errW_some] <;> rfl) | (simp only [← hji17]; first | rfl | (simp [errW_none, errW_some] <;> rfl)) | (simp [*, errW_none, errW_some] <;> rfl), by repeat (first | (with_reducible first | exact HB.out | apply below_alloc | apply pw_below_drewN | apply below_drew1 | refine below_set ?_ GE585.out) | exact HB.out)⟩
          · rw [if_neg c18] at H
            have c18b0 : ((Int.tmod t588 t586) == 0) = false := beq_eq_false_iff_ne.mpr c18
            have c18b1 : ((Int.tmod t588 t586) != 0) = true := bne_iff_ne.mpr c18
            simp only [Option.some.injEq, Prod.mk.injEq] at H
            obtain ⟨rfl, rfl, rfl, rfl, rfl⟩ := H
            go_enter Try.func76, Try.ntmps76
            go_wp2_with (first | ((with_reducible refine gate_dst (N := 3) rfl ?_); refine box_event ?hg (N := 3) ?hd (cs := #[.int .u64 a1_0, .int .u64 a1_1]) (t := 34) ?hr ?_; (case hd => rfl); (case hg => rfl); (case hr => first | (go_simp; done) | (go_simp; rfl)); intro gb585 hg w21 hbox hb; have n0_ := Aside0.mk (below_step (by repeat (first | (with_reducible first | exact HB.out | apply below_alloc | apply pw_below_drewN | apply below_drew1) | exact HB.out)) hb); have n1_ := Aside0.mk (hbox); have n2_ := Aside0.mk ((by rw [hg]; exact (below_size (by repeat (first | (with_reducible first | exact HB.out | apply below_alloc | apply pw_below_drewN | apply below_drew1) | exact HB.out))) : w.heap.size ≤ gb585)); have n3_ := Aside0.mk ((by rw [hg]; exact (below_size (by repeat (first | (with_reducible first | exact HB.out | apply below_alloc | apply pw_below_drewN | apply below_drew1) | exact HB.out))) : w.heap.size ≤ gb585)); clear HB; have HB := n0_; have BK585 := n1_; have GW585 := n2_; have GE585 := n3_; clear n0_ n1_ n2_ n3_; clear hb hbox hg) | (go_at_call 33; (with_reducible refine (sub_Step.calls k a0 t586 t587 _ A3.out).mono ?_); rintro e w' ⟨rfl, ⟨nd, rfl⟩⟩; (try first | exact ⟨rfl, _, World.drewN_drewN _ _ _⟩ | exact ⟨rfl, _, Eq.trans (World.drewN_drewN _ _ _) (congrArg (World.drewN _) (Nat.add_assoc _ _ _))⟩); have hcz22_0 : w21.cell? ⟨gb585, 0, none⟩ = some (.int .u64 a1_0) := (blk_cell BK585.out 0).trans rfl; have hcz22_1 : w21.cell? ⟨gb585, 1, none⟩ = some (.int .u64 a1_1) := (blk_cell BK585.out 1).trans rfl; have hfz22_0 := blk_frozen BK585.out 0; have hfz22_1 := blk_frozen BK585.out 1) | (go_at_call 60; (with_reducible refine (node_Depth.calls k a0 a1_0 t588 t589 _ A5.out).mono ?_); rintro e w' ⟨rfl, ⟨nd, rfl⟩⟩; (try first | exact ⟨rfl, _, World.drewN_drewN _ _ _⟩ | exact ⟨rfl, _, Eq.trans (World.drewN_drewN _ _ _) (congrArg (World.drewN _) (Nat.add_assoc _ _ _))⟩)) | (go_at_call 60; (with_reducible refine (node_Depth.calls k a0 a1_1 t590 t591 _ A15.out).mono ?_); rintro e w' ⟨rfl, ⟨nd, rfl⟩⟩; (try first | exact ⟨rfl, _, World.drewN_drewN _ _ _⟩ | exact ⟨rfl, _, Eq.trans (World.drewN_drewN _ _ _) (congrArg (World.drewN _) (Nat.add_assoc _ _ _))⟩)))
            repeat (go_quiet (first | ((with_reducible refine gate_dst (N := 3) rfl ?_); refine box_event ?hg (N := 3) ?hd (cs := #[.int .u64 a1_0, .int .u64 a1_1]) (t := 34) ?hr ?_; (case hd => rfl); (case hg => rfl); (case hr => first | (go_simp; done) | (go_simp; rfl)); intro gb585 hg w21 hbox hb; have n0_ := Aside0.mk (below_step (by repeat (first | (with_reducible first | exact HB.out | apply below_alloc | apply pw_below_drewN | apply below_drew1) | exact HB.out)) hb); have n1_ := Aside0.mk (hbox); have n2_ := Aside0.mk ((by rw [hg]; exact (below_size (by repeat (first | (with_reducible first | exact HB.out | apply below_alloc | apply pw_below_drewN | apply below_drew1) | exact HB.out))) : w.heap.size ≤ gb585)); have n3_ := Aside0.mk ((by rw [hg]; exact (below_size (by repeat (first | (with_reducible first | exact HB.out | apply below_alloc | apply pw_below_drewN | apply below_drew1) | exact HB.out))) : w.heap.size ≤ gb585)); clear HB; have HB := n0_; have BK585 := n1_; have GW585 := n2_; have GE585 := n3_; clear n0_ n1_ n2_ n3_; clear hb hbox hg) | (go_at_call 33; (with_reducible refine (sub_Step.calls k a0 t586 t587 _ A3.out).mono ?_); rintro e w' ⟨rfl, ⟨nd, rfl⟩⟩; (try first | exact ⟨rfl, _, World.drewN_drewN _ _ _⟩ | exact ⟨rfl, _, Eq.trans (World.drewN_drewN _ _ _) (congrArg (World.drewN _) (Nat.add_assoc _ _ _))⟩); have hcz22_0 : w21.cell? ⟨gb585, 0, none⟩ = some (.int .u64 a1_0) := (blk_cell BK585.out 0).trans rfl; have hcz22_1 : w21.cell? ⟨gb585, 1, none⟩ = some (.int .u64 a1_1) := (blk_cell BK585.out 1).trans rfl; have hfz22_0 := blk_frozen BK585.out 0; have hfz22_1 := blk_frozen BK585.out 1) | (go_at_call 60; (with_reducible refine (node_Depth.calls k a0 a1_0 t588 t589 _ A5.out).mono ?_); rintro e w' ⟨rfl, ⟨nd, rfl⟩⟩; (try first | exact ⟨rfl, _, World.drewN_drewN _ _ _⟩ | exact ⟨rfl, _, Eq.trans (World.drewN_drewN _ _ _) (congrArg (World.drewN _) (Nat.add_assoc _ _ _))⟩)) | (go_at_call 60; (with_reducible refine (node_Depth.calls k a0 a1_1 t590 t591 _ A15.out).mono ?_); rintro e w' ⟨rfl, ⟨nd, rfl⟩⟩; (try first | exact ⟨rfl, _, World.drewN_drewN _ _ _⟩ | exact ⟨rfl, _, Eq.trans (World.drewN_drewN _ _ _) (congrArg (World.drewN _) (Nat.add_assoc _ _ _))⟩))); try go_wp2_with (first | ((with_reducible refine gate_dst (N := 3) rfl ?_); refine box_event ?hg (N := 3) ?hd (cs := #[.int .u64 a1_0, .int .u64 a1_1]) (t := 34) ?hr ?_; (case hd => rfl); (case hg => rfl); (case hr => first | (go_simp; done) | (go_simp; rfl)); intro gb585 hg w21 hbox hb; have n0_ := Aside0.mk (below_step (by repeat (first | (with_reducible first | exact HB.out | apply below_alloc | apply pw_below_drewN | apply below_drew1) | exact HB.out)) hb); have n1_ := Aside0.mk (hbox); have n2_ := Aside0.mk ((by rw [hg]; exact (below_size (by repeat (first | (with_reducible first | exact HB.out | apply below_alloc | apply pw_below_drewN | apply below_drew1) | exact HB.out))) : w.heap.size ≤ gb585)); have n3_ := Aside0.mk ((by rw [hg]; exact (below_size (by repeat (first | (with_reducible first | exact HB.out | apply below_alloc | apply pw_below_drewN | apply below_drew1) | exact HB.out))) : w.heap.size ≤ gb585)); clear HB; have HB := n0_; have BK585 := n1_; have GW585 := n2_; have GE585 := n3_; clear n0_ n1_ n2_ n3_; clear hb hbox hg) | (go_at_call 33; (with_reducible refine (sub_Step.calls k a0 t586 t587 _ A3.out).mono ?_); rintro e w' ⟨rfl, ⟨nd, rfl⟩⟩; (try first | exact ⟨rfl, _, World.drewN_drewN _ _ _⟩ | exact ⟨rfl, _, Eq.trans (World.drewN_drewN _ _ _) (congrArg (World.drewN _) (Nat.add_assoc _ _ _))⟩); have hcz22_0 : w21.cell? ⟨gb585, 0, none⟩ = some (.int .u64 a1_0) := (blk_cell BK585.out 0).trans rfl; have hcz22_1 : w21.cell? ⟨gb585, 1, none⟩ = some (.int .u64 a1_1) := (blk_cell BK585.out 1).trans rfl; have hfz22_0 := blk_frozen BK585.out 0; have hfz22_1 := blk_frozen BK585.out 1) | (go_at_call 60; (with_reducible refine (node_Depth.calls k a0 a1_0 t588 t589 _ A5.out).mono ?_); rintro e w' ⟨rfl, ⟨nd, rfl⟩⟩; (try first | exact ⟨rfl, _, World.drewN_drewN _ _ _⟩ | exact ⟨rfl, _, Eq.trans (World.drewN_drewN _ _ _) (congrArg (World.drewN _) (Nat.add_assoc _ _ _))⟩)) | (go_at_call 60; (with_reducible refine (node_Depth.calls k a0 a1_1 t590 t591 _ A15.out).mono ?_); rintro e w' ⟨rfl, ⟨nd, rfl⟩⟩; (try first | exact ⟨rfl, _, World.drewN_drewN _ _ _⟩ | exact ⟨rfl, _, Eq.trans (World.drewN_drewN _ _ _) (congrArg (World.drewN _) (Nat.add_assoc _ _ _))⟩))))
            refine bodyPost_ret (results_list (rs := [.tmp 4, .tmp 5, .tmp 6, .tmp 7, .tmp 8]) rfl (by simp) (.tmp (.tmp (.tmp (.tmp (.tmp .nil)))))) rfl ?_
            exact ⟨by first | rfl | (simp [errW_none, errW_some] <;> rfl) | (simp only [← hji17]; first | rfl | (simp [errW_none, errW_some] <;> rfl)) | (simp [*, errW_none, errW_some] <;> rfl), by repeat (first | (with_reducible first | exact HB.out | apply below_alloc | apply pw_below_drewN | apply below_drew1 | refine below_set ?_ GE585.out) | exact HB.out)⟩
    · rw [if_neg c6] at H
      have c6b0 : (t589 == 0) = false := beq_eq_false_iff_ne.mpr c6
      have c6b1 : (t589 != 0) = true := bne_iff_ne.mpr c6
      by_cases c23 : t586 = 0
      · rw [if_pos c23] at H
        exact absurd H (by simp)
      · rw [if_neg c23] at H
        have c23b0 : (t586 == 0) = false := beq_eq_false_iff_ne.mpr c23
        have c23b1 : (t586 != 0) = true := bne_iff_ne.mpr c23
        obtain ⟨ji24, hji24⟩ : ∃ j_ : Int, (mn (wrap64 ((wrap64 ((wrap64 (Int.tdiv t588 t586)) + 1)) * t586)) a0) = j_ := ⟨_, rfl⟩
        replace H : (if (Int.tmod t588 t586) = 0 then (some (t588, 0, ji24, true, t589)) else (some (t588, 0, ji24, (t588 == a0), t589))) = some (r1, r2, r3, r4, r5) := by first | (rw [hji24] at H; exact H) | (simp only [hji24] at H ⊢; exact H)
        (try rw [hji24] at A3)
        (try rw [hji24] at A5)
        have hji24_ : (if a0 < (wrap64 ((wrap64 ((wrap64 (Int.tdiv t588 t586)) + 1)) * t586)) then a0 else (wrap64 ((wrap64 ((wrap64 (Int.tdiv t588 t586)) + 1)) * t586))) = ji24 := hji24
        by_cases c25 : (Int.tmod t588 t586) = 0
        · rw [if_pos c25] at H
          have c25b0 : ((Int.tmod t588 t586) == 0) = true := beq_iff_eq.mpr c25
          have c25b1 : ((Int.tmod t588 t586) != 0) = false := bne_eq_false_iff_eq.mpr c25
          clear c25
          simp only [Option.some.injEq, Prod.mk.injEq] at H
          obtain ⟨rfl, rfl, rfl, rfl, rfl⟩ := H
          go_enter Try.func76, Try.ntmps76
          go_wp2_with (first | ((with_reducible refine gate_dst (N := 3) rfl ?_); refine box_event ?hg (N := 3) ?hd (cs := #[.int .u64 a1_0, .int .u64 a1_1]) (t := 34) ?hr ?_; (case hd => rfl); (case hg => rfl); (case hr => first | (go_simp; done) | (go_simp; rfl)); intro gb585 hg w26 hbox hb; have n0_ := Aside0.mk (below_step (by repeat (first | (with_reducible first | exact HB.out | apply below_alloc | apply pw_below_drewN | apply below_drew1) | exact HB.out)) hb); have n1_ := Aside0.mk (hbox); have n2_ := Aside0.mk ((by rw [hg]; exact (below_size (by repeat (first | (with_reducible first | exact HB.out | apply below_alloc | apply pw_below_drewN | apply below_drew1) | exact HB.out))) : w.heap.size ≤ gb585)); have n3_ := Aside0.mk ((by rw [hg]; exact (below_size (by repeat (first | (with_reducible first | exact HB.out | apply below_alloc | apply pw_below_drewN | apply below_drew1) | exact HB.out))) : w.heap.size ≤ gb585)); clear HB; have HB := n0_; have BK585 := n1_; have GW585 := n2_; have GE585 := n3_; clear n0_ n1_ n2_ n3_; clear hb hbox hg) | (go_at_call 33; (with_reducible refine (sub_Step.calls k a0 t586 t587 _ A3.out).mono ?_); rintro e w' ⟨rfl, ⟨nd, rfl⟩⟩; (try first | exact ⟨rfl, _, World.drewN_drewN _ _ _⟩ | exact ⟨rfl, _, Eq.trans (World.drewN_drewN _ _ _) (congrArg (World.drewN _) (Nat.add_assoc _ _ _))⟩); have hcz27_0 : w26.cell? ⟨gb585, 0, none⟩ = some (.int .u64 a1_0) := (blk_cell BK585.out 0).trans rfl; have hcz27_1 : w26.cell? ⟨gb585, 1, none⟩ = some (.int .u64 a1_1) := (blk_cell BK585.out 1).trans rfl; have hfz27_0 := blk_frozen BK585.out 0; have hfz27_1 := blk_frozen BK585.out 1) | (go_at_call 60; (with_reducible refine (node_Depth.calls k a0 a1_0 t588 t589 _ A5.out).mono ?_); rintro e w' ⟨rfl, ⟨nd, rfl⟩⟩; (try first | exact ⟨rfl, _, World.drewN_drewN _ _ _⟩ | exact ⟨rfl, _, Eq.trans (World.drewN_drewN _ _ _) (congrArg (World.drewN _) (Nat.add_assoc _ _ _))⟩)))
          repeat (go_quiet (first | ((with_reducible refine gate_dst (N := 3) rfl ?_); refine box_event ?hg (N := 3) ?hd (cs := #[.int .u64 a1_0, .int .u64 a1_1]) (t := 34) ?hr ?_; (case hd => rfl); (case hg => rfl); (case hr => first | (go_simp; done) | (go_simp; rfl)); intro gb585 hg w26 hbox hb; have n0_ := Aside0.mk (below_step (by repeat (first | (with_reducible first | exact HB.out | apply below_alloc | apply pw_below_drewN | apply below_drew1) | exact HB.out)) hb); have n1_ := Aside0.mk (hbox); have n2_ := Aside0.mk ((by rw [hg]; exact (below_size (by repeat (first | (with_reducible first | exact HB.out | apply below_alloc | apply pw_below_drewN | apply below_drew1) | exact HB.out))) : w.heap.size ≤ gb585)); have n3_ := Aside0.mk ((by rw [hg]; exact (below_size (by repeat (first | (with_reducible first | exact HB.out | apply below_alloc | apply pw_below_drewN | apply below_drew1) | exact HB.out))) : w.heap.size ≤ gb585)); clear HB; have HB := n0_; have BK585 := n1_; have GW585 := n2_; have GE585 := n3_; clear n0_ n1_ n2_ n3_; clear hb hbox hg) | (go_at_call 33; (with_reducible refine (sub_Step.calls k a0 t586 t587 _ A3.out).mono ?_); rintro e w' ⟨rfl, ⟨nd, rfl⟩⟩; (try first | exact ⟨rfl, _, World.drewN_drewN _ _ _⟩ | exact ⟨rfl, _, Eq.trans (World.drewN_drewN _ _ _) (congrArg (World.drewN _) (Nat.add_assoc _ _ _))⟩); have hcz27_0 : w26.cell? ⟨gb585, 0, none⟩ = some (.int .u64 a1_0) := (blk_cell BK585.out 0).trans rfl; have hcz27_1 : w26.cell? ⟨gb585, 1, none⟩ = some (.int .u64 a1_1) := (blk_cell BK585.out 1).trans rfl; have hfz27_0 := blk_frozen BK585.out 0; have hfz27_1 := blk_frozen BK585.out 1) | (go_at_call 60; (with_reducible refine (node_Depth.calls k a0 a1_0 t588 t589 _ A5.out).mono ?_); rintro e w' ⟨rfl, ⟨nd, rfl⟩⟩; (try first | exact ⟨rfl, _, World.drewN_drewN _ _ _⟩ | exact ⟨rfl, _, Eq.trans (World.drewN_drewN _ _ _) (congrArg (World.drewN _) (Nat.add_assoc _ _ _))⟩))); try go_wp2_with (first | ((with_reducible refine gate_dst (N := 3) rfl ?_); refine box_event ?hg (N := 3) ?hd (cs := #[.int .u64 a1_0, .int .u64 a1_1]) (t := 34) ?hr ?_; (case hd => rfl); (case hg => rfl); (case hr => first | (go_simp; done) | (go_simp; rfl)); intro gb585 hg w26 hbox hb; have n0_ := Aside0.mk (below_step (by repeat (first | (with_reducible first | exact HB.out | apply below_alloc | apply pw_below_drewN | apply below_drew1) | exact HB.out)) hb); have n1_ := Aside0.mk (hbox); have n2_ := Aside0.mk ((by rw [hg]; exact (below_size (by repeat (first | (with_reducible first | exact HB.out | apply below_alloc | apply pw_below_drewN | apply below_drew1) | exact HB.out))) : w.heap.size ≤ gb585)); have n3_ := Aside0.mk ((by rw [hg]; exact (below_size (by repeat (first | (with_reducible first | exact HB.out | apply below_alloc | apply pw_below_drewN | apply below_drew1) | exact HB.out))) : w.heap.size ≤ gb585)); clear HB; have HB := n0_; have BK585 := n1_; have GW585 := n2_; have GE585 := n3_; clear n0_ n1_ n2_ n3_; clear hb hbox hg) | (go_at_call 33; (with_reducible refine (sub_Step.calls k a0 t586 t587 _ A3.out).mono ?_); rintro e w' ⟨rfl, ⟨nd, rfl⟩⟩; (try first | exact ⟨rfl, _, World.drewN_drewN _ _ _⟩ | exact ⟨rfl, _, Eq.trans (World.drewN_drewN _ _ _) (congrArg (World.drewN _) (Nat.add_assoc _ _ _))⟩); have hcz27_0 : w26.cell? ⟨gb585, 0, none⟩ = some (.int .u64 a1_0) := (blk_cell BK585.out 0).trans rfl; have hcz27_1 : w26.cell? ⟨gb585, 1, none⟩ = some (.int .u64 a1_1) := (blk_cell BK585.out 1).trans rfl; have hfz27_0 := blk_frozen BK585.out 0; have hfz27_1 := blk_frozen BK585.out 1) | (go_at_call 60; (with_reducible refine (node_Depth.calls k a0 a1_0 t588 t589 _ A5.out).mono ?_); rintro e w' ⟨rfl, ⟨nd, rfl⟩⟩; (try first | exact ⟨rfl, _, World.drewN_drewN _ _ _⟩ | exact ⟨rfl, _, Eq.trans (World.drewN_drewN _ _ _) (congrArg (World.drewN _) (Nat.add_assoc _ _ _))⟩))))
          refine bodyPost_ret (results_list (rs := [.tmp 4, .tmp 5, .tmp 6, .tmp 7, .tmp 8]) rfl (by simp) (.tmp (.tmp (.tmp (.tmp (.tmp .nil)))))) rfl ?_
          exact ⟨by first | rfl | (simp [errW_none, errW_some] <;> rfl) | (simp only [← hji24]; first | rfl | (simp [errW_none, errW_some] <;> rfl)) | (simp [*, errW_none, errW_some] <;> rfl), by repeat (first | (with_reducible first | exact HB.out | apply below_alloc | apply pw_below_drewN | apply below_drew1 | refine below_set ?_ GE585.out) | exact HB.out)⟩
        · rw [if_neg c25] at H
          have c25b0 : ((Int.tmod t588 t586) == 0) = false := beq_eq_false_iff_ne.mpr c25
          have c25b1 : ((Int.tmod t588 t586) != 0) = true := bne_iff_ne.mpr c25
          simp only [Option.some.injEq, Prod.mk.injEq] at H
          obtain ⟨rfl, rfl, rfl, rfl, rfl⟩ := H
          go_enter Try.func76, Try.ntmps76
          go_wp2_with (first | ((with_reducible refine gate_dst (N := 3) rfl ?_); refine box_event ?hg (N := 3) ?hd (cs := #[.int .u64 a1_0, .int .u64 a1_1]) (t := 34) ?hr ?_; (case hd => rfl); (case hg => rfl); (case hr => first | (go_simp; done) | (go_simp; rfl)); intro gb585 hg w28 hbox hb; have n0_ := Aside0.mk (below_step (by repeat (first | (with_reducible first | exact HB.out | apply below_alloc | apply pw_below_drewN | apply below_drew1) | exact HB.out)) hb); have n1_ := Aside0.mk (hbox); have n2_ := Aside0.mk ((by rw [hg]; exact (below_size (by repeat (first | (with_reducible first | exact HB.out | apply below_alloc | apply pw_below_drewN | apply below_drew1) | exact HB.out))) : w.heap.size ≤ gb585)); have n3_ := Aside0.mk ((by rw [hg]; exact (below_size (by repeat (first | (with_reducible first | exact HB.out | apply below_alloc | apply pw_below_drewN | apply below_drew1) | exact HB.out))) : w.heap.size ≤ gb585)); clear HB; have HB := n0_; have BK585 := n1_; have GW585 := n2_; have GE585 := n3_; clear n0_ n1_ n2_ n3_; clear hb hbox hg) | (go_at_call 33; (with_reducible refine (sub_Step.calls k a0 t586 t587 _ A3.out).mono ?_); rintro e w' ⟨rfl, ⟨nd, rfl⟩⟩; (try first | exact ⟨rfl, _, World.drewN_drewN _ _ _⟩ | exact ⟨rfl, _, Eq.trans (World.drewN_drewN _ _ _) (congrArg (World.drewN _) (Nat.add_assoc _ _ _))⟩); have hcz29_0 : w28.cell? ⟨gb585, 0, none⟩ = some (.int .u64 a1_0) := (blk_cell BK585.out 0).trans rfl; have hcz29_1 : w28.cell? ⟨gb585, 1, none⟩ = some (.int .u64 a1_1) := (blk_cell BK585.out 1).trans rfl; have hfz29_0 := blk_frozen BK585.out 0; have hfz29_1 := blk_frozen BK585.out 1) | (go_at_call 60; (with_reducible refine (node_Depth.calls k a0 a1_0 t588 t589 _ A5.out).mono ?_); rintro e w' ⟨rfl, ⟨nd, rfl⟩⟩; (try first | exact ⟨rfl, _, World.drewN_drewN _ _ _⟩ | exact ⟨rfl, _, Eq.trans (World.drewN_drewN _ _ _) (congrArg (World.drewN _) (Nat.add_assoc _ _ _))⟩)))
          repeat (go_quiet (first | ((with_reducible refine gate_dst (N := 3) rfl ?_); refine box_event ?hg (N := 3) ?hd (cs := #[.int .u64 a1_0, .int .u64 a1_1]) (t := 34) ?hr ?_; (case hd => rfl); (case hg => rfl); (case hr => first | (go_simp; done) | (go_simp; rfl)); intro gb585 hg w28 hbox hb; have n0_ := Aside0.mk (below_step (by repeat (first | (with_reducible first | exact HB.out | apply below_alloc | apply pw_below_drewN | apply below_drew1) | exact HB.out)) hb); have n1_ := Aside0.mk (hbox); have n2_ := Aside0.mk ((by rw [hg]; exact (below_size (by repeat (first | (with_reducible first | exact HB.out | apply below_alloc | apply pw_below_drewN | apply below_drew1) | exact HB.out))) : w.heap.size ≤ gb585)); have n3_ := Aside0.mk ((by rw [hg]; exact (below_size (by repeat (first | (with_reducible first | exact HB.out | apply below_alloc | apply pw_below_drewN | apply below_drew1) | exact HB.out))) : w.heap.size ≤ gb585)); clear HB; have HB := n0_; have BK585 := n1_; have GW585 := n2_; have GE585 := n3_; clear n0_ n1_ n2_ n3_; clear hb hbox hg) | (go_at_call 33; (with_reducible refine (sub_Step.calls k a0 t586 t587 _ A3.out).mono ?_); rintro e w' ⟨rfl, ⟨nd, rfl⟩⟩; (try first | exact ⟨rfl, _, World.drewN_drewN _ _ _⟩ | exact ⟨rfl, _, Eq.trans (World.drewN_drewN _ _ _) (congrArg (World.drewN _) (Nat.add_assoc _ _ _))⟩); have hcz29_0 : w28.cell? ⟨gb585, 0, none⟩ = some (.int .u64 a1_0) := (blk_cell BK585.out 0).trans rfl; have hcz29_1 : w28.cell? ⟨gb585, 1, none⟩ = some (.int .u64 a1_1) := (blk_cell BK585.out 1).trans rfl; have hfz29_0 := blk_frozen BK585.out 0; have hfz29_1 := blk_frozen BK585.out 1) | (go_at_call 60; (with_reducible refine (node_Depth.calls k a0 a1_0 t588 t589 _ A5.out).mono ?_); rintro e w' ⟨rfl, ⟨nd, rfl⟩⟩; (try first | exact ⟨rfl, _, World.drewN_drewN _ _ _⟩ | exact ⟨rfl, _, Eq.trans (World.drewN_drewN _ _ _) (congrArg (World.drewN _) (Nat.add_assoc _ _ _))⟩))); try go_wp2_with (first | ((with_reducible refine gate_dst (N := 3) rfl ?_); refine box_event ?hg (N := 3) ?hd (cs := #[.int .u64 a1_0, .int .u64 a1_1]) (t := 34) ?hr ?_; (case hd => rfl); (case hg => rfl); (case hr => first | (go_simp; done) | (go_simp; rfl)); intro gb585 hg w28 hbox hb; have n0_ := Aside0.mk (below_step (by repeat (first | (with_reducible first | exact HB.out | apply below_alloc | apply pw_below_drewN | apply below_drew1) | exact HB.out)) hb); have n1_ := Aside0.mk (hbox); have n2_ := Aside0.mk ((by rw [hg]; exact (below_size (by repeat (first | (with_reducible first | exact HB.out | apply below_alloc | apply pw_below_drewN | apply below_drew1) | exact HB.out))) : w.heap.size ≤ gb585)); have n3_ := Aside0.mk ((by rw [hg]; exact (below_size (by repeat (first | (with_reducible first | exact HB.out | apply below_alloc | apply pw_below_drewN | apply below_drew1) | exact HB.out))) : w.heap.size ≤ gb585)); clear HB; have HB := n0_; have BK585 := n1_; have GW585 := n2_; have GE585 := n3_; clear n0_ n1_ n2_ n3_; clear hb hbox hg) | (go_at_call 33; (with_reducible refine (sub_Step.calls k a0 t586 t587 _ A3.out).mono ?_); rintro e w' ⟨rfl, ⟨nd, rfl⟩⟩; (try first | exact ⟨rfl, _, World.drewN_drewN _ _ _⟩ | exact ⟨rfl, _, Eq.trans (World.drewN_drewN _ _ _) (congrArg (World.drewN _) (Nat.add_assoc _ _ _))⟩); have hcz29_0 : w28.cell? ⟨gb585, 0, none⟩ = some (.int .u64 a1_0) := (blk_cell BK585.out 0).trans rfl; have hcz29_1 : w28.cell? ⟨gb585, 1, none⟩ = some (.int .u64 a1_1) := (blk_cell BK585.out 1).trans rfl; have hfz29_0 := blk_frozen BK585.out 0; have hfz29_1 := blk_frozen BK585.out 1) | (go_at_call 60; (with_reducible refine (node_Depth.calls k a0 a1_0 t588 t589 _ A5.out).mono ?_); rintro e w' ⟨rfl, ⟨nd, rfl⟩⟩; (try first | exact ⟨rfl, _, World.drewN_drewN _ _ _⟩ | exact ⟨rfl, _, Eq.trans (World.drewN_drewN _ _ _) (congrArg (World.drewN _) (Nat.add_assoc _ _ _))⟩))))
          refine bodyPost_ret (results_list (rs := [.tmp 4, .tmp 5, .tmp 6, .tmp 7, .tmp 8]) rfl (by simp) (.tmp (.tmp (.tmp (.tmp (.tmp .nil)))))) rfl ?_
          exact ⟨by first | rfl | (simp [errW_none, errW_some] <;> rfl) | (simp only [← hji24]; first | rfl | (simp [errW_none, errW_some] <;> rfl)) | (simp [*, errW_none, errW_some] <;> rfl), by repeat (first | (with_reducible first | exact HB.out | apply below_alloc | apply pw_below_drewN | apply below_drew1 | refine below_set ?_ GE585.out) | exact HB.out)⟩
  · rw [if_neg c4] at H
    have c4b0 : (t587 == 0) = false := beq_eq_false_iff_ne.mpr c4
    have c4b1 : (t587 != 0) = true := bne_iff_ne.mpr c4
    simp only [Option.some.injEq, Prod.mk.injEq] at H
    obtain ⟨rfl, rfl, rfl, rfl, rfl⟩ := H
    go_enter Try.func76, Try.ntmps76
    go_wp2_with (first | ((with_reducible refine gate_dst (N := 3) rfl ?_); refine box_event ?hg (N := 3) ?hd (cs := #[.int .u64 a1_0, .int .u64 a1_1]) (t := 34) ?hr ?_; (case hd => rfl); (case hg => rfl); (case hr => first | (go_simp; done) | (go_simp; rfl)); intro gb585 hg w30 hbox hb; have n0_ := Aside0.mk (below_step (by repeat (first | (with_reducible first | exact HB.out | apply below_alloc | apply pw_below_drewN | apply below_drew1) | exact HB.out)) hb); have n1_ := Aside0.mk (hbox); have n2_ := Aside0.mk ((by rw [hg]; exact (below_size (by repeat (first | (with_reducible first | exact HB.out | apply below_alloc | apply pw_below_drewN | apply below_drew1) | exact HB.out))) : w.heap.size ≤ gb585)); have n3_ := Aside0.mk ((by rw [hg]; exact (below_size (by repeat (first | (with_reducible first | exact HB.out | apply below_alloc | apply pw_below_drewN | apply below_drew1) | exact HB.out))) : w.heap.size ≤ gb585)); clear HB; have HB := n0_; have BK585 := n1_; have GW585 := n2_; have GE585 := n3_; clear n0_ n1_ n2_ n3_; clear hb hbox hg) | (go_at_call 33; (with_reducible refine (sub_Step.calls k a0 t586 t587 _ A3.out).mono ?_); rintro e w' ⟨rfl, ⟨nd, rfl⟩⟩; (try first | exact ⟨rfl, _, World.drewN_drewN _ _ _⟩ | exact ⟨rfl, _, Eq.trans (World.drewN_drewN _ _ _) (congrArg (World.drewN _) (Nat.add_assoc _ _ _))⟩)))
    repeat (go_quiet (first | ((with_reducible refine gate_dst (N := 3) rfl ?_); refine box_event ?hg (N := 3) ?hd (cs := #[.int .u64 a1_0, .int .u64 a1_1]) (t := 34) ?hr ?_; (case hd => rfl); (case hg => rfl); (case hr => first | (go_simp; done) | (go_simp; rfl)); intro gb585 hg w30 hbox hb; have n0_ := Aside0.mk (below_step (by repeat (first | (with_reducible first | exact HB.out | apply below_alloc | apply pw_below_drewN | apply below_drew1) | exact HB.out)) hb); have n1_ := Aside0.mk (hbox); have n2_ := Aside0.mk ((by rw [hg]; exact (below_size (by repeat (first | (with_reducible first | exact HB.out | apply below_alloc | apply pw_below_drewN | apply below_drew1) | exact HB.out))) : w.heap.size ≤ gb585)); have n3_ := Aside0.mk ((by rw [hg]; exact (below_size (by repeat (first | (with_reducible first | exact HB.out | apply below_alloc | apply pw_below_drewN | apply below_drew1) | exact HB.out))) : w.heap.size ≤ gb585)); clear HB; have HB := n0_; have BK585 := n1_; have GW585 := n2_; have GE585 := n3_; clear n0_ n1_ n2_ n3_; clear hb hbox hg) | (go_at_call 33; (with_reducible refine (sub_Step.calls k a0 t586 t587 _ A3.out).mono ?_); rintro e w' ⟨rfl, ⟨nd, rfl⟩⟩; (try first | exact ⟨rfl, _, World.drewN_drewN _ _ _⟩ | exact ⟨rfl, _, Eq.trans (World.drewN_drewN _ _ _) (congrArg (World.drewN _) (Nat.add_assoc _ _ _))⟩))); try go_wp2_with (first | ((with_reducible refine gate_dst (N := 3) rfl ?_); refine box_event ?hg (N := 3) ?hd (cs := #[.int .u64 a1_0, .int .u64 a1_1]) (t := 34) ?hr ?_; (case hd => rfl); (case hg => rfl); (case hr => first | (go_simp; done) | (go_simp; rfl)); intro gb585 hg w30 hbox hb; have n0_ := Aside0.mk (below_step (by repeat (first | (with_reducible first | exact HB.out | apply below_alloc | apply pw_below_drewN | apply below_drew1) | exact HB.out)) hb); have n1_ := Aside0.mk (hbox); have n2_ := Aside0.mk ((by rw [hg]; exact (below_size (by repeat (first | (with_reducible first | exact HB.out | apply below_alloc | apply pw_below_drewN | apply below_drew1) | exact HB.out))) : w.heap.size ≤ gb585)); have n3_ := Aside0.mk ((by rw [hg]; exact (below_size (by repeat (first | (with_reducible first | exact HB.out | apply below_alloc | apply pw_below_drewN | apply below_drew1) | exact HB.out))) : w.heap.size ≤ gb585)); clear HB; have HB := n0_; have BK585 := n1_; have GW585 := n2_; have GE585 := n3_; clear n0_ n1_ n2_ n3_; clear hb hbox hg) | (go_at_call 33; (with_reducible refine (sub_Step.calls k a0 t586 t587 _ A3.out).mono ?_); rintro e w' ⟨rfl, ⟨nd, rfl⟩⟩; (try first | exact ⟨rfl, _, World.drewN_drewN _ _ _⟩ | exact ⟨rfl, _, Eq.trans (World.drewN_drewN _ _ _) (congrArg (World.drewN _) (Nat.add_assoc _ _ _))⟩))))
    refine bodyPost_ret (results_list (rs := [.tmp 4, .tmp 5, .tmp 6, .tmp 7, .tmp 8]) rfl (by simp) (.tmp (.tmp (.tmp (.tmp (.tmp .nil)))))) rfl ?_
    exact ⟨by first | rfl | (simp [errW_none, errW_some] <;> rfl) | (simp [*, errW_none, errW_some] <;> rfl), by repeat (first | (with_reducible first | exact HB.out | apply below_alloc | apply pw_below_drewN | apply below_drew1 | refine below_set ?_ GE585.out) | exact HB.out)⟩

/-! ### sub_Useful: function 36 -/
def sub_Useful.f (k : Nat) (a0 : Int) (a1_0 : Int) (a1_1 : Int) : Option (Bool × Int) := (sub_Check.f k a0 a1_0 a1_1).bind fun t593 => (if t593 = 0 then (if a1_1 = 0 then (some ((a1_0 == 1), 0)) else ((sub_depths.f k a0 a1_0 a1_1).bind fun bt594 => (if bt594.2.2.2.2 = 0 then (if bt594.2.2.2.1 = true then (some (true, bt594.2.2.2.2)) else (some (decide (bt594.2.1 ≤ bt594.2.2.1), bt594.2.2.2.2))) else (some (false, bt594.2.2.2.2))))) else (some (false, t593)))
theorem sub_Useful.mono : ∀ a0 a1 a2 k, LeO (sub_Useful.f k a0 a1 a2) (sub_Useful.f (k + 1) a0 a1 a2) := by
  intro a0 a1 a2 k
  unfold sub_Useful.f
  repeat' first
      | (with_reducible exact sub_Check.mono _ _ _ _)
      | (with_reducible exact sub_depths.mono _ _ _ _)
      | (with_reducible exact LeO.refl _)
      | (with_reducible exact LeO.none _)
      | (with_reducible refine LeO.ite ?_ ?_)
      | (with_reducible refine LeO.bind ?_ (fun _ => ?_))
      | exact sub_Check.mono _ _ _ _
      | exact sub_depths.mono _ _ _ _
      | exact LeO.none _
      | refine LeO.ite ?_ ?_
      | refine LeO.bind ?_ (fun _ => ?_)
set_option maxHeartbeats 8000000 in
set_option maxRecDepth 100000 in
theorem sub_Useful.calls (k : Nat) (a0 : Int) (a1_0 : Int) (a1_1 : Int) (r1 : Bool) (r2 : Int) (w : World) (h : sub_Useful.f k a0 a1_0 a1_1 = some (r1, r2)) :
    Calls Try.prog 36 #[.int .i64 a0, .agg #[.int .u64 a1_0, .int .u64 a1_1]] w fun e w' => e = .returned (.tuple #[.bool r1, .int .i64 r2]) ∧ Below w.heap.size w w' := by
  have hu34 := Try.underlying34
  have HB := Aside0.mk (Below.refl w.heap.size w)
  have H : ((sub_Check.f k a0 a1_0 a1_1).bind fun t593 => (if t593 = 0 then (if a1_1 = 0 then (some ((a1_0 == 1), 0)) else ((sub_depths.f k a0 a1_0 a1_1).bind fun bt594 => (if bt594.2.2.2.2 = 0 then (if bt594.2.2.2.1 = true then (some (true, bt594.2.2.2.2)) else (some (decide (bt594.2.1 ≤ bt594.2.2.1), bt594.2.2.2.2))) else (some (false, bt594.2.2.2.2))))) else (some (false, t593)))) = some (r1, r2) := h
  clear h
  replace H := Option.bind_eq_some_iff.mp H
  obtain ⟨t593, A30, H⟩ := H
  replace H : (if t593 = 0 then (if a1_1 = 0 then (some ((a1_0 == 1), 0)) else ((sub_depths.f k a0 a1_0 a1_1).bind fun bt594 => (if bt594.2.2.2.2 = 0 then (if bt594.2.2.2.1 = true then (some (true, bt594.2.2.2.2)) else (some (decide (bt594.2.1 ≤ bt594.2.2.1), bt594.2.2.2.2))) else (some (false, bt594.2.2.2.2))))) else (some (false, t593))) = some (r1, r2) := H
  have A3 := Aside0.mk A30
  clear A30
  by_cases c4 : t593 = 0
  · rw [if_pos c4] at H
    have c4b0 : (t593 == 0) = true := beq_iff_eq.mpr c4
    have c4b1 : (t593 != 0) = false := bne_eq_false_iff_eq.mpr c4
    clear c4
    by_cases c5 : a1_1 = 0
    · rw [if_pos c5] at H
      have c5b0 : (a1_1 == 0) = true := beq_iff_eq.mpr c5
      have c5b1 : (a1_1 != 0) = false := bne_eq_false_iff_eq.mpr c5
      clear c5
      simp only [Option.some.injEq, Prod.mk.injEq] at H
      obtain ⟨rfl, rfl⟩ := H
      go_enter Try.func36, Try.ntmps36
      go_wp2_with (first | ((with_reducible refine gate_dst (N := 3) rfl ?_); refine box_event ?hg (N := 3) ?hd (cs := #[.int .u64 a1_0, .int .u64 a1_1]) (t := 34) ?hr ?_; (case hd => rfl); (case hg => rfl); (case hr => first | (go_simp; done) | (go_simp; rfl)); intro gb592 hg w6 hbox hb; have n0_ := Aside0.mk (below_step (by repeat (first | (with_reducible first | exact HB.out | apply below_alloc | apply pw_below_drewN | apply below_drew1) | exact HB.out)) hb); have n1_ := Aside0.mk (hbox); have n2_ := Aside0.mk ((by rw [hg]; exact (below_size (by repeat (first | (with_reducible first | exact HB.out | apply below_alloc | apply pw_below_drewN | apply below_drew1) | exact HB.out))) : w.heap.size ≤ gb592)); have n3_ := Aside0.mk ((by rw [hg]; exact (below_size (by repeat (first | (with_reducible first | exact HB.out | apply below_alloc | apply pw_below_drewN | apply below_drew1) | exact HB.out))) : w.heap.size ≤ gb592)); clear HB; have HB := n0_; have BK592 := n1_; have GW592 := n2_; have GE592 := n3_; clear n0_ n1_ n2_ n3_; clear hb hbox hg; have hcz7_0 : w6.cell? ⟨gb592, 0, none⟩ = some (.int .u64 a1_0) := (blk_cell BK592.out 0).trans rfl; have hcz7_1 : w6.cell? ⟨gb592, 1, none⟩ = some (.int .u64 a1_1) := (blk_cell BK592.out 1).trans rfl; have hfz7_0 := blk_frozen BK592.out 0; have hfz7_1 := blk_frozen BK592.out 1) | ((with_reducible refine gate_callee (f := 75) rfl ?_); refine goesL_ (some 14) rfl rfl Try.func75 (by kernel_rfl) rfl #[.int .i64 a0, .agg #[.int .u64 a1_0, .int .u64 a1_1]] rfl (by (try simp only [List.map_toArray, List.map_cons, List.map_nil]); first | done | rfl | (simp only [List.length_drop, List.length_take]; rfl)) ?_; (with_reducible refine (sub_Check.calls k a0 a1_0 a1_1 t593 _ A3.out).mono ?_); rintro e w8 ⟨rfl, hb⟩; refine ⟨_, rfl, ?_⟩; have n0_ := Aside0.mk (blk_below (g := gb592) (o := .cells #[.int .u64 a1_0, .int .u64 a1_1] 34 (0, 0)) (by (with_reducible repeat (first | refine blk_drewN ?_ _ | refine blk_drew ?_ | refine blk_alloc ?_ _)); exact BK592.out) hb); have n1_ := Aside0.mk (below_step (by repeat (first | (with_reducible first | exact HB.out | apply below_alloc | apply pw_below_drewN | apply below_drew1 | refine below_set ?_ GE592.out) | exact HB.out)) hb); clear BK592; clear HB; have BK592 := n0_; have HB := n1_; clear n0_ n1_; (try clear hb); (try clear hb2); (try clear hk); (try clear hi); have hcz9_0 : w8.cell? ⟨gb592, 0, none⟩ = some (.int .u64 a1_0) := (blk_cell BK592.out 0).trans rfl; have hcz9_1 : w8.cell? ⟨gb592, 1, none⟩ = some (.int .u64 a1_1) := (blk_cell BK592.out 1).trans rfl; have hfz9_0 := blk_frozen BK592.out 0; have hfz9_1 := blk_frozen BK592.out 1))
      go_ret2
      exact ⟨by first | rfl | (simp [errW_none, errW_some] <;> rfl) | (simp [*, errW_none, errW_some] <;> rfl), by repeat (first | (with_reducible first | exact HB.out | apply below_alloc | apply pw_below_drewN | apply below_drew1 | refine below_set ?_ GE592.out) | exact HB.out)⟩
    · rw [if_neg c5] at H
      have c5b0 : (a1_1 == 0) = false := beq_eq_false_iff_ne.mpr c5
      have c5b1 : (a1_1 != 0) = true := bne_iff_ne.mpr c5
      replace H := Option.bind_eq_some_iff.mp H
      obtain ⟨⟨t594, t595, t596, t597, t598⟩, A100, H⟩ := H
      replace H : (if t598 = 0 then (if t597 = true then (some (true, t598)) else (some (decide (t595 ≤ t596), t598))) else (some (false, t598))) = some (r1, r2) := H
      have A10 := Aside0.mk A100
      clear A100
      by_cases c11 : t598 = 0
      · rw [if_pos c11] at H
        have c11b0 : (t598 == 0) = true := beq_iff_eq.mpr c11
        have c11b1 : (t598 != 0) = false := bne_eq_false_iff_eq.mpr c11
        clear c11
        by_cases c12 : t597 = true
        · subst c12
          have H1 : (some (true, t598)) = some (r1, r2) := by rw [if_pos rfl] at H; exact H
          clear H
          have H := H1
          clear H1
          simp only [Option.some.injEq, Prod.mk.injEq] at H
          obtain ⟨rfl, rfl⟩ := H
          go_enter Try.func36, Try.ntmps36
          go_wp2_with (first | ((with_reducible refine gate_dst (N := 3) rfl ?_); refine box_event ?hg (N := 3) ?hd (cs := #[.int .u64 a1_0, .int .u64 a1_1]) (t := 34) ?hr ?_; (case hd => rfl); (case hg => rfl); (case hr => first | (go_simp; done) | (go_simp; rfl)); intro gb592 hg w13 hbox hb; have n0_ := Aside0.mk (below_step (by repeat (first | (with_reducible first | exact HB.out | apply below_alloc | apply pw_below_drewN | apply below_drew1) | exact HB.out)) hb); have n1_ := Aside0.mk (hbox); have n2_ := Aside0.mk ((by rw [hg]; exact (below_size (by repeat (first | (with_reducible first | exact HB.out | apply below_alloc | apply pw_below_drewN | apply below_drew1) | exact HB.out))) : w.heap.size ≤ gb592)); have n3_ := Aside0.mk ((by rw [hg]; exact (below_size (by repeat (first | (with_reducible first | exact HB.out | apply below_alloc | apply pw_below_drewN | apply below_drew1) | exact HB.out))) : w.heap.size ≤ gb592)); clear HB; have HB := n0_; have BK592 := n1_; have GW592 := n2_; have GE592 := n3_; clear n0_ n1_ n2_ n3_; clear hb hbox hg; have hcz14_0 : w13.cell? ⟨gb592, 0, none⟩ = some (.int .u64 a1_0) := (blk_cell BK592.out 0).trans rfl; have hcz14_1 : w13.cell? ⟨gb592, 1, none⟩ = some (.int .u64 a1_1) := (blk_cell BK592.out 1).trans rfl; have hfz14_0 := blk_frozen BK592.out 0; have hfz14_1 := blk_frozen BK592.out 1) | ((with_reducible refine gate_callee (f := 75) rfl ?_); refine goesL_ (some 14) rfl rfl Try.func75 (by kernel_rfl) rfl #[.int .i64 a0, .agg #[.int .u64 a1_0, .int .u64 a1_1]] rfl (by (try simp only [List.map_toArray, List.map_cons, List.map_nil]); first | done | rfl | (simp only [List.length_drop, List.length_take]; rfl)) ?_; (with_reducible refine (sub_Check.calls k a0 a1_0 a1_1 t593 _ A3.out).mono ?_); rintro e w15 ⟨rfl, hb⟩; refine ⟨_, rfl, ?_⟩; have n0_ := Aside0.mk (blk_below (g := gb592) (o := .cells #[.int .u64 a1_0, .int .u64 a1_1] 34 (0, 0)) (by (with_reducible repeat (first | refine blk_drewN ?_ _ | refine blk_drew ?_ | refine blk_alloc ?_ _)); exact BK592.out) hb); have n1_ := Aside0.mk (below_step (by repeat (first | (with_reducible first | exact HB.out | apply below_alloc | apply pw_below_drewN | apply below_drew1 | refine below_set ?_ GE592.out) | exact HB.out)) hb); clear BK592; clear HB; have BK592 := n0_; have HB := n1_; clear n0_ n1_; (try clear hb); (try clear hb2); (try clear hk); (try clear hi); have hcz16_0 : w15.cell? ⟨gb592, 0, none⟩ = some (.int .u64 a1_0) := (blk_cell BK592.out 0).trans rfl; have hcz16_1 : w15.cell? ⟨gb592, 1, none⟩ = some (.int .u64 a1_1) := (blk_cell BK592.out 1).trans rfl; have hfz16_0 := blk_frozen BK592.out 0; have hfz16_1 := blk_frozen BK592.out 1) | ((with_reducible refine gate_callee (f := 76) rfl ?_); refine goesL_ (some 27) rfl rfl Try.func76 (by kernel_rfl) rfl #[.int .i64 a0, .agg #[.int .u64 a1_0, .int .u64 a1_1]] rfl (by (try simp only [List.map_toArray, List.map_cons, List.map_nil]); first | done | rfl | (simp only [List.length_drop, List.length_take]; rfl)) ?_; (with_reducible refine (sub_depths.calls k a0 a1_0 a1_1 t594 t595 t596 true t598 _ A10.out).mono ?_); rintro e w17 ⟨rfl, hb⟩; refine ⟨_, rfl, ?_⟩; have n0_ := Aside0.mk (blk_below (g := gb592) (o := .cells #[.int .u64 a1_0, .int .u64 a1_1] 34 (0, 0)) (by (with_reducible repeat (first | refine blk_drewN ?_ _ | refine blk_drew ?_ | refine blk_alloc ?_ _)); exact BK592.out) hb); have n1_ := Aside0.mk (below_step (by repeat (first | (with_reducible first | exact HB.out | apply below_alloc | apply pw_below_drewN | apply below_drew1 | refine below_set ?_ GE592.out) | exact HB.out)) hb); clear BK592; clear HB; have BK592 := n0_; have HB := n1_; clear n0_ n1_; (try clear hb); (try clear hb2); (try clear hk); (try clear hi)))
          go_ret2
          exact ⟨by first | rfl | (simp [errW_none, errW_some] <;> rfl) | (simp [*, errW_none, errW_some] <;> rfl), by repeat (first | (with_reducible first | exact HB.out | apply below_alloc | apply pw_below_drewN | apply below_drew1 | refine below_set ?_ GE592.out) | exact HB.out)⟩
        · replace c12 := Bool.eq_false_iff.mpr c12
          subst c12
          have H1 : (some (decide (t595 ≤ t596), t598)) = some (r1, r2) := by rw [if_neg (show ¬ (false = true) by decide)] at H; exact H
          clear H
          have H := H1
          clear H1
          simp only [Option.some.injEq, Prod.mk.injEq] at H
          obtain ⟨rfl, rfl⟩ := H
          go_enter Try.func36, Try.ntmps36
          go_wp2_with (first | ((with_reducible refine gate_dst (N := 3) rfl ?_); refine box_event ?hg (N := 3) ?hd (cs := #[.int .u64 a1_0, .int .u64 a1_1]) (t := 34) ?hr ?_; (case hd => rfl); (case hg => rfl); (case hr => first | (go_simp; done) | (go_simp; rfl)); intro gb592 hg w18 hbox hb; have n0_ := Aside0.mk (below_step (by repeat (first | (with_reducible first | exact HB.out | apply below_alloc | apply pw_below_drewN | apply below_drew1) | exact HB.out)) hb); have n1_ := Aside0.mk (hbox); have n2_ := Aside0.mk ((by rw [hg]; exact (below_size (by repeat (first | (with_reducible first | exact HB.out | apply below_alloc | apply pw_below_drewN | apply below_drew1) | exact HB.out))) : w.heap.size ≤ gb592)); have n3_ := Aside0.mk ((by rw [hg]; exact (below_size (by repeat (first | (with_reducible first | exact HB.out | apply below_alloc | apply pw_below_drewN | apply below_drew1) | exact HB.out))) : w.heap.size ≤ gb592)); clear HB; have HB := n0_; have BK592 := n1_; have GW592 := n2_; have GE592 := n3_; clear n0_ n1_ n2_ n3_; clear hb hbox hg; have hcz19_0 : w18.cell? ⟨gb592, 0, none⟩ = some (.int .u64 a1_0) := (blk_cell BK592.out 0).trans rfl; have hcz19_1 : w18.cell? ⟨gb592, 1, none⟩ = some (.int .u64 a1_1) := (blk_cell BK592.out 1).trans rfl; have hfz19_0 := blk_frozen BK592.out 0; have hfz19_1 := blk_frozen BK592.out 1) | ((with_reducible refine gate_callee (f := 75) rfl ?_); refine goesL_ (some 14) rfl rfl Try.func75 (by kernel_rfl) rfl #[.int .i64 a0, .agg #[.int .u64 a1_0, .int .u64 a1_1]] rfl (by (try simp only [List.map_toArray, List.map_cons, List.map_nil]); first | done | rfl | (simp only [List.length_drop, List.length_take]; rfl)) ?_; (with_reducible refine (sub_Check.calls k a0 a1_0 a1_1 t593 _ A3.out).mono ?_); rintro e w20 ⟨rfl, hb⟩; refine ⟨_, rfl, ?_⟩; have n0_ := Aside0.mk (blk_below (g := gb592) (o := .cells #[.int .u64 a1_0, .int .u64 a1_1] 34 (0, 0)) (by (with_reducible repeat (first | refine blk_drewN ?_ _ | refine blk_drew ?_ | refine blk_alloc ?_ _)); exact BK592.out) hb); have n1_ := Aside0.mk (below_step (by repeat (first | (with_reducible first | exact HB.out | apply below_alloc | apply pw_below_drewN | apply below_drew1 | refine below_set ?_ GE592.out) | exact HB.out)) hb); clear BK592; clear HB; have BK592 := n0_; have HB := n1_; clear n0_ n1_; (try clear hb); (try clear hb2); (try clear hk); (try clear hi); have hcz21_0 : w20.cell? ⟨gb592, 0, none⟩ = some (.int .u64 a1_0) := (blk_cell BK592.out 0).trans rfl; have hcz21_1 : w20.cell? ⟨gb592, 1, none⟩ = some (.int .u64 a1_1) := (blk_cell BK592.out 1).trans rfl; have hfz21_0 := blk_frozen BK592.out 0; have hfz21_1 := blk_frozen BK592.out 1) | ((with_reducible refine gate_callee (f := 76) rfl ?_); refine goesL_ (some 27) rfl rfl Try.func76 (by kernel_rfl) rfl #[.int .i64 a0, .agg #[.int .u64 a1_0, .int .u64 a1_1]] rfl (by (try simp only [List.map_toArray, List.map_cons, List.map_nil]); first | done | rfl | (simp only [List.length_drop, List.length_take]; rfl)) ?_; (with_reducible refine (sub_depths.calls k a0 a1_0 a1_1 t594 t595 t596 false t598 _ A10.out).mono ?_); rintro e w22 ⟨rfl, hb⟩; refine ⟨_, rfl, ?_⟩; have n0_ := Aside0.mk (blk_below (g := gb592) (o := .cells #[.int .u64 a1_0, .int .u64 a1_1] 34 (0, 0)) (by (with_reducible repeat (first | refine blk_drewN ?_ _ | refine blk_drew ?_ | refine blk_alloc ?_ _)); exact BK592.out) hb); have n1_ := Aside0.mk (below_step (by repeat (first | (with_reducible first | exact HB.out | apply below_alloc | apply pw_below_drewN | apply below_drew1 | refine below_set ?_ GE592.out) | exact HB.out)) hb); clear BK592; clear HB; have BK592 := n0_; have HB := n1_; clear n0_ n1_; (try clear hb); (try clear hb2); (try clear hk); (try clear hi)))
          go_ret2
          exact ⟨by first | rfl | (simp [errW_none, errW_some] <;> rfl) | (simp [*, errW_none, errW_some] <;> rfl), by repeat (first | (with_reducible first | exact HB.out | apply below_alloc | apply pw_below_drewN | apply below_drew1 | refine below_set ?_ GE592.out) | exact HB.out)⟩
      · rw [if_neg c11] at H
        have c11b0 : (t598 == 0) = false := beq_eq_false_iff_ne.mpr c11
        have c11b1 : (t598 != 0) = true := bne_iff_ne.mpr c11
        simp only [Option.some.injEq, Prod.mk.injEq] at H
        obtain ⟨rfl, rfl⟩ := H
        go_enter Try.func36, Try.ntmps36
        go_wp2_with (first | ((with_reducible refine gate_dst (N := 3) rfl ?_); refine box_event ?hg (N := 3) ?hd (cs := #[.int .u64 a1_0, .int .u64 a1_1]) (t := 34) ?hr ?_; (case hd => rfl); (case hg => rfl); (case hr => first | (go_simp; done) | (go_simp; rfl)); intro gb592 hg w23 hbox hb; have n0_ := Aside0.mk (below_step (by repeat (first | (with_reducible first | exact HB.out | apply below_alloc | apply pw_below_drewN | apply below_drew1) | exact HB.out)) hb); have n1_ := Aside0.mk (hbox); have n2_ := Aside0.mk ((by rw [hg]; exact (below_size (by repeat (first | (with_reducible first | exact HB.out | apply below_alloc | apply pw_below_drewN | apply below_drew1) | exact HB.out))) : w.heap.size ≤ gb592)); have n3_ := Aside0.mk ((by rw [hg]; exact (below_size (by repeat (first | (with_reducible first | exact HB.out | apply below_alloc | apply pw_below_drewN | apply below_drew1) | exact HB.out))) : w.heap.size ≤ gb592)); clear HB; have HB := n0_; have BK592 := n1_; have GW592 := n2_; have GE592 := n3_; clear n0_ n1_ n2_ n3_; clear hb hbox hg; have hcz24_0 : w23.cell? ⟨gb592, 0, none⟩ = some (.int .u64 a1_0) := (blk_cell BK592.out 0).trans rfl; have hcz24_1 : w23.cell? ⟨gb592, 1, none⟩ = some (.int .u64 a1_1) := (blk_cell BK592.out 1).trans rfl; have hfz24_0 := blk_frozen BK592.out 0; have hfz24_1 := blk_frozen BK592.out 1) | ((with_reducible refine gate_callee (f := 75) rfl ?_); refine goesL_ (some 14) rfl rfl Try.func75 (by kernel_rfl) rfl #[.int .i64 a0, .agg #[.int .u64 a1_0, .int .u64 a1_1]] rfl (by (try simp only [List.map_toArray, List.map_cons, List.map_nil]); first | done | rfl | (simp only [List.length_drop, List.length_take]; rfl)) ?_; (with_reducible refine (sub_Check.calls k a0 a1_0 a1_1 t593 _ A3.out).mono ?_); rintro e w25 ⟨rfl, hb⟩; refine ⟨_, rfl, ?_⟩; have n0_ := Aside0.mk (blk_below (g := gb592) (o := .cells #[.int .u64 a1_0, .int .u64 a1_1] 34 (0, 0)) (by (with_reducible repeat (first | refine blk_drewN ?_ _ | refine blk_drew ?_ | refine blk_alloc ?_ _)); exact BK592.out) hb); have n1_ := Aside0.mk (below_step (by repeat (first | (with_reducible first | exact HB.out | apply below_alloc | apply pw_below_drewN | apply below_drew1 | refine below_set ?_ GE592.out) | exact HB.out)) hb); clear BK592; clear HB; have BK592 := n0_; have HB := n1_; clear n0_ n1_; (try clear hb); (try clear hb2); (try clear hk); (try clear hi); have hcz26_0 : w25.cell? ⟨gb592, 0, none⟩ = some (.int .u64 a1_0) := (blk_cell BK592.out 0).trans rfl; have hcz26_1 : w25.cell? ⟨gb592, 1, none⟩ = some (.int .u64 a1_1) := (blk_cell BK592.out 1).trans rfl; have hfz26_0 := blk_frozen BK592.out 0; have hfz26_1 := blk_frozen BK592.out 1) | ((with_reducible refine gate_callee (f := 76) rfl ?_); refine goesL_ (some 27) rfl rfl Try.func76 (by kernel_rfl) rfl #[.int .i64 a0, .agg #[.int .u64 a1_0, .int .u64 a1_1]] rfl (by (try simp only [List.map_toArray, List.map_cons, List.map_nil]); first | done | rfl | (simp only [List.length_drop, List.length_take]; rfl)) ?_; (with_reducible refine (sub_depths.calls k a0 a1_0 a1_1 t594 t595 t596 t597 t598 _ A10.out).mono ?_); rintro e w27 ⟨rfl, hb⟩; refine ⟨_, rfl, ?_⟩; have n0_ := Aside0.mk (blk_below (g := gb592) (o := .cells #[.int .u64 a1_0, .int .u64 a1_1] 34 (0, 0)) (by (with_reducible repeat (first | refine blk_drewN ?_ _ | refine blk_drew ?_ | refine blk_alloc ?_ _)); exact BK592.out) hb); have n1_ := Aside0.mk (below_step (by repeat (first | (with_reducible first | exact HB.out | apply below_alloc | apply pw_below_drewN | apply below_drew1 | refine below_set ?_ GE592.out) | exact HB.out)) hb); clear BK592; clear HB; have BK592 := n0_; have HB := n1_; clear n0_ n1_; (try clear hb); (try clear hb2); (try clear hk); (try clear hi)))
        go_ret2
        exact ⟨by first | rfl | (simp [errW_none, errW_some] <;> rfl) | (simp [*, errW_none, errW_some] <;> rfl), by repeat (first | (with_reducible first | exact HB.out | apply below_alloc | apply pw_below_drewN | apply below_drew1 | refine below_set ?_ GE592.out) | exact HB.out)⟩
  · rw [if_neg c4] at H
    have c4b0 : (t593 == 0) = false := beq_eq_false_iff_ne.mpr c4
    have c4b1 : (t593 != 0) = true := bne_iff_ne.mpr c4
    simp only [Option.some.injEq, Prod.mk.injEq] at H
    obtain ⟨rfl, rfl⟩ := H
    go_enter Try.func36, Try.ntmps36
    go_wp2_with (first | ((with_reducible refine gate_dst (N := 3) rfl ?_); refine box_event ?hg (N := 3) ?hd (cs := #[.int .u64 a1_0, .int .u64 a1_1]) (t := 34) ?hr ?_; (case hd => rfl); (case hg => rfl); (case hr => first | (go_simp; done) | (go_simp; rfl)); intro gb592 hg w28 hbox hb; have n0_ := Aside0.mk (below_step (by repeat (first | (with_reducible first | exact HB.out | apply below_alloc | apply pw_below_drewN | apply below_drew1) | exact HB.out)) hb); have n1_ := Aside0.mk (hbox); have n2_ := Aside0.mk ((by rw [hg]; exact (below_size (by repeat (first | (with_reducible first | exact HB.out | apply below_alloc | apply pw_below_drewN | apply below_drew1) | exact HB.out))) : w.heap.size ≤ gb592)); have n3_ := Aside0.mk ((by rw [hg]; exact (below_size (by repeat (first | (with_reducible first | exact HB.out | apply below_alloc | apply pw_below_drewN | apply below_drew1) | exact HB.out))) : w.heap.size ≤ gb592)); clear HB; have HB := n0_; have BK592 := n1_; have GW592 := n2_; have GE592 := n3_; clear n0_ n1_ n2_ n3_; clear hb hbox hg; have hcz29_0 : w28.cell? ⟨gb592, 0, none⟩ = some (.int .u64 a1_0) := (blk_cell BK592.out 0).trans rfl; have hcz29_1 : w28.cell? ⟨gb592, 1, none⟩ = some (.int .u64 a1_1) := (blk_cell BK592.out 1).trans rfl; have hfz29_0 := blk_frozen BK592.out 0; have hfz29_1 := blk_frozen BK592.out 1) | ((with_reducible refine gate_callee (f := 75) rfl ?_); refine goesL_ (some 14) rfl rfl Try.func75 (by kernel_rfl) rfl #[.int .i64 a0, .agg #[.int .u64 a1_0, .int .u64 a1_1]] rfl (by (try simp only [List.map_toArray, List.map_cons, List.map_nil]); first | done | rfl | (simp only [List.length_drop, List.length_take]; rfl)) ?_; (with_reducible refine (sub_Check.calls k a0 a1_0 a1_1 t593 _ A3.out).mono ?_); rintro e w30 ⟨rfl, hb⟩; refine ⟨_, rfl, ?_⟩; have n0_ := Aside0.mk (blk_below (g := gb592) (o := .cells #[.int .u64 a1_0, .int .u64 a1_1] 34 (0, 0)) (by (with_reducible repeat (first | refine blk_drewN ?_ _ | refine blk_drew ?_ | refine blk_alloc ?_ _)); exact BK592.out) hb); have n1_ := Aside0.mk (below_step (by repeat (first | (with_reducible first | exact HB.out | apply below_alloc | apply pw_below_drewN | apply below_drew1 | refine below_set ?_ GE592.out) | exact HB.out)) hb); clear BK592; clear HB; have BK592 := n0_; have HB := n1_; clear n0_ n1_; (try clear hb); (try clear hb2); (try clear hk); (try clear hi)))
    go_ret2
    exact ⟨by first | rfl | (simp [errW_none, errW_some] <;> rfl) | (simp [*, errW_none, errW_some] <;> rfl), by repeat (first | (with_reducible first | exact HB.out | apply below_alloc | apply pw_below_drewN | apply below_drew1 | refine below_set ?_ GE592.out) | exact HB.out)⟩

/-! ### node_Up: function 113 -/
def node_Up.f (k : Nat) (a0 : Int) (a1 : Int) (a2 : Int) : Option (Int × Int) := (node_Check.f k a0 a1).bind fun t599 => (if t599 = 0 then (if a2 < 0 then (some (0, 4)) else ((node_depth.f k a1).bind fun t600 => (if a2 > t600 then (some (0, 4)) else ((node_depth.f k a1).bind fun t601 => (if 0 ≤ (wrap64 (t601 - a2)) then (some (shr .u64 a1 (wrap64 (t601 - a2)), 0)) else (none)))))) else (some (0, t599)))
theorem node_Up.mono : ∀ a0 a1 a2 k, LeO (node_Up.f k a0 a1 a2) (node_Up.f (k + 1) a0 a1 a2) := by
  intro a0 a1 a2 k
  unfold node_Up.f
  repeat' first
      | (with_reducible exact node_Check.mono _ _ _)
      | (with_reducible exact node_depth.mono _ _)
      | (with_reducible exact LeO.refl _)
      | (with_reducible exact LeO.none _)
      | (with_reducible refine LeO.ite ?_ ?_)
      | (with_reducible refine LeO.bind ?_ (fun _ => ?_))
      | exact node_Check.mono _ _ _
      | exact node_depth.mono _ _
      | exact LeO.none _
      | refine LeO.ite ?_ ?_
      | refine LeO.bind ?_ (fun _ => ?_)
set_option maxHeartbeats 8000000 in
set_option maxRecDepth 100000 in
theorem node_Up.calls (k : Nat) (a0 : Int) (a1 : Int) (a2 : Int) (r1 : Int) (r2 : Int) (w : World) (h : node_Up.f k a0 a1 a2 = some (r1, r2)) :
    Calls Try.prog 113 #[.int .i64 a0, .int .u64 a1, .int .i64 a2] w fun e w' => e = .returned (.tuple #[.int .u64 r1, .int .i64 r2]) ∧ Drawn0 w w' := by
  have H : ((node_Check.f k a0 a1).bind fun t599 => (if t599 = 0 then (if a2 < 0 then (some (0, 4)) else ((node_depth.f k a1).bind fun t600 => (if a2 > t600 then (some (0, 4)) else ((node_depth.f k a1).bind fun t601 => (if 0 ≤ (wrap64 (t601 - a2)) then (some (shr .u64 a1 (wrap64 (t601 - a2)), 0)) else (none)))))) else (some (0, t599)))) = some (r1, r2) := h
  clear h
  replace H := Option.bind_eq_some_iff.mp H
  obtain ⟨t599, A40, H⟩ := H
  replace H : (if t599 = 0 then (if a2 < 0 then (some (0, 4)) else ((node_depth.f k a1).bind fun t600 => (if a2 > t600 then (some (0, 4)) else ((node_depth.f k a1).bind fun t601 => (if 0 ≤ (wrap64 (t601 - a2)) then (some (shr .u64 a1 (wrap64 (t601 - a2)), 0)) else (none)))))) else (some (0, t599))) = some (r1, r2) := H
  have A4 := Aside0.mk A40
  clear A40
  by_cases c5 : t599 = 0
  · rw [if_pos c5] at H
    have c5b0 : (t599 == 0) = true := beq_iff_eq.mpr c5
    have c5b1 : (t599 != 0) = false := bne_eq_false_iff_eq.mpr c5
    clear c5
    by_cases c6 : a2 < 0
    · rw [if_pos c6] at H
      have c6b0 : decide (a2 < 0) = true := decide_eq_true c6
      clear c6
      simp only [Option.some.injEq, Prod.mk.injEq] at H
      obtain ⟨rfl, rfl⟩ := H
      go_enter Try.func113, Try.ntmps113
      go_wp2_with (first | ((with_reducible refine gate_callee (f := 64) rfl ?_); refine goesL_ (some 11) rfl rfl Try.func64 (by kernel_rfl) rfl #[.int .i64 a0, .int .u64 a1] rfl (by (try simp only [List.map_toArray, List.map_cons, List.map_nil]); first | done | rfl | (simp only [List.length_drop, List.length_take]; rfl)) ?_; (with_reducible refine (node_Check.calls k a0 a1 t599 _ A4.out).mono ?_); rintro e w' ⟨rfl, ⟨nd, rfl⟩⟩; refine ⟨_, rfl, ?_⟩))
      go_ret2
      exact ⟨by first | rfl | (simp; done) | (simp [*]; done), by repeat (first | exact Drawn0.refl _ | apply Drawn0.step)⟩
    · rw [if_neg c6] at H
      have c6b0 : decide (a2 < 0) = false := decide_eq_false c6
      clear c6
      replace H := Option.bind_eq_some_iff.mp H
      obtain ⟨t600, A70, H⟩ := H
      replace H : (if a2 > t600 then (some (0, 4)) else ((node_depth.f k a1).bind fun t601 => (if 0 ≤ (wrap64 (t601 - a2)) then (some (shr .u64 a1 (wrap64 (t601 - a2)), 0)) else (none)))) = some (r1, r2) := H
      have A7 := Aside0.mk A70
      clear A70
      by_cases c8 : a2 > t600
      · rw [if_pos c8] at H
        have c8b0 : decide (t600 < a2) = true := decide_eq_true c8
        clear c8
        simp only [Option.some.injEq, Prod.mk.injEq] at H
        obtain ⟨rfl, rfl⟩ := H
        go_enter Try.func113, Try.ntmps113
        go_wp2_with (first | ((with_reducible refine gate_callee (f := 64) rfl ?_); refine goesL_ (some 11) rfl rfl Try.func64 (by kernel_rfl) rfl #[.int .i64 a0, .int .u64 a1] rfl (by (try simp only [List.map_toArray, List.map_cons, List.map_nil]); first | done | rfl | (simp only [List.length_drop, List.length_take]; rfl)) ?_; (with_reducible refine (node_Check.calls k a0 a1 t599 _ A4.out).mono ?_); rintro e w' ⟨rfl, ⟨nd, rfl⟩⟩; refine ⟨_, rfl, ?_⟩) | (go_at_call 102; (with_reducible refine (node_depth.calls k a1 t600 _ A7.out).mono ?_); rintro e w' ⟨rfl, ⟨nd, rfl⟩⟩))
        go_ret2
        exact ⟨by first | rfl | (simp; done) | (simp [*]; done), by repeat (first | exact Drawn0.refl _ | apply Drawn0.step)⟩
      · rw [if_neg c8] at H
        have c8b0 : decide (t600 < a2) = false := decide_eq_false c8
        clear c8
        replace H := Option.bind_eq_some_iff.mp H
        obtain ⟨t601, A90, H⟩ := H
        replace H : (if 0 ≤ (wrap64 (t601 - a2)) then (some (shr .u64 a1 (wrap64 (t601 - a2)), 0)) else (none)) = some (r1, r2) := H
        have A9 := Aside0.mk A90
        clear A90
        obtain ⟨ji10, hji10⟩ : ∃ j_ : Int, (wrap64 (t601 - a2)) = j_ := ⟨_, rfl⟩
        replace H : (if 0 ≤ (ji10) then (some (shr .u64 a1 (ji10), 0)) else (none)) = some (r1, r2) := by first | (rw [hji10] at H; exact H) | (simp only [hji10] at H ⊢; exact H)
        (try rw [hji10] at A4)
        (try rw [hji10] at A7)
        (try rw [hji10] at A9)
        have hji10w : (IntKind.i64.wrap (t601 - a2)) = ji10 := (i64_w _).trans hji10
        by_cases c11 : 0 ≤ (ji10)
        · rw [if_pos c11] at H
          have c11b0 := eq_true c11
          have c11b1 : decide (0 ≤ (ji10)) = true := decide_eq_true c11
          clear c11
          obtain ⟨ji12, hji12⟩ : ∃ j_ : Int, (shr .u64 a1 (ji10)) = j_ := ⟨_, rfl⟩
          replace H : (some (ji12, 0)) = some (r1, r2) := by first | (rw [hji12] at H; exact H) | (simp only [hji12] at H ⊢; exact H)
          (try rw [hji12] at A4)
          (try rw [hji12] at A7)
          (try rw [hji12] at A9)
          have hji12_ : (a1 / 2 ^ min (ji10).toNat 64) = ji12 := hji12
          have hji12z : (ji10) ≤ 64 → (a1 / 2 ^ (ji10).toNat) = ji12 := shr_small hji12
          simp only [Option.some.injEq, Prod.mk.injEq] at H
          obtain ⟨rfl, rfl⟩ := H
          go_enter Try.func113, Try.ntmps113
          go_wp2_with (first | ((with_reducible refine gate_callee (f := 64) rfl ?_); refine goesL_ (some 11) rfl rfl Try.func64 (by kernel_rfl) rfl #[.int .i64 a0, .int .u64 a1] rfl (by (try simp only [List.map_toArray, List.map_cons, List.map_nil]); first | done | rfl | (simp only [List.length_drop, List.length_take]; rfl)) ?_; (with_reducible refine (node_Check.calls k a0 a1 t599 _ A4.out).mono ?_); rintro e w' ⟨rfl, ⟨nd, rfl⟩⟩; refine ⟨_, rfl, ?_⟩) | (go_at_call 102; (with_reducible refine (node_depth.calls k a1 t600 _ A7.out).mono ?_); rintro e w' ⟨rfl, ⟨nd, rfl⟩⟩) | ((with_reducible refine gate_callee (f := 102) rfl ?_); refine goesL_ (some 25) rfl rfl Try.func102 (by kernel_rfl) rfl #[.int .u64 a1] rfl (by (try simp only [List.map_toArray, List.map_cons, List.map_nil]); first | done | rfl | (simp only [List.length_drop, List.length_take]; rfl)) ?_; (with_reducible refine (node_depth.calls k a1 t601 _ A9.out).mono ?_); rintro e w' ⟨rfl, ⟨nd, rfl⟩⟩; refine ⟨_, rfl, ?_⟩))
          go_ret2
          exact ⟨by first | rfl | (simp; done) | (simp only [← hji10, ← hji12] <;> (first | rfl | simp)) | (simp [*]; done), by repeat (first | exact Drawn0.refl _ | apply Drawn0.step)⟩
        · rw [if_neg c11] at H
          exact absurd H (by simp)
  · rw [if_neg c5] at H
    have c5b0 : (t599 == 0) = false := beq_eq_false_iff_ne.mpr c5
    have c5b1 : (t599 != 0) = true := bne_iff_ne.mpr c5
    simp only [Option.some.injEq, Prod.mk.injEq] at H
    obtain ⟨rfl, rfl⟩ := H
    go_enter Try.func113, Try.ntmps113
    go_wp2_with (first | ((with_reducible refine gate_callee (f := 64) rfl ?_); refine goesL_ (some 11) rfl rfl Try.func64 (by kernel_rfl) rfl #[.int .i64 a0, .int .u64 a1] rfl (by (try simp only [List.map_toArray, List.map_cons, List.map_nil]); first | done | rfl | (simp only [List.length_drop, List.length_take]; rfl)) ?_; (with_reducible refine (node_Check.calls k a0 a1 t599 _ A4.out).mono ?_); rintro e w' ⟨rfl, ⟨nd, rfl⟩⟩; refine ⟨_, rfl, ?_⟩))
    go_ret2
    exact ⟨by first | rfl | (simp; done) | (simp [*]; done), by repeat (first | exact Drawn0.refl _ | apply Drawn0.step)⟩

/-! ### sub_Split: function 74 -/
def sub_Split.f (k : Nat) (a0 : Int) (a1_0 : Int) (a1_1 : Int) : Option ((List (S34)) × Int) := (sub_Useful.f k a0 a1_0 a1_1).bind fun bt603 => (if bt603.2 = 0 then (if bt603.1 = true then (some ((([(⟨a1_0, a1_1⟩ : S34)] : List (S34))), 0)) else (if a1_1 = 0 then (some ((([(⟨a1_0, a1_1⟩ : S34)] : List (S34))), 0)) else ((sub_depths.f k a0 a1_0 a1_1).bind fun bt611 => (if bt611.2.2.2.2 = 0 then ((node_Up.f k a0 a1_1 bt611.2.2.1).bind fun bt616 => (some ((([(⟨a1_0, bt616.1⟩ : S34), (⟨bt616.1, a1_1⟩ : S34)] : List (S34))), bt616.2))) else (some (([] : List (S34)), bt611.2.2.2.2)))))) else (some (([] : List (S34)), bt603.2)))
theorem sub_Split.mono : ∀ a0 a1 a2 k, LeO (sub_Split.f k a0 a1 a2) (sub_Split.f (k + 1) a0 a1 a2) := by
  intro a0 a1 a2 k
  unfold sub_Split.f
  repeat' first
      | (with_reducible exact node_Up.mono _ _ _ _)
      | (with_reducible exact sub_Useful.mono _ _ _ _)
      | (with_reducible exact sub_depths.mono _ _ _ _)
      | (with_reducible exact LeO.refl _)
      | (with_reducible exact LeO.none _)
      | (with_reducible refine LeO.ite ?_ ?_)
      | (with_reducible refine LeO.bind ?_ (fun _ => ?_))
      | exact node_Up.mono _ _ _ _
      | exact sub_Useful.mono _ _ _ _
      | exact sub_depths.mono _ _ _ _
      | exact LeO.none _
      | refine LeO.ite ?_ ?_
      | refine LeO.bind ?_ (fun _ => ?_)
set_option maxHeartbeats 8000000 in
set_option maxRecDepth 100000 in
theorem sub_Split.calls (k : Nat) (a0 : Int) (a1_0 : Int) (a1_1 : Int) (r1 : List (S34)) (r2 : Int) (w : World) (h : sub_Split.f k a0 a1_0 a1_1 = some (r1, r2)) :
    Calls Try.prog 74 #[.int .i64 a0, .agg #[.int .u64 a1_0, .int .u64 a1_1]] w fun e w' => ∃ v0_ : Value, e = .returned (.tuple #[v0_, .int .i64 r2]) ∧ Kd.R k34 34 w' w.heap.size (fun _ => True) v0_ r1 ∧ Below w.heap.size w w' := by
  have hu34 := Try.underlying34
  have HB := Aside0.mk (Below.refl w.heap.size w)
  have H : ((sub_Useful.f k a0 a1_0 a1_1).bind fun bt603 => (if bt603.2 = 0 then (if bt603.1 = true then (some ((([(⟨a1_0, a1_1⟩ : S34)] : List (S34))), 0)) else (if a1_1 = 0 then (some ((([(⟨a1_0, a1_1⟩ : S34)] : List (S34))), 0)) else ((sub_depths.f k a0 a1_0 a1_1).bind fun bt611 => (if bt611.2.2.2.2 = 0 then ((node_Up.f k a0 a1_1 bt611.2.2.1).bind fun bt616 => (some ((([(⟨a1_0, bt616.1⟩ : S34), (⟨bt616.1, a1_1⟩ : S34)] : List (S34))), bt616.2))) else (some (([] : List (S34)), bt611.2.2.2.2)))))) else (some (([] : List (S34)), bt603.2)))) = some (r1, r2) := h
  clear h
  replace H := Option.bind_eq_some_iff.mp H
  obtain ⟨⟨t603, t604⟩, A30, H⟩ := H
  replace H : (if t604 = 0 then (if t603 = true then (some ((([(⟨a1_0, a1_1⟩ : S34)] : List (S34))), 0)) else (if a1_1 = 0 then (some ((([(⟨a1_0, a1_1⟩ : S34)] : List (S34))), 0)) else ((sub_depths.f k a0 a1_0 a1_1).bind fun bt611 => (if bt611.2.2.2.2 = 0 then ((node_Up.f k a0 a1_1 bt611.2.2.1).bind fun bt616 => (some ((([(⟨a1_0, bt616.1⟩ : S34), (⟨bt616.1, a1_1⟩ : S34)] : List (S34))), bt616.2))) else (some (([] : List (S34)), bt611.2.2.2.2)))))) else (some (([] : List (S34)), t604))) = some (r1, r2) := H
  have A3 := Aside0.mk A30
  clear A30
  by_cases c4 : t604 = 0
  · rw [if_pos c4] at H
    have c4b0 : (t604 == 0) = true := beq_iff_eq.mpr c4
    have c4b1 : (t604 != 0) = false := bne_eq_false_iff_eq.mpr c4
    clear c4
    by_cases c5 : t603 = true
    · subst c5
      have H1 : (some ((([(⟨a1_0, a1_1⟩ : S34)] : List (S34))), 0)) = some (r1, r2) := by rw [if_pos rfl] at H; exact H
      clear H
      have H := H1
      clear H1
      obtain ⟨y605, hy605⟩ : ∃ y_ : List (S34), y_ = (([(⟨a1_0, a1_1⟩ : S34)] : List (S34))) := ⟨_, rfl⟩
      replace H : (some (y605, 0)) = some (r1, r2) := by first | (rw [hy605]; with_reducible exact H) | (have H2_ := (Option.bind_some _ _).symm.trans H; rw [hy605]; with_reducible exact H2_) | (have H2_ := (Option.bind_some _ _).symm.trans H; with_reducible exact H2_) | with_reducible exact H | (rw [hy605]; exact H) | exact H
      have Ny605 := Aside0.mk hy605
      clear hy605
      simp only [Option.some.injEq, Prod.mk.injEq] at H
      obtain ⟨rfl, rfl⟩ := H
      go_enter Try.func74, Try.ntmps74
      go_wp2_with (first | ((with_reducible refine gate_dst (N := 3) rfl ?_); refine box_event ?hg (N := 3) ?hd (cs := #[.int .u64 a1_0, .int .u64 a1_1]) (t := 34) ?hr ?_; (case hd => rfl); (case hg => rfl); (case hr => first | (go_simp; done) | (go_simp; rfl)); intro gb602 hg w6 hbox hb; have n0_ := Aside0.mk (below_step (by repeat (first | (with_reducible first | exact HB.out | apply below_alloc | apply pw_below_drewN | apply below_drew1) | exact HB.out)) hb); have n1_ := Aside0.mk (hbox); have n2_ := Aside0.mk ((by rw [hg]; exact (below_size (by repeat (first | (with_reducible first | exact HB.out | apply below_alloc | apply pw_below_drewN | apply below_drew1) | exact HB.out))) : w.heap.size ≤ gb602)); have n3_ := Aside0.mk ((by rw [hg]; exact (below_size (by repeat (first | (with_reducible first | exact HB.out | apply below_alloc | apply pw_below_drewN | apply below_drew1) | exact HB.out))) : w.heap.size ≤ gb602)); clear HB; have HB := n0_; have BK602 := n1_; have GW602 := n2_; have GE602 := n3_; clear n0_ n1_ n2_ n3_; clear hb hbox hg; have hcz7_0 : w6.cell? ⟨gb602, 0, none⟩ = some (.int .u64 a1_0) := (blk_cell BK602.out 0).trans rfl; have hcz7_1 : w6.cell? ⟨gb602, 1, none⟩ = some (.int .u64 a1_1) := (blk_cell BK602.out 1).trans rfl; have hfz7_0 := blk_frozen BK602.out 0; have hfz7_1 := blk_frozen BK602.out 1) | ((with_reducible refine gate_callee (f := 36) rfl ?_); refine goesL_ (some 16) rfl rfl Try.func36 (by kernel_rfl) rfl #[.int .i64 a0, .agg #[.int .u64 a1_0, .int .u64 a1_1]] rfl (by (try simp only [List.map_toArray, List.map_cons, List.map_nil]); first | done | rfl | (simp only [List.length_drop, List.length_take]; rfl)) ?_; (with_reducible refine (sub_Useful.calls k a0 a1_0 a1_1 true t604 _ A3.out).mono ?_); rintro e w8 ⟨rfl, hb⟩; refine ⟨_, rfl, ?_⟩; have n0_ := Aside0.mk (blk_below (g := gb602) (o := .cells #[.int .u64 a1_0, .int .u64 a1_1] 34 (0, 0)) (by (with_reducible repeat (first | refine blk_drewN ?_ _ | refine blk_drew ?_ | refine blk_alloc ?_ _)); exact BK602.out) hb); have n1_ := Aside0.mk (below_step (by repeat (first | (with_reducible first | exact HB.out | apply below_alloc | apply pw_below_drewN | apply below_drew1 | refine below_set ?_ GE602.out) | exact HB.out)) hb); clear BK602; clear HB; have BK602 := n0_; have HB := n1_; clear n0_ n1_; (try clear hb); (try clear hb2); (try clear hk); (try clear hi); have hcz9_0 : w8.cell? ⟨gb602, 0, none⟩ = some (.int .u64 a1_0) := (blk_cell BK602.out 0).trans rfl; have hcz9_1 : w8.cell? ⟨gb602, 1, none⟩ = some (.int .u64 a1_1) := (blk_cell BK602.out 1).trans rfl; have hfz9_0 := blk_frozen BK602.out 0; have hfz9_1 := blk_frozen BK602.out 1) | ((with_reducible refine gate_dst (N := 31) rfl ?_); refine Kd.R_lit k34 _ 34 ?hg (N := 31) ?hd (xs := ([(⟨a1_0, a1_1⟩ : S34)] : List (S34))) (inner := [.int .u64 a1_0, .int .u64 a1_1]) (ok := fun _ => True) (okp := fun _ => True) ?hr ?hp (fun _ hk => hk) trivial (Below.refl _ _) (Nat.le_refl _) (by simp) ?_; (case hd => rfl); (case hg => rfl); (case hr => first | (go_simp; done) | (go_simp; rfl)); (case hp => exact (Reps.c2 (show Kd.M k34 _ _ _ (⟨a1_0, a1_1⟩ : S34) [.int .u64 a1_0, .int .u64 a1_1] from (k34_mkM _ _ _ (⟨a1_0, a1_1⟩ : S34) )) (Reps.none _ _))); intro v606 w10 ho11 hb hg_ hnew_; clear hg_ hnew_; (first | rw [← Ny605.out] at ho11 | (simp only [Int.reduceToNat] at ho11; rw [← Ny605.out] at ho11)); have n0_ := Aside0.mk (Kd.R_lower (Kd.R_newB ho11 (g := gb602) (o := .cells #[.int .u64 a1_0, .int .u64 a1_1] 34 (0, 0)) (by (with_reducible repeat (first | refine blk_drewN ?_ _ | refine blk_drew ?_ | refine blk_alloc ?_ _)); exact BK602.out)) (below_size (by repeat (first | (with_reducible first | exact HB.out | apply below_alloc | apply pw_below_drewN | apply below_drew1 | refine below_set ?_ GE602.out) | exact HB.out)))); have n1_ := Aside0.mk (blk_below (g := gb602) (o := .cells #[.int .u64 a1_0, .int .u64 a1_1] 34 (0, 0)) (by (with_reducible repeat (first | refine blk_drewN ?_ _ | refine blk_drew ?_ | refine blk_alloc ?_ _)); exact BK602.out) hb); have n2_ := Aside0.mk (below_step (by repeat (first | (with_reducible first | exact HB.out | apply below_alloc | apply pw_below_drewN | apply below_drew1 | refine below_set ?_ GE602.out) | exact HB.out)) hb); clear BK602; clear HB; have HO607 := n0_; have BK602 := n1_; have HB := n2_; clear n0_ n1_ n2_; clear hb ho11))
      go_ret2
      exact ⟨_, by first | rfl | (simp [errW_none, errW_some] <;> rfl) | (simp [*, errW_none, errW_some] <;> rfl), by (with_reducible repeat (first | apply Kd.R_alloc | apply Kd.R_drewN | apply Kd.R_drew)); exact Kd.R_mono HO607.out (fun _ hk => trivial), by repeat (first | (with_reducible first | exact HB.out | apply below_alloc | apply pw_below_drewN | apply below_drew1 | refine below_set ?_ GE602.out) | exact HB.out)⟩
    · replace c5 := Bool.eq_false_iff.mpr c5
      subst c5
      have H1 : (if a1_1 = 0 then (some ((([(⟨a1_0, a1_1⟩ : S34)] : List (S34))), 0)) else ((sub_depths.f k a0 a1_0 a1_1).bind fun bt611 => (if bt611.2.2.2.2 = 0 then ((node_Up.f k a0 a1_1 bt611.2.2.1).bind fun bt616 => (some ((([(⟨a1_0, bt616.1⟩ : S34), (⟨bt616.1, a1_1⟩ : S34)] : List (S34))), bt616.2))) else (some (([] : List (S34)), bt611.2.2.2.2))))) = some (r1, r2) := by rw [if_neg (show ¬ (false = true) by decide)] at H; exact H
      clear H
      have H := H1
      clear H1
      by_cases c12 : a1_1 = 0
      · rw [if_pos c12] at H
        have c12b0 : (a1_1 == 0) = true := beq_iff_eq.mpr c12
        have c12b1 : (a1_1 != 0) = false := bne_eq_false_iff_eq.mpr c12
        clear c12
        obtain ⟨y608, hy608⟩ : ∃ y_ : List (S34), y_ = (([(⟨a1_0, a1_1⟩ : S34)] : List (S34))) := ⟨_, rfl⟩
        replace H : (some (y608, 0)) = some (r1, r2) := by first | (rw [hy608]; with_reducible exact H) | (have H2_ := (Option.bind_some _ _).symm.trans H; rw [hy608]; with_reducible exact H2_) | (have H2_ := (Option.bind_some _ _).symm.trans H; with_reducible exact H2_) | with_reducible exact H | (rw [hy608]; exact H) | exact H
        have Ny608 := Aside0.mk hy608
        clear hy608
        simp only [Option.some.injEq, Prod.mk.injEq] at H
        obtain ⟨rfl, rfl⟩ := H
        go_enter Try.func74, Try.ntmps74
        go_wp2_with (first | ((with_reducible refine gate_dst (N := 3) rfl ?_); refine box_event ?hg (N := 3) ?hd (cs := #[.int .u64 a1_0, .int .u64 a1_1]) (t := 34) ?hr ?_; (case hd => rfl); (case hg => rfl); (case hr => first | (go_simp; done) | (go_simp; rfl)); intro gb602 hg w13 hbox hb; have n0_ := Aside0.mk (below_step (by repeat (first | (with_reducible first | exact HB.out | apply below_alloc | apply pw_below_drewN | apply below_drew1) | exact HB.out)) hb); have n1_ := Aside0.mk (hbox); have n2_ := Aside0.mk ((by rw [hg]; exact (below_size (by repeat (first | (with_reducible first | exact HB.out | apply below_alloc | apply pw_below_drewN | apply below_drew1) | exact HB.out))) : w.heap.size ≤ gb602)); have n3_ := Aside0.mk ((by rw [hg]; exact (below_size (by repeat (first | (with_reducible first | exact HB.out | apply below_alloc | apply pw_below_drewN | apply below_drew1) | exact HB.out))) : w.heap.size ≤ gb602)); clear HB; have HB := n0_; have BK602 := n1_; have GW602 := n2_; have GE602 := n3_; clear n0_ n1_ n2_ n3_; clear hb hbox hg; have hcz14_0 : w13.cell? ⟨gb602, 0, none⟩ = some (.int .u64 a1_0) := (blk_cell BK602.out 0).trans rfl; have hcz14_1 : w13.cell? ⟨gb602, 1, none⟩ = some (.int .u64 a1_1) := (blk_cell BK602.out 1).trans rfl; have hfz14_0 := blk_frozen BK602.out 0; have hfz14_1 := blk_frozen BK602.out 1) | ((with_reducible refine gate_callee (f := 36) rfl ?_); refine goesL_ (some 16) rfl rfl Try.func36 (by kernel_rfl) rfl #[.int .i64 a0, .agg #[.int .u64 a1_0, .int .u64 a1_1]] rfl (by (try simp only [List.map_toArray, List.map_cons, List.map_nil]); first | done | rfl | (simp only [List.length_drop, List.length_take]; rfl)) ?_; (with_reducible refine (sub_Useful.calls k a0 a1_0 a1_1 false t604 _ A3.out).mono ?_); rintro e w15 ⟨rfl, hb⟩; refine ⟨_, rfl, ?_⟩; have n0_ := Aside0.mk (blk_below (g := gb602) (o := .cells #[.int .u64 a1_0, .int .u64 a1_1] 34 (0, 0)) (by (with_reducible repeat (first | refine blk_drewN ?_ _ | refine blk_drew ?_ | refine blk_alloc ?_ _)); exact BK602.out) hb); have n1_ := Aside0.mk (below_step (by repeat (first | (with_reducible first | exact HB.out | apply below_alloc | apply pw_below_drewN | apply below_drew1 | refine below_set ?_ GE602.out) | exact HB.out)) hb); clear BK602; clear HB; have BK602 := n0_; have HB := n1_; clear n0_ n1_; (try clear hb); (try clear hb2); (try clear hk); (try clear hi); have hcz16_0 : w15.cell? ⟨gb602, 0, none⟩ = some (.int .u64 a1_0) := (blk_cell BK602.out 0).trans rfl; have hcz16_1 : w15.cell? ⟨gb602, 1, none⟩ = some (.int .u64 a1_1) := (blk_cell BK602.out 1).trans rfl; have hfz16_0 := blk_frozen BK602.out 0; have hfz16_1 := blk_frozen BK602.out 1) | ((with_reducible refine gate_dst (N := 31) rfl ?_); refine Kd.R_lit k34 _ 34 ?hg (N := 31) ?hd (xs := ([(⟨a1_0, a1_1⟩ : S34)] : List (S34))) (inner := [.int .u64 a1_0, .int .u64 a1_1]) (ok := fun _ => True) (okp := fun _ => True) ?hr ?hp (fun _ hk => hk) trivial (Below.refl _ _) (Nat.le_refl _) (by simp) ?_; (case hd => rfl); (case hg => rfl); (case hr => first | (go_simp; done) | (go_simp; rfl)); (case hp => exact (Reps.c2 (show Kd.M k34 _ _ _ (⟨a1_0, a1_1⟩ : S34) [.int .u64 a1_0, .int .u64 a1_1] from (k34_mkM _ _ _ (⟨a1_0, a1_1⟩ : S34) )) (Reps.none _ _))); intro v609 w17 ho18 hb hg_ hnew_; clear hg_ hnew_; (first | rw [← Ny608.out] at ho18 | (simp only [Int.reduceToNat] at ho18; rw [← Ny608.out] at ho18)); have n0_ := Aside0.mk (Kd.R_lower (Kd.R_newB ho18 (g := gb602) (o := .cells #[.int .u64 a1_0, .int .u64 a1_1] 34 (0, 0)) (by (with_reducible repeat (first | refine blk_drewN ?_ _ | refine blk_drew ?_ | refine blk_alloc ?_ _)); exact BK602.out)) (below_size (by repeat (first | (with_reducible first | exact HB.out | apply below_alloc | apply pw_below_drewN | apply below_drew1 | refine below_set ?_ GE602.out) | exact HB.out)))); have n1_ := Aside0.mk (blk_below (g := gb602) (o := .cells #[.int .u64 a1_0, .int .u64 a1_1] 34 (0, 0)) (by (with_reducible repeat (first | refine blk_drewN ?_ _ | refine blk_drew ?_ | refine blk_alloc ?_ _)); exact BK602.out) hb); have n2_ := Aside0.mk (below_step (by repeat (first | (with_reducible first | exact HB.out | apply below_alloc | apply pw_below_drewN | apply below_drew1 | refine below_set ?_ GE602.out) | exact HB.out)) hb); clear BK602; clear HB; have HO610 := n0_; have BK602 := n1_; have HB := n2_; clear n0_ n1_ n2_; clear hb ho18))
        go_ret2
        exact ⟨_, by first | rfl | (simp [errW_none, errW_some] <;> rfl) | (simp [*, errW_none, errW_some] <;> rfl), by (with_reducible repeat (first | apply Kd.R_alloc | apply Kd.R_drewN | apply Kd.R_drew)); exact Kd.R_mono HO610.out (fun _ hk => trivial), by repeat (first | (with_reducible first | exact HB.out | apply below_alloc | apply pw_below_drewN | apply below_drew1 | refine below_set ?_ GE602.out) | exact HB.out)⟩
      · rw [if_neg c12] at H
        have c12b0 : (a1_1 == 0) = false := beq_eq_false_iff_ne.mpr c12
        have c12b1 : (a1_1 != 0) = true := bne_iff_ne.mpr c12
        replace H := Option.bind_eq_some_iff.mp H
        obtain ⟨⟨t611, t612, t613, t614, t615⟩, A190, H⟩ := H
        replace H : (if t615 = 0 then ((node_Up.f k a0 a1_1 t613).bind fun bt616 => (some ((([(⟨a1_0, bt616.1⟩ : S34), (⟨bt616.1, a1_1⟩ : S34)] : List (S34))), bt616.2))) else (some (([] : List (S34)), t615))) = some (r1, r2) := H
        have A19 := Aside0.mk A190
        clear A190
        by_cases c20 : t615 = 0
        · rw [if_pos c20] at H
          have c20b0 : (t615 == 0) = true := beq_iff_eq.mpr c20
          have c20b1 : (t615 != 0) = false := bne_eq_false_iff_eq.mpr c20
          clear c20
          replace H := Option.bind_eq_some_iff.mp H
          obtain ⟨⟨t616, t617⟩, A210, H⟩ := H
          replace H : (some ((([(⟨a1_0, t616⟩ : S34), (⟨t616, a1_1⟩ : S34)] : List (S34))), t617)) = some (r1, r2) := H
          have A21 := Aside0.mk A210
          clear A210
          obtain ⟨y618, hy618⟩ : ∃ y_ : List (S34), y_ = (([(⟨a1_0, t616⟩ : S34), (⟨t616, a1_1⟩ : S34)] : List (S34))) := ⟨_, rfl⟩
          replace H : (some (y618, t617)) = some (r1, r2) := by first | (rw [hy618]; with_reducible exact H) | (have H2_ := (Option.bind_some _ _).symm.trans H; rw [hy618]; with_reducible exact H2_) | (have H2_ := (Option.bind_some _ _).symm.trans H; with_reducible exact H2_) | with_reducible exact H | (rw [hy618]; exact H) | exact H
          have Ny618 := Aside0.mk hy618
          clear hy618
          simp only [Option.some.injEq, Prod.mk.injEq] at H
          obtain ⟨rfl, rfl⟩ := H
          go_enter Try.func74, Try.ntmps74
          go_wp2_with (first | ((with_reducible refine gate_dst (N := 3) rfl ?_); refine box_event ?hg (N := 3) ?hd (cs := #[.int .u64 a1_0, .int .u64 a1_1]) (t := 34) ?hr ?_; (case hd => rfl); (case hg => rfl); (case hr => first | (go_simp; done) | (go_simp; rfl)); intro gb602 hg w22 hbox hb; have n0_ := Aside0.mk (below_step (by repeat (first | (with_reducible first | exact HB.out | apply below_alloc | apply pw_below_drewN | apply below_drew1) | exact HB.out)) hb); have n1_ := Aside0.mk (hbox); have n2_ := Aside0.mk ((by rw [hg]; exact (below_size (by repeat (first | (with_reducible first | exact HB.out | apply below_alloc | apply pw_below_drewN | apply below_drew1) | exact HB.out))) : w.heap.size ≤ gb602)); have n3_ := Aside0.mk ((by rw [hg]; exact (below_size (by repeat (first | (with_reducible first | exact HB.out | apply below_alloc | apply pw_below_drewN | apply below_drew1) | exact HB.out))) : w.heap.size ≤ gb602)); clear HB; have HB := n0_; have BK602 := n1_; have GW602 := n2_; have GE602 := n3_; clear n0_ n1_ n2_ n3_; clear hb hbox hg; have hcz23_0 : w22.cell? ⟨gb602, 0, none⟩ = some (.int .u64 a1_0) := (blk_cell BK602.out 0).trans rfl; have hcz23_1 : w22.cell? ⟨gb602, 1, none⟩ = some (.int .u64 a1_1) := (blk_cell BK602.out 1).trans rfl; have hfz23_0 := blk_frozen BK602.out 0; have hfz23_1 := blk_frozen BK602.out 1) | ((with_reducible refine gate_callee (f := 36) rfl ?_); refine goesL_ (some 16) rfl rfl Try.func36 (by kernel_rfl) rfl #[.int .i64 a0, .agg #[.int .u64 a1_0, .int .u64 a1_1]] rfl (by (try simp only [List.map_toArray, List.map_cons, List.map_nil]); first | done | rfl | (simp only [List.length_drop, List.length_take]; rfl)) ?_; (with_reducible refine (sub_Useful.calls k a0 a1_0 a1_1 false t604 _ A3.out).mono ?_); rintro e w24 ⟨rfl, hb⟩; refine ⟨_, rfl, ?_⟩; have n0_ := Aside0.mk (blk_below (g := gb602) (o := .cells #[.int .u64 a1_0, .int .u64 a1_1] 34 (0, 0)) (by (with_reducible repeat (first | refine blk_drewN ?_ _ | refine blk_drew ?_ | refine blk_alloc ?_ _)); exact BK602.out) hb); have n1_ := Aside0.mk (below_step (by repeat (first | (with_reducible first | exact HB.out | apply below_alloc | apply pw_below_drewN | apply below_drew1 | refine below_set ?_ GE602.out) | exact HB.out)) hb); clear BK602; clear HB; have BK602 := n0_; have HB := n1_; clear n0_ n1_; (try clear hb); (try clear hb2); (try clear hk); (try clear hi); have hcz25_0 : w24.cell? ⟨gb602, 0, none⟩ = some (.int .u64 a1_0) := (blk_cell BK602.out 0).trans rfl; have hcz25_1 : w24.cell? ⟨gb602, 1, none⟩ = some (.int .u64 a1_1) := (blk_cell BK602.out 1).trans rfl; have hfz25_0 := blk_frozen BK602.out 0; have hfz25_1 := blk_frozen BK602.out 1) | ((with_reducible refine gate_callee (f := 76) rfl ?_); refine goesL_ (some 35) rfl rfl Try.func76 (by kernel_rfl) rfl #[.int .i64 a0, .agg #[.int .u64 a1_0, .int .u64 a1_1]] rfl (by (try simp only [List.map_toArray, List.map_cons, List.map_nil]); first | done | rfl | (simp only [List.length_drop, List.length_take]; rfl)) ?_; (with_reducible refine (sub_depths.calls k a0 a1_0 a1_1 t611 t612 t613 t614 t615 _ A19.out).mono ?_); rintro e w26 ⟨rfl, hb⟩; refine ⟨_, rfl, ?_⟩; have n0_ := Aside0.mk (blk_below (g := gb602) (o := .cells #[.int .u64 a1_0, .int .u64 a1_1] 34 (0, 0)) (by (with_reducible repeat (first | refine blk_drewN ?_ _ | refine blk_drew ?_ | refine blk_alloc ?_ _)); exact BK602.out) hb); have n1_ := Aside0.mk (below_step (by repeat (first | (with_reducible first | exact HB.out | apply below_alloc | apply pw_below_drewN | apply below_drew1 | refine below_set ?_ GE602.out) | exact HB.out)) hb); clear BK602; clear HB; have BK602 := n0_; have HB := n1_; clear n0_ n1_; (try clear hb); (try clear hb2); (try clear hk); (try clear hi); have hcz27_0 : w26.cell? ⟨gb602, 0, none⟩ = some (.int .u64 a1_0) := (blk_cell BK602.out 0).trans rfl; have hcz27_1 : w26.cell? ⟨gb602, 1, none⟩ = some (.int .u64 a1_1) := (blk_cell BK602.out 1).trans rfl; have hfz27_0 := blk_frozen BK602.out 0; have hfz27_1 := blk_frozen BK602.out 1) | ((with_reducible refine gate_callee (f := 113) rfl ?_); refine goesL_ (some 49) rfl rfl Try.func113 (by kernel_rfl) rfl #[.int .i64 a0, .int .u64 a1_1, .int .i64 t613] rfl (by (try simp only [List.map_toArray, List.map_cons, List.map_nil]); first | done | rfl | (simp only [List.length_drop, List.length_take]; rfl)) ?_; (with_reducible refine (node_Up.calls k a0 a1_1 t613 t616 t617 _ A21.out).mono ?_); rintro e w' ⟨rfl, ⟨nd, rfl⟩⟩; refine ⟨_, rfl, ?_⟩) | ((with_reducible refine gate_dst (N := 60) rfl ?_); refine Kd.R_lit k34 _ 34 ?hg (N := 60) ?hd (xs := ([(⟨a1_0, t616⟩ : S34), (⟨t616, a1_1⟩ : S34)] : List (S34))) (inner := [.int .u64 a1_0, .int .u64 t616, .int .u64 t616, .int .u64 a1_1]) (ok := fun _ => True) (okp := fun _ => True) ?hr ?hp (fun _ hk => hk) trivial (Below.refl _ _) (Nat.le_refl _) (by simp) ?_; (case hd => rfl); (case hg => rfl); (case hr => first | (go_simp; done) | (go_simp; rfl)); (case hp => exact (Reps.c2 (show Kd.M k34 _ _ _ (⟨a1_0, t616⟩ : S34) [.int .u64 a1_0, .int .u64 t616] from (k34_mkM _ _ _ (⟨a1_0, t616⟩ : S34) )) (Reps.c2 (show Kd.M k34 _ _ _ (⟨t616, a1_1⟩ : S34) [.int .u64 t616, .int .u64 a1_1] from (k34_mkM _ _ _ (⟨t616, a1_1⟩ : S34) )) (Reps.none _ _)))); intro v619 w28 ho29 hb hg_ hnew_; clear hg_ hnew_; (first | rw [← Ny618.out] at ho29 | (simp only [Int.reduceToNat] at ho29; rw [← Ny618.out] at ho29)); have n0_ := Aside0.mk (Kd.R_lower (Kd.R_newB ho29 (g := gb602) (o := .cells #[.int .u64 a1_0, .int .u64 a1_1] 34 (0, 0)) (by (with_reducible repeat (first | refine blk_drewN ?_ _ | refine blk_drew ?_ | refine blk_alloc ?_ _)); exact BK602.out)) (below_size (by repeat (first | (with_reducible first | exact HB.out | apply below_alloc | apply pw_below_drewN | apply below_drew1 | refine below_set ?_ GE602.out) | exact HB.out)))); have n1_ := Aside0.mk (blk_below (g := gb602) (o := .cells #[.int .u64 a1_0, .int .u64 a1_1] 34 (0, 0)) (by (with_reducible repeat (first | refine blk_drewN ?_ _ | refine blk_drew ?_ | refine blk_alloc ?_ _)); exact BK602.out) hb); have n2_ := Aside0.mk (below_step (by repeat (first | (with_reducible first | exact HB.out | apply below_alloc | apply pw_below_drewN | apply below_drew1 | refine below_set ?_ GE602.out) | exact HB.out)) hb); clear BK602; clear HB; have HO620 := n0_; have BK602 := n1_; have HB := n2_; clear n0_ n1_ n2_; clear hb ho29))
          go_ret2
          exact ⟨_, by first | rfl | (simp [errW_none, errW_some] <;> rfl) | (simp [*, errW_none, errW_some] <;> rfl), by (with_reducible repeat (first | apply Kd.R_alloc | apply Kd.R_drewN | apply Kd.R_drew)); exact Kd.R_mono HO620.out (fun _ hk => trivial), by repeat (first | (with_reducible first | exact HB.out | apply below_alloc | apply pw_below_drewN | apply below_drew1 | refine below_set ?_ GE602.out) | exact HB.out)⟩
        · rw [if_neg c20] at H
          have c20b0 : (t615 == 0) = false := beq_eq_false_iff_ne.mpr c20
          have c20b1 : (t615 != 0) = true := bne_iff_ne.mpr c20
          simp only [Option.some.injEq, Prod.mk.injEq] at H
          obtain ⟨rfl, rfl⟩ := H
          go_enter Try.func74, Try.ntmps74
          go_wp2_with (first | ((with_reducible refine gate_dst (N := 3) rfl ?_); refine box_event ?hg (N := 3) ?hd (cs := #[.int .u64 a1_0, .int .u64 a1_1]) (t := 34) ?hr ?_; (case hd => rfl); (case hg => rfl); (case hr => first | (go_simp; done) | (go_simp; rfl)); intro gb602 hg w30 hbox hb; have n0_ := Aside0.mk (below_step (by repeat (first | (with_reducible first | exact HB.out | apply below_alloc | apply pw_below_drewN | apply below_drew1) | exact HB.out)) hb); have n1_ := Aside0.mk (hbox); have n2_ := Aside0.mk ((by rw [hg]; exact (below_size (by repeat (first | (with_reducible first | exact HB.out | apply below_alloc | apply pw_below_drewN | apply below_drew1) | exact HB.out))) : w.heap.size ≤ gb602)); have n3_ := Aside0.mk ((by rw [hg]; exact (below_size (by repeat (first | (with_reducible first | exact HB.out | apply below_alloc | apply pw_below_drewN | apply below_drew1) | exact HB.out))) : w.heap.size ≤ gb602)); clear HB; have HB := n0_; have BK602 := n1_; have GW602 := n2_; have GE602 := n3_; clear n0_ n1_ n2_ n3_; clear hb hbox hg; have hcz31_0 : w30.cell? ⟨gb602, 0, none⟩ = some (.int .u64 a1_0) := (blk_cell BK602.out 0).trans rfl; have hcz31_1 : w30.cell? ⟨gb602, 1, none⟩ = some (.int .u64 a1_1) := (blk_cell BK602.out 1).trans rfl; have hfz31_0 := blk_frozen BK602.out 0; have hfz31_1 := blk_frozen BK602.out 1) | ((with_reducible refine gate_callee (f := 36) rfl ?_); refine goesL_ (some 16) rfl rfl Try.func36 (by kernel_rfl) rfl #[.int .i64 a0, .agg #[.int .u64 a1_0, .int .u64 a1_1]] rfl (by (try simp only [List.map_toArray, List.map_cons, List.map_nil]); first | done | rfl | (simp only [List.length_drop, List.length_take]; rfl)) ?_; (with_reducible refine (sub_Useful.calls k a0 a1_0 a1_1 false t604 _ A3.out).mono ?_); rintro e w32 ⟨rfl, hb⟩; refine ⟨_, rfl, ?_⟩; have n0_ := Aside0.mk (blk_below (g := gb602) (o := .cells #[.int .u64 a1_0, .int .u64 a1_1] 34 (0, 0)) (by (with_reducible repeat (first | refine blk_drewN ?_ _ | refine blk_drew ?_ | refine blk_alloc ?_ _)); exact BK602.out) hb); have n1_ := Aside0.mk (below_step (by repeat (first | (with_reducible first | exact HB.out | apply below_alloc | apply pw_below_drewN | apply below_drew1 | refine below_set ?_ GE602.out) | exact HB.out)) hb); clear BK602; clear HB; have BK602 := n0_; have HB := n1_; clear n0_ n1_; (try clear hb); (try clear hb2); (try clear hk); (try clear hi); have hcz33_0 : w32.cell? ⟨gb602, 0, none⟩ = some (.int .u64 a1_0) := (blk_cell BK602.out 0).trans rfl; have hcz33_1 : w32.cell? ⟨gb602, 1, none⟩ = some (.int .u64 a1_1) := (blk_cell BK602.out 1).trans rfl; have hfz33_0 := blk_frozen BK602.out 0; have hfz33_1 := blk_frozen BK602.out 1) | ((with_reducible refine gate_callee (f := 76) rfl ?_); refine goesL_ (some 35) rfl rfl Try.func76 (by kernel_rfl) rfl #[.int .i64 a0, .agg #[.int .u64 a1_0, .int .u64 a1_1]] rfl (by (try simp only [List.map_toArray, List.map_cons, List.map_nil]); first | done | rfl | (simp only [List.length_drop, List.length_take]; rfl)) ?_; (with_reducible refine (sub_depths.calls k a0 a1_0 a1_1 t611 t612 t613 t614 t615 _ A19.out).mono ?_); rintro e w34 ⟨rfl, hb⟩; refine ⟨_, rfl, ?_⟩; have n0_ := Aside0.mk (blk_below (g := gb602) (o := .cells #[.int .u64 a1_0, .int .u64 a1_1] 34 (0, 0)) (by (with_reducible repeat (first | refine blk_drewN ?_ _ | refine blk_drew ?_ | refine blk_alloc ?_ _)); exact BK602.out) hb); have n1_ := Aside0.mk (below_step (by repeat (first | (with_reducible first | exact HB.out | apply below_alloc | apply pw_below_drewN | apply below_drew1 | refine below_set ?_ GE602.out) | exact HB.out)) hb); clear BK602; clear HB; have BK602 := n0_; have HB := n1_; clear n0_ n1_; (try clear hb); (try clear hb2); (try clear hk); (try clear hi)))
          go_ret2
          exact ⟨_, by first | rfl | (simp [errW_none, errW_some] <;> rfl) | (simp [*, errW_none, errW_some] <;> rfl), by first | exact Kd.R_nil _ _ _ _ _ | exact Kd.N_nil _ _ _ _ _ | exact Kd.V_nil _ _ _ _ _ | exact Kd.Q_nil _ _ _ _ _ | exact Kd.S_nil _ _ _ _ _, by repeat (first | (with_reducible first | exact HB.out | apply below_alloc | apply pw_below_drewN | apply below_drew1 | refine below_set ?_ GE602.out) | exact HB.out)⟩
  · rw [if_neg c4] at H
    have c4b0 : (t604 == 0) = false := beq_eq_false_iff_ne.mpr c4
    have c4b1 : (t604 != 0) = true := bne_iff_ne.mpr c4
    simp only [Option.some.injEq, Prod.mk.injEq] at H
    obtain ⟨rfl, rfl⟩ := H
    go_enter Try.func74, Try.ntmps74
    go_wp2_with (first | ((with_reducible refine gate_dst (N := 3) rfl ?_); refine box_event ?hg (N := 3) ?hd (cs := #[.int .u64 a1_0, .int .u64 a1_1]) (t := 34) ?hr ?_; (case hd => rfl); (case hg => rfl); (case hr => first | (go_simp; done) | (go_simp; rfl)); intro gb602 hg w35 hbox hb; have n0_ := Aside0.mk (below_step (by repeat (first | (with_reducible first | exact HB.out | apply below_alloc | apply pw_below_drewN | apply below_drew1) | exact HB.out)) hb); have n1_ := Aside0.mk (hbox); have n2_ := Aside0.mk ((by rw [hg]; exact (below_size (by repeat (first | (with_reducible first | exact HB.out | apply below_alloc | apply pw_below_drewN | apply below_drew1) | exact HB.out))) : w.heap.size ≤ gb602)); have n3_ := Aside0.mk ((by rw [hg]; exact (below_size (by repeat (first | (with_reducible first | exact HB.out | apply below_alloc | apply pw_below_drewN | apply below_drew1) | exact HB.out))) : w.heap.size ≤ gb602)); clear HB; have HB := n0_; have BK602 := n1_; have GW602 := n2_; have GE602 := n3_; clear n0_ n1_ n2_ n3_; clear hb hbox hg; have hcz36_0 : w35.cell? ⟨gb602, 0, none⟩ = some (.int .u64 a1_0) := (blk_cell BK602.out 0).trans rfl; have hcz36_1 : w35.cell? ⟨gb602, 1, none⟩ = some (.int .u64 a1_1) := (blk_cell BK602.out 1).trans rfl; have hfz36_0 := blk_frozen BK602.out 0; have hfz36_1 := blk_frozen BK602.out 1) | ((with_reducible refine gate_callee (f := 36) rfl ?_); refine goesL_ (some 16) rfl rfl Try.func36 (by kernel_rfl) rfl #[.int .i64 a0, .agg #[.int .u64 a1_0, .int .u64 a1_1]] rfl (by (try simp only [List.map_toArray, List.map_cons, List.map_nil]); first | done | rfl | (simp only [List.length_drop, List.length_take]; rfl)) ?_; (with_reducible refine (sub_Useful.calls k a0 a1_0 a1_1 t603 t604 _ A3.out).mono ?_); rintro e w37 ⟨rfl, hb⟩; refine ⟨_, rfl, ?_⟩; have n0_ := Aside0.mk (blk_below (g := gb602) (o := .cells #[.int .u64 a1_0, .int .u64 a1_1] 34 (0, 0)) (by (with_reducible repeat (first | refine blk_drewN ?_ _ | refine blk_drew ?_ | refine blk_alloc ?_ _)); exact BK602.out) hb); have n1_ := Aside0.mk (below_step (by repeat (first | (with_reducible first | exact HB.out | apply below_alloc | apply pw_below_drewN | apply below_drew1 | refine below_set ?_ GE602.out) | exact HB.out)) hb); clear BK602; clear HB; have BK602 := n0_; have HB := n1_; clear n0_ n1_; (try clear hb); (try clear hb2); (try clear hk); (try clear hi)))
    go_ret2
    exact ⟨_, by first | rfl | (simp [errW_none, errW_some] <;> rfl) | (simp [*, errW_none, errW_some] <;> rfl), by first | exact Kd.R_nil _ _ _ _ _ | exact Kd.N_nil _ _ _ _ _ | exact Kd.V_nil _ _ _ _ _ | exact Kd.Q_nil _ _ _ _ _ | exact Kd.S_nil _ _ _ _ _, by repeat (first | (with_reducible first | exact HB.out | apply below_alloc | apply pw_below_drewN | apply below_drew1 | refine below_set ?_ GE602.out) | exact HB.out)⟩

end Go.Proofs.Ytmffkfakcbopcaa.MP
