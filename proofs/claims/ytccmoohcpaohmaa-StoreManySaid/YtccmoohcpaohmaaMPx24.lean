-- written by a program of this session (wip/tools/mprint.sh) for this seat
import Derived.Test.YtccmoohcpaohmaaMPx0
import Derived.Test.YtccmoohcpaohmaaMPx2
import Derived.Test.YtccmoohcpaohmaaMPx10
import Derived.Maps.OwnSet
import Derived.Maps.OwnOps
import Derived.DeepKeys4
import Derived.Carry
import Derived.WideKeyEntry
import Derived.Deep.Cut
namespace Go.Proofs.Ytccmoohcpaohmaa.MP
open Go.RowKit Go.Proofs.YtccmoohcpaohmaaW.PrintWords Go.Proofs.YtccmoohcpaohmaaW.PrintLast Go.Proofs.YtccmoohcpaohmaaW.PrintMore
attribute [local go_sem] max2_int min2_int max_two min_two max_three min_three max_four min_four   -- for this text's walks alone
set_option linter.unusedVariables false
set_option linter.unusedSimpArgs false

/-! ### layer_Pairs: function 40 -/
def layer_Pairs.l0 : Nat → Int → Int → Int → Int → Int → Option (Int × Int)
  | 0, _, _, _, _, _ => none
  | k + 1, x0, x2, x4, x16, x17 => if x17 < x16 then (if x4 = 0 then (none) else (if (Int.tmod x17 x4) = 0 then (layer_Pairs.l0 k x0 (wrap64 (x2 + (wrap64 (x0 - x17)))) x4 x16 (wrap64 (x17 + 1))) else (layer_Pairs.l0 k x0 (wrap64 (x2 + (wrap64 ((mn (wrap64 ((wrap64 ((wrap64 (Int.tdiv x17 x4)) + 1)) * x4)) x0) - x17)))) x4 x16 (wrap64 (x17 + 1))))) else (some (x2, 0))
def layer_Pairs.f (k : Nat) (a0 : Int) : Option (Int × Int) := (sub_Step.f k a0).bind fun bt525 => (if bt525.2 = 0 then (layer_Pairs.l0 k a0 0 bt525.1 a0 0) else (some (0, bt525.2)))
theorem layer_Pairs.mono_l : ∀ k, (∀ y0 y1 y2 y3 y4, LeO (layer_Pairs.l0 k y0 y1 y2 y3 y4) (layer_Pairs.l0 (k + 1) y0 y1 y2 y3 y4))
  | 0 => fun _ _ _ _ _ r h => by simp [layer_Pairs.l0] at h
  | k + 1 => by
    have ih0 := layer_Pairs.mono_l k
    · intro y0 y1 y2 y3 y4
      unfold layer_Pairs.l0
      repeat' first
      | (with_reducible exact ih0 _ _ _ _ _)
      | (with_reducible exact sub_Step.mono _ _)
      | (with_reducible exact LeO.refl _)
      | (with_reducible exact LeO.none _)
      | (with_reducible refine LeO.ite ?_ ?_)
      | (with_reducible refine LeO.bind ?_ (fun _ => ?_))
      | exact ih0 _ _ _ _ _
      | exact sub_Step.mono _ _
      | exact LeO.none _
      | refine LeO.ite ?_ ?_
      | refine LeO.bind ?_ (fun _ => ?_)
theorem layer_Pairs.mono : ∀ a0 k, LeO (layer_Pairs.f k a0) (layer_Pairs.f (k + 1) a0) := by
  intro a0 k
  have ih0 := layer_Pairs.mono_l k
  unfold layer_Pairs.f
  repeat' first
      | (with_reducible exact ih0 _ _ _ _ _)
      | (with_reducible exact sub_Step.mono _ _)
      | (with_reducible exact LeO.refl _)
      | (with_reducible exact LeO.none _)
      | (with_reducible refine LeO.ite ?_ ?_)
      | (with_reducible refine LeO.bind ?_ (fun _ => ?_))
      | exact ih0 _ _ _ _ _
      | exact sub_Step.mono _ _
      | exact LeO.none _
      | refine LeO.ite ?_ ?_
      | refine LeO.bind ?_ (fun _ => ?_)
set_option maxHeartbeats 8000000 in
set_option maxRecDepth 100000 in
theorem layer_Pairs.calls (k : Nat) (a0 : Int) (r1 : Int) (r2 : Int) (w : World) (h : layer_Pairs.f k a0 = some (r1, r2)) :
    Calls Try.prog 40 #[.int .i64 a0] w fun e w' => e = .returned (.tuple #[.int .i64 r1, .int .i64 r2]) ∧ Below w.heap.size w w' := by
  have HB := Aside0.mk (Below.refl w.heap.size w)
  have H : ((sub_Step.f k a0).bind fun bt525 => (if bt525.2 = 0 then (layer_Pairs.l0 k a0 0 bt525.1 a0 0) else (some (0, bt525.2)))) = some (r1, r2) := h
  clear h
  replace H := Option.bind_eq_some_iff.mp H
  obtain ⟨⟨t525, t526⟩, A20, H⟩ := H
  replace H : (if t526 = 0 then (layer_Pairs.l0 k a0 0 t525 a0 0) else (some (0, t526))) = some (r1, r2) := H
  have A2 := Aside0.mk A20
  clear A20
  by_cases c3 : t526 = 0
  · rw [if_pos c3] at H
    have c3b0 : (t526 == 0) = true := beq_iff_eq.mpr c3
    have c3b1 : (t526 != 0) = false := bne_eq_false_iff_eq.mpr c3
    clear c3
    have H' := Aside0.mk H
    clear H
    go_enter Try.func40, Try.ntmps40
    go_wp2_with (first | ((with_reducible refine gate_callee (f := 15) rfl ?_); refine goesL_ (some 10) rfl rfl Try.func15 (by kernel_rfl) rfl #[.int .i64 a0] rfl (by (try simp only [List.map_toArray, List.map_cons, List.map_nil]); first | done | rfl | (simp only [List.length_drop, List.length_take]; rfl)) ?_; (with_reducible refine (sub_Step.calls k a0 t525 t526 _ A2.out).mono ?_); rintro e w' ⟨rfl, ⟨nd, rfl⟩⟩; refine ⟨_, rfl, ?_⟩))
    go_loopg [2, 17] k (fun kq v2 v17 w' => ∃ (x2_1 : Int) (x17_1 : Int), v2 = .int .i64 x2_1 ∧ v17 = .int .i64 x17_1 ∧ Aside0 (layer_Pairs.l0 kq a0 x2_1 t525 a0 x17_1 = some (r1, r2)) ∧ Aside0 (kq ≤ k) ∧ Aside0 (Below w.heap.size w w'))
    case atStart => exact ⟨(0), (0), (by first | rfl | (simp; done) | (simp [*]; done)), (by first | rfl | (simp; done) | (simp [*]; done)), H', ⟨Nat.le_refl _⟩, ⟨by repeat (first | (with_reducible first | exact HB.out | apply below_alloc | apply pw_below_drewN | apply below_drew1) | exact HB.out)⟩⟩
    case round =>
      clear H'
      try clear c1
      try clear p2
      try clear c3
      try clear c3b0
      try clear c3b1
      obtain ⟨x2_1, x17_1, rfl, rfl, HA, HK1, HB⟩ := hrel
      cases gk with
      | zero => exact absurd HA.out (by simp [layer_Pairs.l0])
      | succ k1 =>
        have H := HA.out
        clear HA
        simp only [layer_Pairs.l0] at H
        by_cases c4 : x17_1 < a0
        · rw [if_pos c4] at H
          have c4b0 : decide (x17_1 < a0) = true := decide_eq_true c4
          clear c4
          by_cases c5 : t525 = 0
          · rw [if_pos c5] at H
            exact absurd H (by simp)
          · rw [if_neg c5] at H
            have c5b0 : (t525 == 0) = false := beq_eq_false_iff_ne.mpr c5
            have c5b1 : (t525 != 0) = true := bne_iff_ne.mpr c5
            obtain ⟨ji6, hji6⟩ : ∃ j_ : Int, (mn (wrap64 ((wrap64 ((wrap64 (Int.tdiv x17_1 t525)) + 1)) * t525)) a0) = j_ := ⟨_, rfl⟩
            replace H : (if (Int.tmod x17_1 t525) = 0 then (layer_Pairs.l0 k1 a0 (wrap64 (x2_1 + (wrap64 (a0 - x17_1)))) t525 a0 (wrap64 (x17_1 + 1))) else (layer_Pairs.l0 k1 a0 (wrap64 (x2_1 + (wrap64 ((ji6) - x17_1)))) t525 a0 (wrap64 (x17_1 + 1)))) = some (r1, r2) := by first | (rw [hji6] at H; exact H) | (simp only [hji6] at H ⊢; exact H)
            have hji6_ : (if a0 < (wrap64 ((wrap64 ((wrap64 (Int.tdiv x17_1 t525)) + 1)) * t525)) then a0 else (wrap64 ((wrap64 ((wrap64 (Int.tdiv x17_1 t525)) + 1)) * t525))) = ji6 := hji6
            by_cases c7 : (Int.tmod x17_1 t525) = 0
            · rw [if_pos c7] at H
              have c7b0 : ((Int.tmod x17_1 t525) == 0) = true := beq_iff_eq.mpr c7
              have c7b1 : ((Int.tmod x17_1 t525) != 0) = false := bne_eq_false_iff_eq.mpr c7
              clear c7
              have H' := Aside0.mk H
              clear H
              go_wp2
              go_roundg k1
              case measure => have := HK1.out; omega
              case rel => exact ⟨(wrap64 (x2_1 + (wrap64 (a0 - x17_1)))), (wrap64 (x17_1 + 1)), (by first | rfl | (simp; done) | (simp [*]; done)), (by first | rfl | (simp; done) | (simp [*]; done)), H', ⟨by have := HK1.out; omega⟩, ⟨by repeat (first | (with_reducible first | exact HB.out | apply below_alloc | apply pw_below_drewN | apply below_drew1) | exact HB.out)⟩⟩
            · rw [if_neg c7] at H
              have c7b0 : ((Int.tmod x17_1 t525) == 0) = false := beq_eq_false_iff_ne.mpr c7
              have c7b1 : ((Int.tmod x17_1 t525) != 0) = true := bne_iff_ne.mpr c7
              have H' := Aside0.mk H
              clear H
              go_wp2
              go_roundg k1
              case measure => have := HK1.out; omega
              case rel => exact ⟨(wrap64 (x2_1 + (wrap64 ((ji6) - x17_1)))), (wrap64 (x17_1 + 1)), (by first | rfl | (simp; done) | (simp only [← hji6] <;> (first | rfl | simp)) | (simp [*]; done)), (by first | rfl | (simp; done) | (simp [*]; done)), H', ⟨by have := HK1.out; omega⟩, ⟨by repeat (first | (with_reducible first | exact HB.out | apply below_alloc | apply pw_below_drewN | apply below_drew1) | exact HB.out)⟩⟩
        · rw [if_neg c4] at H
          have c4b0 : decide (x17_1 < a0) = false := decide_eq_false c4
          clear c4
          simp only [Option.some.injEq, Prod.mk.injEq] at H
          obtain ⟨rfl, rfl⟩ := H
          go_wp2
          go_ret2
          exact ⟨by first | rfl | (simp [errW_none, errW_some] <;> rfl) | (simp [*, errW_none, errW_some] <;> rfl), by repeat (first | (with_reducible first | exact HB.out | apply below_alloc | apply pw_below_drewN | apply below_drew1) | exact HB.out)⟩
  · rw [if_neg c3] at H
    have c3b0 : (t526 == 0) = false := beq_eq_false_iff_ne.mpr c3
    have c3b1 : (t526 != 0) = true := bne_iff_ne.mpr c3
    simp only [Option.some.injEq, Prod.mk.injEq] at H
    obtain ⟨rfl, rfl⟩ := H
    go_enter Try.func40, Try.ntmps40
    go_wp2_with (first | ((with_reducible refine gate_callee (f := 15) rfl ?_); refine goesL_ (some 10) rfl rfl Try.func15 (by kernel_rfl) rfl #[.int .i64 a0] rfl (by (try simp only [List.map_toArray, List.map_cons, List.map_nil]); first | done | rfl | (simp only [List.length_drop, List.length_take]; rfl)) ?_; (with_reducible refine (sub_Step.calls k a0 t525 t526 _ A2.out).mono ?_); rintro e w' ⟨rfl, ⟨nd, rfl⟩⟩; refine ⟨_, rfl, ?_⟩))
    go_ret2
    exact ⟨by first | rfl | (simp [errW_none, errW_some] <;> rfl) | (simp [*, errW_none, errW_some] <;> rfl), by repeat (first | (with_reducible first | exact HB.out | apply below_alloc | apply pw_below_drewN | apply below_drew1) | exact HB.out)⟩

/-! ### store_Many: function 38 -/
def store_Many.f (k : Nat) (a0 : Int) (a1 : Int) : Option (Int × Int) := (layer_Pairs.f k a0).bind fun bt527 => (if bt527.2 = 0 then (if a1 = 1 then (some (wrap64 (a0 + 1), 0)) else (if a1 = 2 then (some (wrap64 ((wrap64 (Int.tdiv (wrap64 (a0 * (wrap64 (a0 + 1)))) 2)) + 1), 0)) else (if a1 = 3 then (some (wrap64 (bt527.1 + 1), 0)) else (some (0, 1))))) else (some (0, bt527.2)))
theorem store_Many.mono : ∀ a0 a1 k, LeO (store_Many.f k a0 a1) (store_Many.f (k + 1) a0 a1) := by
  intro a0 a1 k
  unfold store_Many.f
  repeat' first
      | (with_reducible exact layer_Pairs.mono _ _)
      | (with_reducible exact LeO.refl _)
      | (with_reducible exact LeO.none _)
      | (with_reducible refine LeO.ite ?_ ?_)
      | (with_reducible refine LeO.bind ?_ (fun _ => ?_))
      | exact layer_Pairs.mono _ _
      | exact LeO.none _
      | refine LeO.ite ?_ ?_
      | refine LeO.bind ?_ (fun _ => ?_)
set_option maxHeartbeats 8000000 in
set_option maxRecDepth 100000 in
theorem store_Many.calls (k : Nat) (a0 : Int) (a1 : Int) (r1 : Int) (r2 : Int) (w : World) (h : store_Many.f k a0 a1 = some (r1, r2)) :
    Calls Try.prog 38 #[.int .i64 a0, .int .i64 a1] w fun e w' => e = .returned (.tuple #[.int .i64 r1, .int .i64 r2]) ∧ Below w.heap.size w w' := by
  have HB := Aside0.mk (Below.refl w.heap.size w)
  have H : ((layer_Pairs.f k a0).bind fun bt527 => (if bt527.2 = 0 then (if a1 = 1 then (some (wrap64 (a0 + 1), 0)) else (if a1 = 2 then (some (wrap64 ((wrap64 (Int.tdiv (wrap64 (a0 * (wrap64 (a0 + 1)))) 2)) + 1), 0)) else (if a1 = 3 then (some (wrap64 (bt527.1 + 1), 0)) else (some (0, 1))))) else (some (0, bt527.2)))) = some (r1, r2) := h
  clear h
  replace H := Option.bind_eq_some_iff.mp H
  obtain ⟨⟨t527, t528⟩, A30, H⟩ := H
  replace H : (if t528 = 0 then (if a1 = 1 then (some (wrap64 (a0 + 1), 0)) else (if a1 = 2 then (some (wrap64 ((wrap64 (Int.tdiv (wrap64 (a0 * (wrap64 (a0 + 1)))) 2)) + 1), 0)) else (if a1 = 3 then (some (wrap64 (t527 + 1), 0)) else (some (0, 1))))) else (some (0, t528))) = some (r1, r2) := H
  have A3 := Aside0.mk A30
  clear A30
  by_cases c4 : t528 = 0
  · rw [if_pos c4] at H
    have c4b0 : (t528 == 0) = true := beq_iff_eq.mpr c4
    have c4b1 : (t528 != 0) = false := bne_eq_false_iff_eq.mpr c4
    clear c4
    by_cases c5 : a1 = 1
    · rw [if_pos c5] at H
      have c5b0 : (a1 == 1) = true := beq_iff_eq.mpr c5
      have c5b1 : (a1 != 1) = false := bne_eq_false_iff_eq.mpr c5
      clear c5
      simp only [Option.some.injEq, Prod.mk.injEq] at H
      obtain ⟨rfl, rfl⟩ := H
      go_enter Try.func38, Try.ntmps38
      go_wp2_with (first | ((with_reducible refine gate_callee (f := 40) rfl ?_); refine goesL_ (some 10) rfl rfl Try.func40 (by kernel_rfl) rfl #[.int .i64 a0] rfl (by (try simp only [List.map_toArray, List.map_cons, List.map_nil]); first | done | rfl | (simp only [List.length_drop, List.length_take]; rfl)) ?_; (with_reducible refine (layer_Pairs.calls k a0 t527 t528 _ A3.out).mono ?_); rintro e w6 ⟨rfl, hb⟩; refine ⟨_, rfl, ?_⟩; have n0_ := Aside0.mk (below_step (by repeat (first | (with_reducible first | exact HB.out | apply below_alloc | apply pw_below_drewN | apply below_drew1) | exact HB.out)) hb); clear HB; have HB := n0_; clear n0_; (try clear hb); (try clear hb2); (try clear hk); (try clear hi)))
      go_ret2
      exact ⟨by first | rfl | (simp [errW_none, errW_some] <;> rfl) | (simp [*, errW_none, errW_some] <;> rfl), by repeat (first | (with_reducible first | exact HB.out | apply below_alloc | apply pw_below_drewN | apply below_drew1) | exact HB.out)⟩
    · rw [if_neg c5] at H
      have c5b0 : (a1 == 1) = false := beq_eq_false_iff_ne.mpr c5
      have c5b1 : (a1 != 1) = true := bne_iff_ne.mpr c5
      by_cases c7 : a1 = 2
      · rw [if_pos c7] at H
        have c7b0 : (a1 == 2) = true := beq_iff_eq.mpr c7
        have c7b1 : (a1 != 2) = false := bne_eq_false_iff_eq.mpr c7
        clear c7
        simp only [Option.some.injEq, Prod.mk.injEq] at H
        obtain ⟨rfl, rfl⟩ := H
        go_enter Try.func38, Try.ntmps38
        go_wp2_with (first | ((with_reducible refine gate_callee (f := 40) rfl ?_); refine goesL_ (some 10) rfl rfl Try.func40 (by kernel_rfl) rfl #[.int .i64 a0] rfl (by (try simp only [List.map_toArray, List.map_cons, List.map_nil]); first | done | rfl | (simp only [List.length_drop, List.length_take]; rfl)) ?_; (with_reducible refine (layer_Pairs.calls k a0 t527 t528 _ A3.out).mono ?_); rintro e w8 ⟨rfl, hb⟩; refine ⟨_, rfl, ?_⟩; have n0_ := Aside0.mk (below_step (by repeat (first | (with_reducible first | exact HB.out | apply below_alloc | apply pw_below_drewN | apply below_drew1) | exact HB.out)) hb); clear HB; have HB := n0_; clear n0_; (try clear hb); (try clear hb2); (try clear hk); (try clear hi)))
        go_ret2
        exact ⟨by first | rfl | (simp [errW_none, errW_some] <;> rfl) | (simp [*, errW_none, errW_some] <;> rfl), by repeat (first | (with_reducible first | exact HB.out | apply below_alloc | apply pw_below_drewN | apply below_drew1) | exact HB.out)⟩
      · rw [if_neg c7] at H
        have c7b0 : (a1 == 2) = false := beq_eq_false_iff_ne.mpr c7
        have c7b1 : (a1 != 2) = true := bne_iff_ne.mpr c7
        by_cases c9 : a1 = 3
        · rw [if_pos c9] at H
          have c9b0 : (a1 == 3) = true := beq_iff_eq.mpr c9
          have c9b1 : (a1 != 3) = false := bne_eq_false_iff_eq.mpr c9
          clear c9
          simp only [Option.some.injEq, Prod.mk.injEq] at H
          obtain ⟨rfl, rfl⟩ := H
          go_enter Try.func38, Try.ntmps38
          go_wp2_with (first | ((with_reducible refine gate_callee (f := 40) rfl ?_); refine goesL_ (some 10) rfl rfl Try.func40 (by kernel_rfl) rfl #[.int .i64 a0] rfl (by (try simp only [List.map_toArray, List.map_cons, List.map_nil]); first | done | rfl | (simp only [List.length_drop, List.length_take]; rfl)) ?_; (with_reducible refine (layer_Pairs.calls k a0 t527 t528 _ A3.out).mono ?_); rintro e w10 ⟨rfl, hb⟩; refine ⟨_, rfl, ?_⟩; have n0_ := Aside0.mk (below_step (by repeat (first | (with_reducible first | exact HB.out | apply below_alloc | apply pw_below_drewN | apply below_drew1) | exact HB.out)) hb); clear HB; have HB := n0_; clear n0_; (try clear hb); (try clear hb2); (try clear hk); (try clear hi)))
          go_ret2
          exact ⟨by first | rfl | (simp [errW_none, errW_some] <;> rfl) | (simp [*, errW_none, errW_some] <;> rfl), by repeat (first | (with_reducible first | exact HB.out | apply below_alloc | apply pw_below_drewN | apply below_drew1) | exact HB.out)⟩
        · rw [if_neg c9] at H
          have c9b0 : (a1 == 3) = false := beq_eq_false_iff_ne.mpr c9
          have c9b1 : (a1 != 3) = true := bne_iff_ne.mpr c9
          simp only [Option.some.injEq, Prod.mk.injEq] at H
          obtain ⟨rfl, rfl⟩ := H
          go_enter Try.func38, Try.ntmps38
          go_wp2_with (first | ((with_reducible refine gate_callee (f := 40) rfl ?_); refine goesL_ (some 10) rfl rfl Try.func40 (by kernel_rfl) rfl #[.int .i64 a0] rfl (by (try simp only [List.map_toArray, List.map_cons, List.map_nil]); first | done | rfl | (simp only [List.length_drop, List.length_take]; rfl)) ?_; (with_reducible refine (layer_Pairs.calls k a0 t527 t528 _ A3.out).mono ?_); rintro e w11 ⟨rfl, hb⟩; refine ⟨_, rfl, ?_⟩; have n0_ := Aside0.mk (below_step (by repeat (first | (with_reducible first | exact HB.out | apply below_alloc | apply pw_below_drewN | apply below_drew1) | exact HB.out)) hb); clear HB; have HB := n0_; clear n0_; (try clear hb); (try clear hb2); (try clear hk); (try clear hi)))
          go_ret2
          exact ⟨by first | rfl | (simp [errW_none, errW_some] <;> rfl) | (simp [*, errW_none, errW_some] <;> rfl), by repeat (first | (with_reducible first | exact HB.out | apply below_alloc | apply pw_below_drewN | apply below_drew1) | exact HB.out)⟩
  · rw [if_neg c4] at H
    have c4b0 : (t528 == 0) = false := beq_eq_false_iff_ne.mpr c4
    have c4b1 : (t528 != 0) = true := bne_iff_ne.mpr c4
    simp only [Option.some.injEq, Prod.mk.injEq] at H
    obtain ⟨rfl, rfl⟩ := H
    go_enter Try.func38, Try.ntmps38
    go_wp2_with (first | ((with_reducible refine gate_callee (f := 40) rfl ?_); refine goesL_ (some 10) rfl rfl Try.func40 (by kernel_rfl) rfl #[.int .i64 a0] rfl (by (try simp only [List.map_toArray, List.map_cons, List.map_nil]); first | done | rfl | (simp only [List.length_drop, List.length_take]; rfl)) ?_; (with_reducible refine (layer_Pairs.calls k a0 t527 t528 _ A3.out).mono ?_); rintro e w12 ⟨rfl, hb⟩; refine ⟨_, rfl, ?_⟩; have n0_ := Aside0.mk (below_step (by repeat (first | (with_reducible first | exact HB.out | apply below_alloc | apply pw_below_drewN | apply below_drew1) | exact HB.out)) hb); clear HB; have HB := n0_; clear n0_; (try clear hb); (try clear hb2); (try clear hk); (try clear hi)))
    go_ret2
    exact ⟨by first | rfl | (simp [errW_none, errW_some] <;> rfl) | (simp [*, errW_none, errW_some] <;> rfl), by repeat (first | (with_reducible first | exact HB.out | apply below_alloc | apply pw_below_drewN | apply below_drew1) | exact HB.out)⟩

/-! ### store_Pairs: function 36 -/
mutual
def store_Pairs.j0 : Nat → Int → Int → Int → Int → Bool → Option ((List (S24)) × Int)
  | 0, _, _, _, _, _ => none
  | k + 1, x0, x1, x8, x10, x36 => if x36 = true then (some (([] : List (S24)), 1)) else (if 0 ≤ x8 then (if (x8 : Int).toNat ≤ 17592186044416 then ((some (List.replicate 0 z24 : List (S24))).bind fun y533 => (if x1 = 1 then (store_Pairs.l0 k x0 x10 y533 (wrap64 (x0 + 1)) 0) else (if y533.length < 8796093022208 then (store_Pairs.l1 k x0 x1 x10 (y533 ++ [(⟨1, 0⟩ : S24)]) x0 0) else (none)))) else (none)) else (none))
def store_Pairs.l0 : Nat → Int → Int → List (S24) → Int → Int → Option ((List (S24)) × Int)
  | 0, _, _, _, _, _ => none
  | k + 1, x0, x10, x12, x42, x43 => if x43 < x42 then (if 0 ≤ (wrap64 (x0 - x43)) then (if x12.length < 8796093022208 then (store_Pairs.l0 k x0 x10 (x12 ++ [(⟨shr .u64 x10 (wrap64 (x0 - x43)), 0⟩ : S24)]) x42 (wrap64 (x43 + 1))) else (none)) else (none)) else (some (x12, 0))
def store_Pairs.l1 : Nat → Int → Int → Int → List (S24) → Int → Int → Option ((List (S24)) × Int)
  | 0, _, _, _, _, _, _ => none
  | k + 1, x0, x1, x10, x12, x61, x62 => if x62 < x61 then (store_Pairs.l2 k x0 x1 x10 x12 x62 (wrap64 (x62 + 1)) x61 x62) else (some (x12, 0))
def store_Pairs.l2 : Nat → Int → Int → Int → List (S24) → Int → Int → Int → Int → Option ((List (S24)) × Int)
  | 0, _, _, _, _, _, _, _, _ => none
  | k + 1, x0, x1, x10, x12, x14, x15, x61, x62 => if x15 ≤ x0 then (if 0 ≤ (wrap64 (x0 - x14)) then (if 0 ≤ (wrap64 (x0 - x15)) then (if x1 = 3 then ((sub_Useful.f k x0 (shr .u64 x10 (wrap64 (x0 - x14))) (Go.bits .xor .u64 (shr .u64 x10 (wrap64 (x0 - x15))) 1)).bind fun bt543 => (if bt543.2 = 0 then (if bt543.1 = true then (if x12.length < 8796093022208 then (store_Pairs.l2 k x0 x1 x10 (x12 ++ [(⟨shr .u64 x10 (wrap64 (x0 - x14)), Go.bits .xor .u64 (shr .u64 x10 (wrap64 (x0 - x15))) 1⟩ : S24)]) x14 (wrap64 (x15 + 1)) x61 x62) else (none)) else (store_Pairs.l2 k x0 x1 x10 x12 x14 (wrap64 (x15 + 1)) x61 x62)) else (store_Pairs.l2 k x0 x1 x10 x12 x14 (wrap64 (x15 + 1)) x61 x62))) else (if x12.length < 8796093022208 then (store_Pairs.l2 k x0 x1 x10 (x12 ++ [(⟨shr .u64 x10 (wrap64 (x0 - x14)), Go.bits .xor .u64 (shr .u64 x10 (wrap64 (x0 - x15))) 1⟩ : S24)]) x14 (wrap64 (x15 + 1)) x61 x62) else (none))) else (none)) else (none)) else (store_Pairs.l1 k x0 x1 x10 x12 x61 (wrap64 (x62 + 1)))
end
def store_Pairs.f (k : Nat) (a0 : Int) (a1 : Int) (a2 : Int) : Option ((List (S24)) × Int) := (store_Many.f k a0 a1).bind fun bt529 => ((node_Leaf.f a0 a2).bind fun bt531 => (if bt529.2 = 0 then (store_Pairs.j0 k a0 a1 bt529.1 bt531.1 (bt531.2 != 0)) else (store_Pairs.j0 k a0 a1 bt529.1 bt531.1 true)))
theorem store_Pairs.mono_l : ∀ k, (∀ y0 y1 y2 y3 y4, LeO (store_Pairs.j0 k y0 y1 y2 y3 y4) (store_Pairs.j0 (k + 1) y0 y1 y2 y3 y4)) ∧ (∀ y0 y1 y2 y3 y4, LeO (store_Pairs.l0 k y0 y1 y2 y3 y4) (store_Pairs.l0 (k + 1) y0 y1 y2 y3 y4)) ∧ (∀ y0 y1 y2 y3 y4 y5, LeO (store_Pairs.l1 k y0 y1 y2 y3 y4 y5) (store_Pairs.l1 (k + 1) y0 y1 y2 y3 y4 y5)) ∧ (∀ y0 y1 y2 y3 y4 y5 y6 y7, LeO (store_Pairs.l2 k y0 y1 y2 y3 y4 y5 y6 y7) (store_Pairs.l2 (k + 1) y0 y1 y2 y3 y4 y5 y6 y7))
  | 0 => ⟨fun _ _ _ _ _ r h => by simp [store_Pairs.j0] at h, fun _ _ _ _ _ r h => by simp [store_Pairs.l0] at h, fun _ _ _ _ _ _ r h => by simp [store_Pairs.l1] at h, fun _ _ _ _ _ _ _ _ r h => by simp [store_Pairs.l2] at h⟩
  | k + 1 => by
    obtain ⟨ih0, ih1, ih2, ih3⟩ := store_Pairs.mono_l k
    refine ⟨?_, ?_, ?_, ?_⟩
    · intro y0 y1 y2 y3 y4
      unfold store_Pairs.j0
      repeat' first
      | (with_reducible exact ih0 _ _ _ _ _)
      | (with_reducible exact ih1 _ _ _ _ _)
      | (with_reducible exact ih2 _ _ _ _ _ _)
      | (with_reducible exact ih3 _ _ _ _ _ _ _ _)
      | (with_reducible exact store_Many.mono _ _ _)
      | (with_reducible exact sub_Useful.mono _ _ _ _)
      | (with_reducible exact LeO.refl _)
      | (with_reducible exact LeO.none _)
      | (with_reducible refine LeO.ite ?_ ?_)
      | (with_reducible refine LeO.bind ?_ (fun _ => ?_))
      | exact ih0 _ _ _ _ _
      | exact ih1 _ _ _ _ _
      | exact ih2 _ _ _ _ _ _
      | exact ih3 _ _ _ _ _ _ _ _
      | exact store_Many.mono _ _ _
      | exact sub_Useful.mono _ _ _ _
      | exact LeO.none _
      | refine LeO.ite ?_ ?_
      | refine LeO.bind ?_ (fun _ => ?_)
    · intro y0 y1 y2 y3 y4
      unfold store_Pairs.l0
      repeat' first
      | (with_reducible exact ih0 _ _ _ _ _)
      | (with_reducible exact ih1 _ _ _ _ _)
      | (with_reducible exact ih2 _ _ _ _ _ _)
      | (with_reducible exact ih3 _ _ _ _ _ _ _ _)
      | (with_reducible exact store_Many.mono _ _ _)
      | (with_reducible exact sub_Useful.mono _ _ _ _)
      | (with_reducible exact LeO.refl _)
      | (with_reducible exact LeO.none _)
      | (with_reducible refine LeO.ite ?_ ?_)
      | (with_reducible refine LeO.bind ?_ (fun _ => ?_))
      | exact ih0 _ _ _ _ _
      | exact ih1 _ _ _ _ _
      | exact ih2 _ _ _ _ _ _
      | exact ih3 _ _ _ _ _ _ _ _
      | exact store_Many.mono _ _ _
      | exact sub_Useful.mono _ _ _ _
      | exact LeO.none _
      | refine LeO.ite ?_ ?_
      | refine LeO.bind ?_ (fun _ => ?_)
    · intro y0 y1 y2 y3 y4 y5
      unfold store_Pairs.l1
      repeat' first
      | (with_reducible exact ih0 _ _ _ _ _)
      | (with_reducible exact ih1 _ _ _ _ _)
      | (with_reducible exact ih2 _ _ _ _ _ _)
      | (with_reducible exact ih3 _ _ _ _ _ _ _ _)
      | (with_reducible exact store_Many.mono _ _ _)
      | (with_reducible exact sub_Useful.mono _ _ _ _)
      | (with_reducible exact LeO.refl _)
      | (with_reducible exact LeO.none _)
      | (with_reducible refine LeO.ite ?_ ?_)
      | (with_reducible refine LeO.bind ?_ (fun _ => ?_))
      | exact ih0 _ _ _ _ _
      | exact ih1 _ _ _ _ _
      | exact ih2 _ _ _ _ _ _
      | exact ih3 _ _ _ _ _ _ _ _
      | exact store_Many.mono _ _ _
      | exact sub_Useful.mono _ _ _ _
      | exact LeO.none _
      | refine LeO.ite ?_ ?_
      | refine LeO.bind ?_ (fun _ => ?_)
    · intro y0 y1 y2 y3 y4 y5 y6 y7
      unfold store_Pairs.l2
      repeat' first
      | (with_reducible exact ih0 _ _ _ _ _)
      | (with_reducible exact ih1 _ _ _ _ _)
      | (with_reducible exact ih2 _ _ _ _ _ _)
      | (with_reducible exact ih3 _ _ _ _ _ _ _ _)
      | (with_reducible exact store_Many.mono _ _ _)
      | (with_reducible exact sub_Useful.mono _ _ _ _)
      | (with_reducible exact LeO.refl _)
      | (with_reducible exact LeO.none _)
      | (with_reducible refine LeO.ite ?_ ?_)
      | (with_reducible refine LeO.bind ?_ (fun _ => ?_))
      | exact ih0 _ _ _ _ _
      | exact ih1 _ _ _ _ _
      | exact ih2 _ _ _ _ _ _
      | exact ih3 _ _ _ _ _ _ _ _
      | exact store_Many.mono _ _ _
      | exact sub_Useful.mono _ _ _ _
      | exact LeO.none _
      | refine LeO.ite ?_ ?_
      | refine LeO.bind ?_ (fun _ => ?_)
theorem store_Pairs.mono : ∀ a0 a1 a2 k, LeO (store_Pairs.f k a0 a1 a2) (store_Pairs.f (k + 1) a0 a1 a2) := by
  intro a0 a1 a2 k
  obtain ⟨ih0, ih1, ih2, ih3⟩ := store_Pairs.mono_l k
  unfold store_Pairs.f
  repeat' first
      | (with_reducible exact ih0 _ _ _ _ _)
      | (with_reducible exact ih1 _ _ _ _ _)
      | (with_reducible exact ih2 _ _ _ _ _ _)
      | (with_reducible exact ih3 _ _ _ _ _ _ _ _)
      | (with_reducible exact store_Many.mono _ _ _)
      | (with_reducible exact sub_Useful.mono _ _ _ _)
      | (with_reducible exact LeO.refl _)
      | (with_reducible exact LeO.none _)
      | (with_reducible refine LeO.ite ?_ ?_)
      | (with_reducible refine LeO.bind ?_ (fun _ => ?_))
      | exact ih0 _ _ _ _ _
      | exact ih1 _ _ _ _ _
      | exact ih2 _ _ _ _ _ _
      | exact ih3 _ _ _ _ _ _ _ _
      | exact store_Many.mono _ _ _
      | exact sub_Useful.mono _ _ _ _
      | exact LeO.none _
      | refine LeO.ite ?_ ?_
      | refine LeO.bind ?_ (fun _ => ?_)
def store_Pairs.T20 : Bool × List (List Nat × List Nat) := (true, [([], []), ([], []), ([], []), ([1, 2], [1, 2]), ([0, 3], [0, 3]), ([], []), ([], []), ([], []), ([6, 7], [6, 7]), ([5, 8], [5, 8]), ([9], [9]), ([4, 10], [4, 10]), ([], []), ([12, 11, 0, 1, 2, 3, 4, 5, 6, 7, 8, 9, 10, 11, 12], [11, 12])])
def store_Pairs.B20 : List Nat := [0, 0, 0, 6, 15, 0, 0, 0, 192, 480, 992, 2047, 0, 8191]
theorem store_Pairs.tab20 : rtab .any (opsOf Try.f36 20) = store_Pairs.T20 := by kernel_rfl
theorem store_Pairs.bits20 : waitsOk store_Pairs.T20.2 store_Pairs.B20 = true := by kernel_rfl
set_option maxHeartbeats 8000000 in
set_option maxRecDepth 100000 in
theorem store_Pairs.calls (k : Nat) (a0 : Int) (a1 : Int) (a2 : Int) (r1 : List (S24)) (r2 : Int) (w : World) (h : store_Pairs.f k a0 a1 a2 = some (r1, r2)) :
    Calls Try.prog 36 #[.int .i64 a0, .int .i64 a1, .int .u64 a2] w fun e w' => ∃ v0_ : Value, e = .returned (.tuple #[v0_, .int .i64 r2]) ∧ Kd.R k24 24 w' w.heap.size (fun _ => True) v0_ r1 ∧ Below w.heap.size w w' := by
  have hu24 := Try.underlying24
  have HB := Aside0.mk (Below.refl w.heap.size w)
  have H : ((store_Many.f k a0 a1).bind fun bt529 => ((node_Leaf.f a0 a2).bind fun bt531 => (if bt529.2 = 0 then (store_Pairs.j0 k a0 a1 bt529.1 bt531.1 (bt531.2 != 0)) else (store_Pairs.j0 k a0 a1 bt529.1 bt531.1 true)))) = some (r1, r2) := h
  clear h
  replace H := Option.bind_eq_some_iff.mp H
  obtain ⟨⟨t529, t530⟩, A40, H⟩ := H
  replace H : ((node_Leaf.f a0 a2).bind fun bt531 => (if t530 = 0 then (store_Pairs.j0 k a0 a1 t529 bt531.1 (bt531.2 != 0)) else (store_Pairs.j0 k a0 a1 t529 bt531.1 true))) = some (r1, r2) := H
  have A4 := Aside0.mk A40
  clear A40
  replace H := Option.bind_eq_some_iff.mp H
  obtain ⟨⟨t531, t532⟩, A50, H⟩ := H
  replace H : (if t530 = 0 then (store_Pairs.j0 k a0 a1 t529 t531 (t532 != 0)) else (store_Pairs.j0 k a0 a1 t529 t531 true)) = some (r1, r2) := H
  have A5 := Aside0.mk A50
  clear A50
  have HC6 := Aside0.mk H
  clear H
  go_enter Try.func36, Try.ntmps36
  go_upto_region 3 with (first | ((with_reducible refine gate_callee (f := 38) rfl ?_); refine goesL_ (some 22) rfl rfl Try.func38 (by kernel_rfl) rfl #[.int .i64 a0, .int .i64 a1] rfl (by (try simp only [List.map_toArray, List.map_cons, List.map_nil]); first | done | rfl | (simp only [List.length_drop, List.length_take]; rfl)) ?_; (with_reducible refine (store_Many.calls k a0 a1 t529 t530 _ A4.out).mono ?_); rintro e w7 ⟨rfl, hb⟩; refine ⟨_, rfl, ?_⟩; have n0_ := Aside0.mk (below_step (by repeat (first | (with_reducible first | exact HB.out | apply below_alloc | apply pw_below_drewN | apply below_drew1) | exact HB.out)) hb); clear HB; have HB := n0_; clear n0_; (try clear hb); (try clear hb2); (try clear hk); (try clear hi)) | ((with_reducible refine gate_callee (f := 61) rfl ?_); refine goesL_ (some 28) rfl rfl Try.func61 (by kernel_rfl) rfl #[.int .i64 a0, .int .u64 a2] rfl (by (try simp only [List.map_toArray, List.map_cons, List.map_nil]); first | done | rfl | (simp only [List.length_drop, List.length_take]; rfl)) ?_; (with_reducible refine (node_Leaf.calls a0 a2 t531 t532 _ A5.out).mono ?_); rintro e w' ⟨rfl, ⟨nd, rfl⟩⟩; refine ⟨_, rfl, ?_⟩))
  (try simp only [Act.put, List.setIfInBounds_toArray, List.set_cons_zero, List.set_cons_succ])
  go_cut [36] (fun v36 wc => ∃ (kq : Nat) (x36_5 : Bool), v36 = .bool x36_5 ∧ Aside0 (store_Pairs.j0 kq a0 a1 t529 t531 x36_5 = some (r1, r2)) ∧ Aside0 (kq ≤ k) ∧ Aside0 (Below w.heap.size w wc))
  case first =>
    have H := HC6.out
    clear HC6
    by_cases c8 : t530 = 0
    · rw [if_pos c8] at H
      have c8b0 : (t530 == 0) = true := beq_iff_eq.mpr c8
      have c8b1 : (t530 != 0) = false := bne_eq_false_iff_eq.mpr c8
      clear c8
      (first | rw [c8b0] | (simp only [i64_w, i32_w]; rw [c8b0]) | skip)
      have H' := Aside0.mk H
      clear H
      go_wp2
      go_meet
      case rel => exact ⟨_, ((t532 != 0)), (by first | rfl | (simp; done) | (simp [*]; done)), H', ⟨by first | omega | exact Nat.le_refl _⟩, ⟨by repeat (first | (with_reducible first | exact HB.out | apply below_alloc | apply pw_below_drewN | apply below_drew1) | exact HB.out)⟩⟩
    · rw [if_neg c8] at H
      have c8b0 : (t530 == 0) = false := beq_eq_false_iff_ne.mpr c8
      have c8b1 : (t530 != 0) = true := bne_iff_ne.mpr c8
      (first | rw [c8b0] | (simp only [i64_w, i32_w]; rw [c8b0]) | skip)
      have H' := Aside0.mk H
      clear H
      go_wp2
      go_meet
      case rel => exact ⟨_, (true), (by first | rfl | (simp; done) | (simp [*]; done)), H', ⟨by first | omega | exact Nat.le_refl _⟩, ⟨by repeat (first | (with_reducible first | exact HB.out | apply below_alloc | apply pw_below_drewN | apply below_drew1) | exact HB.out)⟩⟩
  case rest =>
    clear HC6
    try clear p2
    try clear c3
    try clear c6
    try clear c8
    try clear c8b0
    try clear c8b1
    obtain ⟨kq, x36_5, rfl, HA, HJ5, HB⟩ := hcut
    cases kq with
    | zero => exact absurd HA.out (by simp [store_Pairs.j0])
    | succ kj5 =>
      have H := HA.out
      clear HA
      simp only [store_Pairs.j0] at H
      by_cases c9 : x36_5 = true
      · subst c9
        have H1 : (some (([] : List (S24)), 1)) = some (r1, r2) := by rw [if_pos rfl] at H; exact H
        clear H
        have H := H1
        clear H1
        simp only [Option.some.injEq, Prod.mk.injEq] at H
        obtain ⟨rfl, rfl⟩ := H
        go_wp2
        go_ret2
        exact ⟨_, by first | rfl | (simp [errW_none, errW_some] <;> rfl) | (simp [*, errW_none, errW_some] <;> rfl), by first | exact Kd.R_nil _ _ _ _ _ | exact Kd.N_nil _ _ _ _ _ | exact Kd.V_nil _ _ _ _ _ | exact Kd.Q_nil _ _ _ _ _ | exact Kd.S_nil _ _ _ _ _, by repeat (first | (with_reducible first | exact HB.out | apply below_alloc | apply pw_below_drewN | apply below_drew1) | exact HB.out)⟩
      · replace c9 := Bool.eq_false_iff.mpr c9
        subst c9
        have H1 : (if 0 ≤ t529 then (if (t529 : Int).toNat ≤ 17592186044416 then ((some (List.replicate 0 z24 : List (S24))).bind fun y533 => (if a1 = 1 then (store_Pairs.l0 kj5 a0 t531 y533 (wrap64 (a0 + 1)) 0) else (if y533.length < 8796093022208 then (store_Pairs.l1 kj5 a0 a1 t531 (y533 ++ [(⟨1, 0⟩ : S24)]) a0 0) else (none)))) else (none)) else (none)) = some (r1, r2) := by rw [if_neg (show ¬ (false = true) by decide)] at H; exact H
        clear H
        have H := H1
        clear H1
        by_cases c10 : 0 ≤ t529
        · rw [if_pos c10] at H
          have c10b0 := eq_true c10
          have c10b1 : decide (0 ≤ t529) = true := decide_eq_true c10
          clear c10
          by_cases c11 : (t529 : Int).toNat ≤ 17592186044416
          · rw [if_pos c11] at H
            have c11b0 := eq_true c11
            have c11b1 : decide ((t529 : Int).toNat ≤ 17592186044416) = true := decide_eq_true c11
            clear c11
            obtain ⟨y533, hy533⟩ : ∃ y_ : List (S24), y_ = (List.replicate 0 z24) := ⟨_, rfl⟩
            replace H : (if a1 = 1 then (store_Pairs.l0 kj5 a0 t531 y533 (wrap64 (a0 + 1)) 0) else (if y533.length < 8796093022208 then (store_Pairs.l1 kj5 a0 a1 t531 (y533 ++ [(⟨1, 0⟩ : S24)]) a0 0) else (none))) = some (r1, r2) := by first | (rw [hy533]; with_reducible exact H) | (have H2_ := (Option.bind_some _ _).symm.trans H; rw [hy533]; with_reducible exact H2_) | (have H2_ := (Option.bind_some _ _).symm.trans H; with_reducible exact H2_) | with_reducible exact H | (rw [hy533]; exact H) | exact H
            have Ny533 := Aside0.mk hy533
            clear hy533
            by_cases c12 : a1 = 1
            · rw [if_pos c12] at H
              have c12b0 : (a1 == 1) = true := beq_iff_eq.mpr c12
              have c12b1 : (a1 != 1) = false := bne_eq_false_iff_eq.mpr c12
              clear c12
              have H' := Aside0.mk H
              clear H
              go_wp2_with (first | ((with_reducible refine gate_dst (N := 38) rfl ?_); refine Kd.R_makeCap k24 _ 24 rfl (N := 38) rfl 31 _ _ rfl t529 rfl rfl Try.underlying31 (.agg #[(.int .u64 0), (.int .u64 0)]) 16 info24 rfl (by decide) (by omega) z24 (ok := fun _ => True) (okp := fun _ => True) (k24_mkM _ _ _ z24 ) (fun _ hk => hk) trivial (of_decide_eq_true (by first | (with_reducible assumption) | assumption)) (Nat.le_trans (Nat.mul_le_mul_right _ (of_decide_eq_true (by first | (with_reducible assumption) | assumption) : t529.toNat ≤ 17592186044416)) (by omega)) (Below.refl _ _) (Nat.le_refl _) ?_; intro v534 w13 ho14 hb hg_ hnew_; clear hg_ hnew_; (first | rw [← Ny533.out] at ho14 | (simp only [Int.reduceToNat] at ho14; rw [← Ny533.out] at ho14)); have n0_ := Aside0.mk (Kd.R_lower ho14 (below_size (by repeat (first | (with_reducible first | exact HB.out | apply below_alloc | apply pw_below_drewN | apply below_drew1) | exact HB.out)))); have n1_ := Aside0.mk (below_step (by repeat (first | (with_reducible first | exact HB.out | apply below_alloc | apply pw_below_drewN | apply below_drew1) | exact HB.out)) hb); clear HB; have HO535 := n0_; have HB := n1_; clear n0_ n1_; clear hb ho14))
              go_loopg [12, 43] kj5 (fun kq v12 v43 w' => ∃ (x12_2 : List (S24)) (x43_2 : Int), v43 = .int .i64 x43_2 ∧ Aside0 (store_Pairs.l0 kq a0 t531 x12_2 (wrap64 (a0 + 1)) x43_2 = some (r1, r2)) ∧ Aside0 (kq ≤ kj5) ∧ Aside0 (Kd.R k24 24 w' w.heap.size (fun _ => True) v12 x12_2) ∧ Aside0 (Below w.heap.size w w'))
              case atStart => exact ⟨(y533), (0), (by first | rfl | (simp; done) | (simp [*]; done)), H', ⟨Nat.le_refl _⟩, ⟨by (with_reducible repeat (first | apply Kd.R_alloc | apply Kd.R_drewN | apply Kd.R_drew)); exact HO535.out⟩, ⟨by repeat (first | (with_reducible first | exact HB.out | apply below_alloc | apply pw_below_drewN | apply below_drew1) | exact HB.out)⟩⟩
              case round =>
                clear H'
                try clear c1
                try clear p2
                try clear c3
                try clear c6
                try clear p6
                try clear c8
                try clear c8b0
                try clear c8b1
                try clear c9
                try clear c10
                try clear c10b0
                try clear c10b1
                try clear c11
                try clear c11b0
                try clear c11b1
                try clear c12
                try clear c12b0
                try clear c12b1
                try clear p2
                obtain ⟨x12_2, x43_2, rfl, HA, HK2, HO_12, HB⟩ := hrel
                cases gk with
                | zero => exact absurd HA.out (by simp [store_Pairs.l0])
                | succ k2 =>
                  have H := HA.out
                  clear HA
                  simp only [store_Pairs.l0] at H
                  by_cases c15 : x43_2 < (wrap64 (a0 + 1))
                  · rw [if_pos c15] at H
                    have c15b0 : decide (x43_2 < (wrap64 (a0 + 1))) = true := decide_eq_true c15
                    clear c15
                    obtain ⟨ji16, hji16⟩ : ∃ j_ : Int, (wrap64 (a0 - x43_2)) = j_ := ⟨_, rfl⟩
                    replace H : (if 0 ≤ (ji16) then (if x12_2.length < 8796093022208 then (store_Pairs.l0 k2 a0 t531 (x12_2 ++ [(⟨shr .u64 t531 (ji16), 0⟩ : S24)]) (wrap64 (a0 + 1)) (wrap64 (x43_2 + 1))) else (none)) else (none)) = some (r1, r2) := by first | (rw [hji16] at H; exact H) | (simp only [hji16] at H ⊢; exact H)
                    have hji16w : (IntKind.i64.wrap (a0 - x43_2)) = ji16 := (i64_w _).trans hji16
                    by_cases c17 : 0 ≤ (ji16)
                    · rw [if_pos c17] at H
                      have c17b0 := eq_true c17
                      have c17b1 : decide (0 ≤ (ji16)) = true := decide_eq_true c17
                      clear c17
                      obtain ⟨ji18, hji18⟩ : ∃ j_ : Int, (shr .u64 t531 (ji16)) = j_ := ⟨_, rfl⟩
                      replace H : (if x12_2.length < 8796093022208 then (store_Pairs.l0 k2 a0 t531 (x12_2 ++ [(⟨ji18, 0⟩ : S24)]) (wrap64 (a0 + 1)) (wrap64 (x43_2 + 1))) else (none)) = some (r1, r2) := by first | (rw [hji18] at H; exact H) | (simp only [hji18] at H ⊢; exact H)
                      have hji18_ : (t531 / 2 ^ min (ji16).toNat 64) = ji18 := hji18
                      have hji18z : (ji16) ≤ 64 → (t531 / 2 ^ (ji16).toNat) = ji18 := shr_small hji18
                      by_cases c19 : x12_2.length < 8796093022208
                      · rw [if_pos c19] at H
                        have LMc19 := Aside0.mk c19
                        clear c19
                        obtain ⟨y536, hy536⟩ : ∃ y_ : List (S24), y_ = (x12_2 ++ [(⟨ji18, 0⟩ : S24)]) := ⟨_, rfl⟩
                        replace H : (store_Pairs.l0 k2 a0 t531 y536 (wrap64 (a0 + 1)) (wrap64 (x43_2 + 1))) = some (r1, r2) := by first | (rw [hy536]; with_reducible exact H) | (have H2_ := (Option.bind_some _ _).symm.trans H; rw [hy536]; with_reducible exact H2_) | (have H2_ := (Option.bind_some _ _).symm.trans H; with_reducible exact H2_) | with_reducible exact H | (rw [hy536]; exact H) | exact H
                        have Ny536 := Aside0.mk hy536
                        clear hy536
                        have H' := Aside0.mk H
                        clear H
                        go_wp2_with (first | ((with_reducible refine gate_builtin (b := .append) (xs := #[.tmp 46, .tmp 53]) rfl ?_); at_builtin; refine Kd.R_append k24 (w0 := w) w.heap.size rfl (.tmp 46) (.tmp 53) 31 24 (.agg #[(.int .u64 0), (.int .u64 0)]) 16 rfl Try.underlying31 info24 rfl (by decide) (by omega) u12 x12_2 (⟨ji18, 0⟩ : S24) [.int .u64 ji18, .int .u64 0] (fun _ => True) (fun _ => False) rfl rfl ?aP (fun _ hk => hk.elim) ?aF ?aO ?aB ?aS ?aL ?_; (case aP => exact k24_mkM _ _ _ (⟨ji18, 0⟩ : S24)); (case aB => exact (by repeat (first | (with_reducible first | exact HB.out | apply below_alloc | apply pw_below_drewN | apply below_drew1) | exact HB.out))); (case aF => exact (fun _ _ => trivial)); (case aO => exact (by (with_reducible repeat (first | apply Kd.R_alloc | apply Kd.R_drewN | apply Kd.R_drew)); exact HO_12.out)); (case aS => exact (below_size (by repeat (first | (with_reducible first | exact HB.out | apply below_alloc | apply pw_below_drewN | apply below_drew1) | exact HB.out)))); (case aL => have := LMc19.out; omega); intro v537 w20 ho hb hg hat; rw [← Ny536.out] at ho; have n0_ := Aside0.mk (hb); have n1_ := Aside0.mk (ho); clear HB; clear HO_12; have HB := n0_; have HO538 := n1_; clear n0_ n1_; clear ho hb hg hat))
                        go_roundg k2
                        case measure => have := HJ5.out; have := HK2.out; omega
                        case rel => exact ⟨(y536), (wrap64 (x43_2 + 1)), (by first | rfl | (simp; done) | (simp [*]; done)), H', ⟨by have := HJ5.out; have := HK2.out; omega⟩, ⟨by (with_reducible repeat (first | apply Kd.R_alloc | apply Kd.R_drewN | apply Kd.R_drew)); exact HO538.out⟩, ⟨by repeat (first | (with_reducible first | exact HB.out | apply below_alloc | apply pw_below_drewN | apply below_drew1) | exact HB.out)⟩⟩
                      · rw [if_neg c19] at H
                        exact absurd H (by simp)
                    · rw [if_neg c17] at H
                      exact absurd H (by simp)
                  · rw [if_neg c15] at H
                    have c15b0 : decide (x43_2 < (wrap64 (a0 + 1))) = false := decide_eq_false c15
                    clear c15
                    simp only [Option.some.injEq, Prod.mk.injEq] at H
                    obtain ⟨rfl, rfl⟩ := H
                    go_wp2
                    go_ret2
                    exact ⟨_, by first | rfl | (simp [errW_none, errW_some] <;> rfl) | (simp [*, errW_none, errW_some] <;> rfl), by (with_reducible repeat (first | apply Kd.R_alloc | apply Kd.R_drewN | apply Kd.R_drew)); exact HO_12.out, by repeat (first | (with_reducible first | exact HB.out | apply below_alloc | apply pw_below_drewN | apply below_drew1) | exact HB.out)⟩
            · rw [if_neg c12] at H
              have c12b0 : (a1 == 1) = false := beq_eq_false_iff_ne.mpr c12
              have c12b1 : (a1 != 1) = true := bne_iff_ne.mpr c12
              by_cases c21 : y533.length < 8796093022208
              · rw [if_pos c21] at H
                have LMc21 := Aside0.mk c21
                clear c21
                obtain ⟨y539, hy539⟩ : ∃ y_ : List (S24), y_ = (y533 ++ [(⟨1, 0⟩ : S24)]) := ⟨_, rfl⟩
                replace H : (store_Pairs.l1 kj5 a0 a1 t531 y539 a0 0) = some (r1, r2) := by first | (rw [hy539]; with_reducible exact H) | (have H2_ := (Option.bind_some _ _).symm.trans H; rw [hy539]; with_reducible exact H2_) | (have H2_ := (Option.bind_some _ _).symm.trans H; with_reducible exact H2_) | with_reducible exact H | (rw [hy539]; exact H) | exact H
                have Ny539 := Aside0.mk hy539
                clear hy539
                have H' := Aside0.mk H
                clear H
                go_wp2_with (first | ((with_reducible refine gate_dst (N := 38) rfl ?_); refine Kd.R_makeCap k24 _ 24 rfl (N := 38) rfl 31 _ _ rfl t529 rfl rfl Try.underlying31 (.agg #[(.int .u64 0), (.int .u64 0)]) 16 info24 rfl (by decide) (by omega) z24 (ok := fun _ => True) (okp := fun _ => True) (k24_mkM _ _ _ z24 ) (fun _ hk => hk) trivial (of_decide_eq_true (by first | (with_reducible assumption) | assumption)) (Nat.le_trans (Nat.mul_le_mul_right _ (of_decide_eq_true (by first | (with_reducible assumption) | assumption) : t529.toNat ≤ 17592186044416)) (by omega)) (Below.refl _ _) (Nat.le_refl _) ?_; intro v534 w22 ho23 hb hg_ hnew_; clear hg_ hnew_; (first | rw [← Ny533.out] at ho23 | (simp only [Int.reduceToNat] at ho23; rw [← Ny533.out] at ho23)); have n0_ := Aside0.mk (Kd.R_lower ho23 (below_size (by repeat (first | (with_reducible first | exact HB.out | apply below_alloc | apply pw_below_drewN | apply below_drew1) | exact HB.out)))); have n1_ := Aside0.mk (below_step (by repeat (first | (with_reducible first | exact HB.out | apply below_alloc | apply pw_below_drewN | apply below_drew1) | exact HB.out)) hb); clear HB; have HO535 := n0_; have HB := n1_; clear n0_ n1_; clear hb ho23) | ((with_reducible refine gate_builtin (b := .append) (xs := #[.tmp 57, .tmp 59]) rfl ?_); at_builtin; refine Kd.R_append k24 (w0 := w) w.heap.size rfl (.tmp 57) (.tmp 59) 31 24 (.agg #[(.int .u64 0), (.int .u64 0)]) 16 rfl Try.underlying31 info24 rfl (by decide) (by omega) v534 y533 (⟨1, 0⟩ : S24) [.int .u64 1, .int .u64 0] (fun _ => True) (fun _ => False) rfl rfl ?aP (fun _ hk => hk.elim) ?aF ?aO ?aB ?aS ?aL ?_; (case aP => exact k24_mkM _ _ _ (⟨1, 0⟩ : S24)); (case aB => exact (by repeat (first | (with_reducible first | exact HB.out | apply below_alloc | apply pw_below_drewN | apply below_drew1) | exact HB.out))); (case aF => exact (fun _ _ => trivial)); (case aO => exact (by (with_reducible repeat (first | apply Kd.R_alloc | apply Kd.R_drewN | apply Kd.R_drew)); exact HO535.out)); (case aS => exact (below_size (by repeat (first | (with_reducible first | exact HB.out | apply below_alloc | apply pw_below_drewN | apply below_drew1) | exact HB.out)))); (case aL => have := LMc21.out; omega); intro v540 w24 ho hb hg hat; rw [← Ny539.out] at ho; have n0_ := Aside0.mk (hb); have n1_ := Aside0.mk (ho); clear HB; clear HO535; have HB := n0_; have HO541 := n1_; clear n0_ n1_; clear ho hb hg hat))
                go_loopg [12, 62] kj5 (fun kq v12 v62 w' => ∃ (x12_2 : List (S24)) (x62_2 : Int), v62 = .int .i64 x62_2 ∧ Aside0 (store_Pairs.l1 kq a0 a1 t531 x12_2 a0 x62_2 = some (r1, r2)) ∧ Aside0 (kq ≤ kj5) ∧ Aside0 (Kd.R k24 24 w' w.heap.size (fun _ => True) v12 x12_2) ∧ Aside0 (Below w.heap.size w w'))
                case atStart => exact ⟨(y539), (0), (by first | rfl | (simp; done) | (simp [*]; done)), H', ⟨Nat.le_refl _⟩, ⟨by (with_reducible repeat (first | apply Kd.R_alloc | apply Kd.R_drewN | apply Kd.R_drew)); exact HO541.out⟩, ⟨by repeat (first | (with_reducible first | exact HB.out | apply below_alloc | apply pw_below_drewN | apply below_drew1) | exact HB.out)⟩⟩
                case round =>
                  clear H'
                  try clear c1
                  try clear c2
                  try clear p2
                  try clear c3
                  try clear c6
                  try clear p6
                  try clear c8
                  try clear c8b0
                  try clear c8b1
                  try clear c9
                  try clear c10
                  try clear c10b0
                  try clear c10b1
                  try clear c11
                  try clear c11b0
                  try clear c11b1
                  try clear c12
                  try clear c12b0
                  try clear c12b1
                  try clear c15
                  try clear c15b0
                  try clear c17
                  try clear c17b0
                  try clear c17b1
                  try clear c19
                  try clear c21
                  try clear p2
                  try clear p6
                  obtain ⟨x12_2, x62_2, rfl, HA, HK2, HO_12, HB⟩ := hrel
                  cases gk with
                  | zero => exact absurd HA.out (by simp [store_Pairs.l1])
                  | succ k2 =>
                    have H := HA.out
                    clear HA
                    simp only [store_Pairs.l1] at H
                    by_cases c25 : x62_2 < a0
                    · rw [if_pos c25] at H
                      have c25b0 : decide (x62_2 < a0) = true := decide_eq_true c25
                      clear c25
                      have H' := Aside0.mk H
                      clear H
                      go_wp2
                      go_loopg [12, 15] k2 (fun kq v12 v15 w' => ∃ (x12_3 : List (S24)) (x15_3 : Int), v15 = .int .i64 x15_3 ∧ Aside0 (store_Pairs.l2 kq a0 a1 t531 x12_3 x62_2 x15_3 a0 x62_2 = some (r1, r2)) ∧ Aside0 (kq ≤ k2) ∧ Aside0 (Kd.R k24 24 w' w.heap.size (fun _ => True) v12 x12_3) ∧ Aside0 (Below w.heap.size w w'))
                      case atStart => exact ⟨(x12_2), (wrap64 (x62_2 + 1)), (by first | rfl | (simp; done) | (simp [*]; done)), H', ⟨Nat.le_refl _⟩, ⟨by (with_reducible repeat (first | apply Kd.R_alloc | apply Kd.R_drewN | apply Kd.R_drew)); exact HO_12.out⟩, ⟨by repeat (first | (with_reducible first | exact HB.out | apply below_alloc | apply pw_below_drewN | apply below_drew1) | exact HB.out)⟩⟩
                      case round =>
                        clear H'
                        try clear c1
                        try clear c2
                        try clear p2
                        try clear c3
                        try clear c6
                        try clear p6
                        try clear c8
                        try clear c8b0
                        try clear c8b1
                        try clear c9
                        try clear c10
                        try clear c10b0
                        try clear c10b1
                        try clear c11
                        try clear c11b0
                        try clear c11b1
                        try clear c12
                        try clear c12b0
                        try clear c12b1
                        try clear c15
                        try clear c15b0
                        try clear c17
                        try clear c17b0
                        try clear c17b1
                        try clear c19
                        try clear c21
                        try clear c25
                        try clear c25b0
                        try clear p2
                        try clear p6
                        obtain ⟨x12_3, x15_3, rfl, HA, HK3, HO_12, HB⟩ := hrel
                        cases gk with
                        | zero => exact absurd HA.out (by simp [store_Pairs.l2])
                        | succ k3 =>
                          have H := HA.out
                          clear HA
                          simp only [store_Pairs.l2] at H
                          by_cases c26 : x15_3 ≤ a0
                          · rw [if_pos c26] at H
                            have c26b0 : decide (x15_3 ≤ a0) = true := decide_eq_true c26
                            clear c26
                            obtain ⟨ji27, hji27⟩ : ∃ j_ : Int, (wrap64 (a0 - x62_2)) = j_ := ⟨_, rfl⟩
                            replace H : (if 0 ≤ (ji27) then (if 0 ≤ (wrap64 (a0 - x15_3)) then (if a1 = 3 then ((sub_Useful.f k3 a0 (shr .u64 t531 (ji27)) (Go.bits .xor .u64 (shr .u64 t531 (wrap64 (a0 - x15_3))) 1)).bind fun bt543 => (if bt543.2 = 0 then (if bt543.1 = true then (if x12_3.length < 8796093022208 then (store_Pairs.l2 k3 a0 a1 t531 (x12_3 ++ [(⟨shr .u64 t531 (ji27), Go.bits .xor .u64 (shr .u64 t531 (wrap64 (a0 - x15_3))) 1⟩ : S24)]) x62_2 (wrap64 (x15_3 + 1)) a0 x62_2) else (none)) else (store_Pairs.l2 k3 a0 a1 t531 x12_3 x62_2 (wrap64 (x15_3 + 1)) a0 x62_2)) else (store_Pairs.l2 k3 a0 a1 t531 x12_3 x62_2 (wrap64 (x15_3 + 1)) a0 x62_2))) else (if x12_3.length < 8796093022208 then (store_Pairs.l2 k3 a0 a1 t531 (x12_3 ++ [(⟨shr .u64 t531 (ji27), Go.bits .xor .u64 (shr .u64 t531 (wrap64 (a0 - x15_3))) 1⟩ : S24)]) x62_2 (wrap64 (x15_3 + 1)) a0 x62_2) else (none))) else (none)) else (none)) = some (r1, r2) := by first | (rw [hji27] at H; exact H) | (simp only [hji27] at H ⊢; exact H)
                            have hji27w : (IntKind.i64.wrap (a0 - x62_2)) = ji27 := (i64_w _).trans hji27
                            by_cases c28 : 0 ≤ (ji27)
                            · rw [if_pos c28] at H
                              have c28b0 := eq_true c28
                              have c28b1 : decide (0 ≤ (ji27)) = true := decide_eq_true c28
                              clear c28
                              obtain ⟨ji29, hji29⟩ : ∃ j_ : Int, (shr .u64 t531 (ji27)) = j_ := ⟨_, rfl⟩
                              replace H : (if 0 ≤ (wrap64 (a0 - x15_3)) then (if a1 = 3 then ((sub_Useful.f k3 a0 (ji29) (Go.bits .xor .u64 (shr .u64 t531 (wrap64 (a0 - x15_3))) 1)).bind fun bt543 => (if bt543.2 = 0 then (if bt543.1 = true then (if x12_3.length < 8796093022208 then (store_Pairs.l2 k3 a0 a1 t531 (x12_3 ++ [(⟨ji29, Go.bits .xor .u64 (shr .u64 t531 (wrap64 (a0 - x15_3))) 1⟩ : S24)]) x62_2 (wrap64 (x15_3 + 1)) a0 x62_2) else (none)) else (store_Pairs.l2 k3 a0 a1 t531 x12_3 x62_2 (wrap64 (x15_3 + 1)) a0 x62_2)) else (store_Pairs.l2 k3 a0 a1 t531 x12_3 x62_2 (wrap64 (x15_3 + 1)) a0 x62_2))) else (if x12_3.length < 8796093022208 then (store_Pairs.l2 k3 a0 a1 t531 (x12_3 ++ [(⟨ji29, Go.bits .xor .u64 (shr .u64 t531 (wrap64 (a0 - x15_3))) 1⟩ : S24)]) x62_2 (wrap64 (x15_3 + 1)) a0 x62_2) else (none))) else (none)) = some (r1, r2) := by first | (rw [hji29] at H; exact H) | (simp only [hji29] at H ⊢; exact H)
                              have hji29_ : (t531 / 2 ^ min (ji27).toNat 64) = ji29 := hji29
                              have hji29z : (ji27) ≤ 64 → (t531 / 2 ^ (ji27).toNat) = ji29 := shr_small hji29
                              obtain ⟨ji30, hji30⟩ : ∃ j_ : Int, (wrap64 (a0 - x15_3)) = j_ := ⟨_, rfl⟩
                              replace H : (if 0 ≤ (ji30) then (if a1 = 3 then ((sub_Useful.f k3 a0 (ji29) (Go.bits .xor .u64 (shr .u64 t531 (ji30)) 1)).bind fun bt543 => (if bt543.2 = 0 then (if bt543.1 = true then (if x12_3.length < 8796093022208 then (store_Pairs.l2 k3 a0 a1 t531 (x12_3 ++ [(⟨ji29, Go.bits .xor .u64 (shr .u64 t531 (ji30)) 1⟩ : S24)]) x62_2 (wrap64 (x15_3 + 1)) a0 x62_2) else (none)) else (store_Pairs.l2 k3 a0 a1 t531 x12_3 x62_2 (wrap64 (x15_3 + 1)) a0 x62_2)) else (store_Pairs.l2 k3 a0 a1 t531 x12_3 x62_2 (wrap64 (x15_3 + 1)) a0 x62_2))) else (if x12_3.length < 8796093022208 then (store_Pairs.l2 k3 a0 a1 t531 (x12_3 ++ [(⟨ji29, Go.bits .xor .u64 (shr .u64 t531 (ji30)) 1⟩ : S24)]) x62_2 (wrap64 (x15_3 + 1)) a0 x62_2) else (none))) else (none)) = some (r1, r2) := by first | (rw [hji30] at H; exact H) | (simp only [hji30] at H ⊢; exact H)
                              have hji30w : (IntKind.i64.wrap (a0 - x15_3)) = ji30 := (i64_w _).trans hji30
                              by_cases c31 : 0 ≤ (ji30)
                              · rw [if_pos c31] at H
                                have c31b0 := eq_true c31
                                have c31b1 : decide (0 ≤ (ji30)) = true := decide_eq_true c31
                                clear c31
                                obtain ⟨ji32, hji32⟩ : ∃ j_ : Int, (shr .u64 t531 (ji30)) = j_ := ⟨_, rfl⟩
                                replace H : (if a1 = 3 then ((sub_Useful.f k3 a0 (ji29) (Go.bits .xor .u64 (ji32) 1)).bind fun bt543 => (if bt543.2 = 0 then (if bt543.1 = true then (if x12_3.length < 8796093022208 then (store_Pairs.l2 k3 a0 a1 t531 (x12_3 ++ [(⟨ji29, Go.bits .xor .u64 (ji32) 1⟩ : S24)]) x62_2 (wrap64 (x15_3 + 1)) a0 x62_2) else (none)) else (store_Pairs.l2 k3 a0 a1 t531 x12_3 x62_2 (wrap64 (x15_3 + 1)) a0 x62_2)) else (store_Pairs.l2 k3 a0 a1 t531 x12_3 x62_2 (wrap64 (x15_3 + 1)) a0 x62_2))) else (if x12_3.length < 8796093022208 then (store_Pairs.l2 k3 a0 a1 t531 (x12_3 ++ [(⟨ji29, Go.bits .xor .u64 (ji32) 1⟩ : S24)]) x62_2 (wrap64 (x15_3 + 1)) a0 x62_2) else (none))) = some (r1, r2) := by first | (rw [hji32] at H; exact H) | (simp only [hji32] at H ⊢; exact H)
                                have hji32_ : (t531 / 2 ^ min (ji30).toNat 64) = ji32 := hji32
                                have hji32z : (ji30) ≤ 64 → (t531 / 2 ^ (ji30).toNat) = ji32 := shr_small hji32
                                by_cases c33 : a1 = 3
                                · rw [if_pos c33] at H
                                  have c33b0 : (a1 == 3) = true := beq_iff_eq.mpr c33
                                  have c33b1 : (a1 != 3) = false := bne_eq_false_iff_eq.mpr c33
                                  clear c33
                                  replace H := Option.bind_eq_some_iff.mp H
                                  obtain ⟨⟨t543, t544⟩, A340, H⟩ := H
                                  replace H : (if t544 = 0 then (if t543 = true then (if x12_3.length < 8796093022208 then (store_Pairs.l2 k3 a0 a1 t531 (x12_3 ++ [(⟨ji29, Go.bits .xor .u64 (ji32) 1⟩ : S24)]) x62_2 (wrap64 (x15_3 + 1)) a0 x62_2) else (none)) else (store_Pairs.l2 k3 a0 a1 t531 x12_3 x62_2 (wrap64 (x15_3 + 1)) a0 x62_2)) else (store_Pairs.l2 k3 a0 a1 t531 x12_3 x62_2 (wrap64 (x15_3 + 1)) a0 x62_2)) = some (r1, r2) := H
                                  have A34 := Aside0.mk A340
                                  clear A340
                                  by_cases c35 : t544 = 0
                                  · rw [if_pos c35] at H
                                    have c35b0 : (t544 == 0) = true := beq_iff_eq.mpr c35
                                    have c35b1 : (t544 != 0) = false := bne_eq_false_iff_eq.mpr c35
                                    clear c35
                                    by_cases c36 : t543 = true
                                    · subst c36
                                      have H1 : (if x12_3.length < 8796093022208 then (store_Pairs.l2 k3 a0 a1 t531 (x12_3 ++ [(⟨ji29, Go.bits .xor .u64 (ji32) 1⟩ : S24)]) x62_2 (wrap64 (x15_3 + 1)) a0 x62_2) else (none)) = some (r1, r2) := by rw [if_pos rfl] at H; exact H
                                      clear H
                                      have H := H1
                                      clear H1
                                      by_cases c37 : x12_3.length < 8796093022208
                                      · rw [if_pos c37] at H
                                        have LMc37 := Aside0.mk c37
                                        clear c37
                                        obtain ⟨y545, hy545⟩ : ∃ y_ : List (S24), y_ = (x12_3 ++ [(⟨ji29, Go.bits .xor .u64 (ji32) 1⟩ : S24)]) := ⟨_, rfl⟩
                                        replace H : (store_Pairs.l2 k3 a0 a1 t531 y545 x62_2 (wrap64 (x15_3 + 1)) a0 x62_2) = some (r1, r2) := by first | (rw [hy545]; with_reducible exact H) | (have H2_ := (Option.bind_some _ _).symm.trans H; rw [hy545]; with_reducible exact H2_) | (have H2_ := (Option.bind_some _ _).symm.trans H; with_reducible exact H2_) | with_reducible exact H | (rw [hy545]; exact H) | exact H
                                        have Ny545 := Aside0.mk hy545
                                        clear hy545
                                        have H' := Aside0.mk H
                                        clear H
                                        try go_wp2
                                        have n0_ := Aside0.mk (Kd.R_drew HO_12.out)
                                        have n1_ := Aside0.mk (below_drew1 HB.out)
                                        clear HO_12
                                        clear HB
                                        have HO_12 := n0_
                                        have HB := n1_
                                        clear n0_ n1_
                                        refine start_ (n := 14) (S := fun w' => True) (ds := []) #[false, false, false, false, false, false, false, false, false, false, false, false, false, false] (by kernel_rfl) rfl rfl trivial (fun hHeld => ?_); refine with_tabW store_Pairs.tab20 store_Pairs.bits20 (fun HT_ HW_ => ?_)
                                        generalize wr.drew = w38 at HO_12 HB hHeld ⊢
                                        refine pure_ (i := 0) (N := some 72) (v := ?_) (a' := ?_) #[true, false, false, false, false, false, false, false, false, false, false, false, false, false] rfl rfl (any_of HT_.out (by kernel_rfl)) (fun _ _ _ h => h) (Or.inl ⟨by rfl, ?_⟩) ?_ ?_
                                        rotate_left
                                        · intro w'
                                          go_simp
                                          with_reducible rfl
                                        rotate_left
                                        · simp only [Act.put, List.setIfInBounds_toArray, List.set_cons_zero, List.set_cons_succ, i64_w, i32_w]
                                          rfl
                                        refine pure_ (i := 1) (N := some 73) (v := ?_) (a' := ?_) #[true, true, false, false, false, false, false, false, false, false, false, false, false, false] rfl rfl (any_of HT_.out (by kernel_rfl)) (fun _ _ _ h => h) (Or.inl ⟨by rfl, ?_⟩) ?_ ?_
                                        rotate_left
                                        · intro w'
                                          go_simp
                                          with_reducible rfl
                                        rotate_left
                                        · simp only [Act.put, List.setIfInBounds_toArray, List.set_cons_zero, List.set_cons_succ, i64_w, i32_w]
                                          rfl
                                        refine pure_ (i := 2) (N := some 74) (v := ?_) (a' := ?_) #[true, true, true, false, false, false, false, false, false, false, false, false, false, false] rfl rfl (any_of HT_.out (by kernel_rfl)) (fun _ _ _ h => h) (Or.inl ⟨by rfl, ?_⟩) ?_ ?_
                                        rotate_left
                                        · intro w'
                                          go_simp
                                          with_reducible rfl
                                        rotate_left
                                        · simp only [Act.put, List.setIfInBounds_toArray, List.set_cons_zero, List.set_cons_succ, i64_w, i32_w]
                                          rfl
                                        refine pure_ (i := 3) (N := some 75) (v := ?_) (a' := ?_) #[true, true, true, true, false, false, false, false, false, false, false, false, false, false] rfl rfl (any_of HT_.out (by kernel_rfl)) (fun _ _ _ h => h) (Or.inl ⟨by rfl, ?_⟩) ?_ ?_
                                        rotate_left
                                        · intro w'
                                          go_simp
                                          with_reducible rfl
                                        rotate_left
                                        · simp only [Act.put, List.setIfInBounds_toArray, List.set_cons_zero, List.set_cons_succ, i64_w, i32_w]
                                          rfl
                                        refine pure_ (i := 4) (N := some 76) (v := ?_) (a' := ?_) #[true, true, true, true, true, false, false, false, false, false, false, false, false, false] rfl rfl (any_of HT_.out (by kernel_rfl)) (fun _ _ _ h => h) (Or.inl ⟨by rfl, ?_⟩) ?_ ?_
                                        rotate_left
                                        · intro w'
                                          go_simp
                                          with_reducible rfl
                                        rotate_left
                                        · simp only [Act.put, List.setIfInBounds_toArray, List.set_cons_zero, List.set_cons_succ, i64_w, i32_w]
                                          rfl
                                        refine pure_ (i := 5) (N := some 77) (v := ?_) (a' := ?_) #[true, true, true, true, true, true, false, false, false, false, false, false, false, false] rfl rfl (any_of HT_.out (by kernel_rfl)) (fun _ _ _ h => h) (Or.inl ⟨by rfl, ?_⟩) ?_ ?_
                                        rotate_left
                                        · intro w'
                                          go_simp
                                          with_reducible rfl
                                        rotate_left
                                        · simp only [Act.put, List.setIfInBounds_toArray, List.set_cons_zero, List.set_cons_succ, i64_w, i32_w]
                                          rfl
                                        refine pure_ (i := 6) (N := some 78) (v := ?_) (a' := ?_) #[true, true, true, true, true, true, true, false, false, false, false, false, false, false] rfl rfl (any_of HT_.out (by kernel_rfl)) (fun _ _ _ h => h) (Or.inl ⟨by rfl, ?_⟩) ?_ ?_
                                        rotate_left
                                        · intro w'
                                          go_simp
                                          with_reducible rfl
                                        rotate_left
                                        · simp only [Act.put, List.setIfInBounds_toArray, List.set_cons_zero, List.set_cons_succ, i64_w, i32_w]
                                          rfl
                                        refine pure_ (i := 7) (N := some 79) (v := ?_) (a' := ?_) #[true, true, true, true, true, true, true, true, false, false, false, false, false, false] rfl rfl (any_of HT_.out (by kernel_rfl)) (fun _ _ _ h => h) (Or.inl ⟨by rfl, ?_⟩) ?_ ?_
                                        rotate_left
                                        · intro w'
                                          go_simp
                                          with_reducible rfl
                                        rotate_left
                                        · simp only [Act.put, List.setIfInBounds_toArray, List.set_cons_zero, List.set_cons_succ, i64_w, i32_w]
                                          rfl
                                        refine pure_ (i := 8) (N := some 80) (v := ?_) (a' := ?_) #[true, true, true, true, true, true, true, true, true, false, false, false, false, false] rfl rfl (any_of HT_.out (by kernel_rfl)) (fun _ _ _ h => h) (Or.inl ⟨by rfl, ?_⟩) ?_ ?_
                                        rotate_left
                                        · intro w'
                                          go_simp
                                          with_reducible rfl
                                        rotate_left
                                        · simp only [Act.put, List.setIfInBounds_toArray, List.set_cons_zero, List.set_cons_succ, i64_w, i32_w]
                                          rfl
                                        refine pure_ (i := 9) (N := some 81) (v := ?_) (a' := ?_) #[true, true, true, true, true, true, true, true, true, true, false, false, false, false] rfl rfl (any_of HT_.out (by kernel_rfl)) (fun _ _ _ h => h) (Or.inl ⟨by rfl, ?_⟩) ?_ ?_
                                        rotate_left
                                        · intro w'
                                          go_simp
                                          with_reducible rfl
                                        rotate_left
                                        · simp only [Act.put, List.setIfInBounds_toArray, List.set_cons_zero, List.set_cons_succ, i64_w, i32_w]
                                          rfl
                                        refine pure_ (i := 10) (N := some 82) (v := ?_) (a' := ?_) #[true, true, true, true, true, true, true, true, true, true, true, false, false, false] rfl rfl (any_of HT_.out (by kernel_rfl)) (fun _ _ _ h => h) (Or.inl ⟨by rfl, ?_⟩) ?_ ?_
                                        rotate_left
                                        · intro w'
                                          go_simp
                                          with_reducible rfl
                                        rotate_left
                                        · simp only [Act.put, List.setIfInBounds_toArray, List.set_cons_zero, List.set_cons_succ, i64_w, i32_w]
                                          rfl
                                        refine pure_ (i := 11) (N := some 83) (v := ?_) (a' := ?_) #[true, true, true, true, true, true, true, true, true, true, true, true, false, false] rfl rfl (any_of HT_.out (by kernel_rfl)) (fun _ _ _ h => h) (Or.inl ⟨by rfl, ?_⟩) ?_ ?_
                                        rotate_left
                                        · intro w'
                                          go_simp
                                          with_reducible rfl
                                        rotate_left
                                        · simp only [Act.put, List.setIfInBounds_toArray, List.set_cons_zero, List.set_cons_succ, i64_w, i32_w]
                                          rfl
                                        refine one_ (i := 12) (N := some 16) #[true, true, true, true, true, true, true, true, true, true, true, true, true, false] rfl rfl (one_of HT_.out (by kernel_rfl)) (by decide) (fun K hK => ?_)
                                        refine box_step ?hg (N := 16) ?hd (cs := #[.int .u64 0, .int .u64 0]) (t := 24) ?hr ?_; (case hd => rfl); (case hg => rfl); (case hr => first | (go_simp; done) | (go_simp; rfl))
                                        intro gb542 hg w39 hbox hb
                                        have n0_ := Aside0.mk (Kd.R_below (Kd.R_elderB (by (with_reducible repeat (first | apply Kd.R_alloc | apply Kd.R_drewN | apply Kd.R_drew)); exact HO_12.out) gb542 (Nat.le_of_eq hg.symm)) hb)
                                        have n1_ := Aside0.mk (below_step (by repeat (first | (with_reducible first | exact HB.out | apply below_alloc | apply pw_below_drewN | apply below_drew1) | exact HB.out)) hb)
                                        have n2_ := Aside0.mk (hbox)
                                        have n3_ := Aside0.mk ((by rw [hg]; exact (below_size (by repeat (first | (with_reducible first | exact HB.out | apply below_alloc | apply pw_below_drewN | apply below_drew1) | exact HB.out))) : w.heap.size ≤ gb542))
                                        have n4_ := Aside0.mk ((by rw [hg]; exact (below_size (by repeat (first | (with_reducible first | exact HB.out | apply below_alloc | apply pw_below_drewN | apply below_drew1) | exact HB.out))) : w.heap.size ≤ gb542))
                                        clear HO_12
                                        clear HB
                                        have HO_12 := n0_
                                        have HB := n1_
                                        have BK542 := n2_
                                        have GW542 := n3_
                                        have GE542 := n4_
                                        clear n0_ n1_ n2_ n3_ n4_
                                        clear hb hbox hg
                                        refine hK.out _ _ trivial (fun hHeld => ?_)
                                        clear hK K
                                        refine norm_ (a' := ?_) ?_ ?_
                                        rotate_left
                                        · show Act.put _ (some 16) _ = _
                                          simp only [Act.put, List.setIfInBounds_toArray, List.set_cons_zero, List.set_cons_succ, i64_w, i32_w]
                                          rfl
                                        refine one_ (i := 13) (N := none) #[true, true, true, true, true, true, true, true, true, true, true, true, true, true] rfl rfl (one_of HT_.out (by kernel_rfl)) (by decide) (fun K hK => ?_)
                                        have hs40 : w39.cell? ⟨gb542, 0, none⟩ = some (.int .u64 0) := (blk_cell BK542.out 0).trans rfl
                                        have hfs40 := blk_frozen BK542.out 0
                                        have hs41 : w39.cell? ⟨gb542, 1, none⟩ = some (.int .u64 0) := (blk_cell BK542.out 1).trans rfl
                                        have hfs41 := blk_frozen BK542.out 1
                                        refine skip_ (w1 := ?_) (by rfl) rfl ?_ ?_
                                        rotate_left
                                        · go_simp
                                          rfl
                                        refine hK.out _ _ trivial (fun hHeld => ?_)
                                        clear hK K
                                        refine done_ (done_of HT_.out (by kernel_rfl)) ?_
                                        have hcz42_0 : w39.cell? ⟨gb542, 0, none⟩ = some (.int .u64 0) := (blk_cell BK542.out 0).trans rfl
                                        have hcz42_1 : w39.cell? ⟨gb542, 1, none⟩ = some (.int .u64 0) := (blk_cell BK542.out 1).trans rfl
                                        have hfz42_0 := blk_frozen BK542.out 0
                                        have hfz42_1 := blk_frozen BK542.out 1
                                        try go_wp2_with (first | ((with_reducible refine gate_callee (f := 17) rfl ?_); refine goesL_ (some 89) rfl rfl Try.func17 (by kernel_rfl) rfl #[.int .i64 a0, .agg #[.int .u64 ji29, .int .u64 (Go.bits .xor .u64 (ji32) 1)]] rfl (by (try simp only [List.map_toArray, List.map_cons, List.map_nil]); first | done | (simp only [hji29, hji32]; rfl) | rfl | (simp only [List.length_drop, List.length_take]; rfl)) ?_; (with_reducible refine (sub_Useful.calls k3 a0 ji29 (Go.bits .xor .u64 (ji32) 1) true t544 _ A34.out).mono ?_); rintro e w43 ⟨rfl, hb⟩; refine ⟨_, rfl, ?_⟩; have n0_ := Aside0.mk (Kd.R_below (by (with_reducible repeat (first | apply Kd.R_alloc | apply Kd.R_drewN | apply Kd.R_drew)); exact (Kd.R_mono (Kd.R_far (p := ⟨gb542, 1, none⟩) (Kd.R_far (p := ⟨gb542, 0, none⟩) (Kd.R_mono HO_12.out (fun k_ hk => (⟨hk, hk.2⟩ : _ ∧ k_ ≠ gb542))) (fun _ hk => hk.2) (.int .u64 ji29)) (fun _ hk => hk.2) (.int .u64 (Go.bits .xor .u64 (ji32) 1))) (fun _ h_ => h_.1))) hb); have n1_ := Aside0.mk (blk_below (g := gb542) (o := .cells #[.int .u64 ji29, .int .u64 (Go.bits .xor .u64 (ji32) 1)] 24 (0, 0)) (by (with_reducible repeat (first | refine blk_drewN ?_ _ | refine blk_drew ?_ | refine blk_alloc ?_ _)); refine blk_put (cs := #[.int .u64 ji29, .int .u64 0]) ?_ 1 _ rfl; (with_reducible repeat (first | refine blk_drewN ?_ _ | refine blk_drew ?_ | refine blk_alloc ?_ _)); refine blk_put (cs := #[.int .u64 0, .int .u64 0]) ?_ 0 _ rfl; (with_reducible repeat (first | refine blk_drewN ?_ _ | refine blk_drew ?_ | refine blk_alloc ?_ _)); exact BK542.out) hb); have n2_ := Aside0.mk (below_step (by repeat (first | (with_reducible first | exact HB.out | apply below_alloc | apply pw_below_drewN | apply below_drew1 | refine below_set ?_ GE542.out) | exact HB.out)) hb); clear HO_12; clear BK542; clear HB; have HO_12 := n0_; have BK542 := n1_; have HB := n2_; clear n0_ n1_ n2_; (try clear hb); (try clear hb2); (try clear hk); (try clear hi); have hcz44_0 : w43.cell? ⟨gb542, 0, none⟩ = some (.int .u64 ji29) := (blk_cell BK542.out 0).trans rfl; have hcz44_1 : w43.cell? ⟨gb542, 1, none⟩ = some (.int .u64 (Go.bits .xor .u64 (ji32) 1)) := (blk_cell BK542.out 1).trans rfl; have hfz44_0 := blk_frozen BK542.out 0; have hfz44_1 := blk_frozen BK542.out 1) | ((with_reducible refine gate_builtin (b := .append) (xs := #[.tmp 98, .tmp 100]) rfl ?_); at_builtin; refine Kd.R_append k24 (w0 := w) w.heap.size rfl (.tmp 98) (.tmp 100) 31 24 (.agg #[(.int .u64 0), (.int .u64 0)]) 16 rfl Try.underlying31 info24 rfl (by decide) (by omega) u12 x12_3 (⟨ji29, Go.bits .xor .u64 (ji32) 1⟩ : S24) [.int .u64 ji29, .int .u64 (Go.bits .xor .u64 (ji32) 1)] (fun k_ => k_ ≠ gb542) (fun _ => False) rfl rfl ?aP (fun _ hk => hk.elim) ?aF ?aO ?aB ?aS ?aL ?_; (case aP => exact k24_mkM _ _ _ (⟨ji29, Go.bits .xor .u64 (ji32) 1⟩ : S24)); (case aB => exact (by repeat (first | (with_reducible first | exact HB.out | apply below_alloc | apply pw_below_drewN | apply below_drew1 | refine below_set ?_ GE542.out) | exact HB.out))); (case aF => exact (fun k_ hk => Kd.freshB (g := gb542) (o := .cells #[.int .u64 ji29, .int .u64 (Go.bits .xor .u64 (ji32) 1)] 24 (0, 0)) (by (with_reducible repeat (first | refine blk_drewN ?_ _ | refine blk_drew ?_ | refine blk_alloc ?_ _)); exact BK542.out) k_ hk)); (case aO => exact (by (with_reducible repeat (first | apply Kd.R_alloc | apply Kd.R_drewN | apply Kd.R_drew)); exact Kd.R_mono HO_12.out (fun _ hk => hk.2))); (case aS => exact (below_size (by repeat (first | (with_reducible first | exact HB.out | apply below_alloc | apply pw_below_drewN | apply below_drew1 | refine below_set ?_ GE542.out) | exact HB.out)))); (case aL => have := LMc37.out; omega); intro v546 w45 ho hb hg hat; rw [← Ny545.out] at ho; have n0_ := Aside0.mk (blk_grown (g := gb542) (o := .cells #[.int .u64 ji29, .int .u64 (Go.bits .xor .u64 (ji32) 1)] 24 (0, 0)) (by (with_reducible repeat (first | refine blk_drewN ?_ _ | refine blk_drew ?_ | refine blk_alloc ?_ _)); exact BK542.out) hg (Kd.R_away HO_12.out (fun _ hk => hk.2))); have n1_ := Aside0.mk (hb); have n2_ := Aside0.mk (ho); clear BK542; clear HB; clear HO_12; have BK542 := n0_; have HB := n1_; have HO547 := n2_; clear n0_ n1_ n2_; clear ho hb hg hat))
                                        go_roundg k3
                                        case measure => have := HJ5.out; have := HK2.out; have := HK3.out; omega
                                        case rel => exact ⟨(y545), (wrap64 (x15_3 + 1)), (by first | rfl | (simp; done) | (simp [*]; done)), H', ⟨by have := HJ5.out; have := HK2.out; have := HK3.out; omega⟩, ⟨by (with_reducible repeat (first | apply Kd.R_alloc | apply Kd.R_drewN | apply Kd.R_drew)); exact Kd.R_mono HO547.out (fun _ hk => trivial)⟩, ⟨by repeat (first | (with_reducible first | exact HB.out | apply below_alloc | apply pw_below_drewN | apply below_drew1 | refine below_set ?_ GE542.out) | exact HB.out)⟩⟩
                                      · rw [if_neg c37] at H
                                        exact absurd H (by simp)
                                    · replace c36 := Bool.eq_false_iff.mpr c36
                                      subst c36
                                      have H1 : (store_Pairs.l2 k3 a0 a1 t531 x12_3 x62_2 (wrap64 (x15_3 + 1)) a0 x62_2) = some (r1, r2) := by rw [if_neg (show ¬ (false = true) by decide)] at H; exact H
                                      clear H
                                      have H := H1
                                      clear H1
                                      have H' := Aside0.mk H
                                      clear H
                                      try go_wp2
                                      have n0_ := Aside0.mk (Kd.R_drew HO_12.out)
                                      have n1_ := Aside0.mk (below_drew1 HB.out)
                                      clear HO_12
                                      clear HB
                                      have HO_12 := n0_
                                      have HB := n1_
                                      clear n0_ n1_
                                      refine start_ (n := 14) (S := fun w' => True) (ds := []) #[false, false, false, false, false, false, false, false, false, false, false, false, false, false] (by kernel_rfl) rfl rfl trivial (fun hHeld => ?_); refine with_tabW store_Pairs.tab20 store_Pairs.bits20 (fun HT_ HW_ => ?_)
                                      generalize wr.drew = w46 at HO_12 HB hHeld ⊢
                                      refine pure_ (i := 0) (N := some 72) (v := ?_) (a' := ?_) #[true, false, false, false, false, false, false, false, false, false, false, false, false, false] rfl rfl (any_of HT_.out (by kernel_rfl)) (fun _ _ _ h => h) (Or.inl ⟨by rfl, ?_⟩) ?_ ?_
                                      rotate_left
                                      · intro w'
                                        go_simp
                                        with_reducible rfl
                                      rotate_left
                                      · simp only [Act.put, List.setIfInBounds_toArray, List.set_cons_zero, List.set_cons_succ, i64_w, i32_w]
                                        rfl
                                      refine pure_ (i := 1) (N := some 73) (v := ?_) (a' := ?_) #[true, true, false, false, false, false, false, false, false, false, false, false, false, false] rfl rfl (any_of HT_.out (by kernel_rfl)) (fun _ _ _ h => h) (Or.inl ⟨by rfl, ?_⟩) ?_ ?_
                                      rotate_left
                                      · intro w'
                                        go_simp
                                        with_reducible rfl
                                      rotate_left
                                      · simp only [Act.put, List.setIfInBounds_toArray, List.set_cons_zero, List.set_cons_succ, i64_w, i32_w]
                                        rfl
                                      refine pure_ (i := 2) (N := some 74) (v := ?_) (a' := ?_) #[true, true, true, false, false, false, false, false, false, false, false, false, false, false] rfl rfl (any_of HT_.out (by kernel_rfl)) (fun _ _ _ h => h) (Or.inl ⟨by rfl, ?_⟩) ?_ ?_
                                      rotate_left
                                      · intro w'
                                        go_simp
                                        with_reducible rfl
                                      rotate_left
                                      · simp only [Act.put, List.setIfInBounds_toArray, List.set_cons_zero, List.set_cons_succ, i64_w, i32_w]
                                        rfl
                                      refine pure_ (i := 3) (N := some 75) (v := ?_) (a' := ?_) #[true, true, true, true, false, false, false, false, false, false, false, false, false, false] rfl rfl (any_of HT_.out (by kernel_rfl)) (fun _ _ _ h => h) (Or.inl ⟨by rfl, ?_⟩) ?_ ?_
                                      rotate_left
                                      · intro w'
                                        go_simp
                                        with_reducible rfl
                                      rotate_left
                                      · simp only [Act.put, List.setIfInBounds_toArray, List.set_cons_zero, List.set_cons_succ, i64_w, i32_w]
                                        rfl
                                      refine pure_ (i := 4) (N := some 76) (v := ?_) (a' := ?_) #[true, true, true, true, true, false, false, false, false, false, false, false, false, false] rfl rfl (any_of HT_.out (by kernel_rfl)) (fun _ _ _ h => h) (Or.inl ⟨by rfl, ?_⟩) ?_ ?_
                                      rotate_left
                                      · intro w'
                                        go_simp
                                        with_reducible rfl
                                      rotate_left
                                      · simp only [Act.put, List.setIfInBounds_toArray, List.set_cons_zero, List.set_cons_succ, i64_w, i32_w]
                                        rfl
                                      refine pure_ (i := 5) (N := some 77) (v := ?_) (a' := ?_) #[true, true, true, true, true, true, false, false, false, false, false, false, false, false] rfl rfl (any_of HT_.out (by kernel_rfl)) (fun _ _ _ h => h) (Or.inl ⟨by rfl, ?_⟩) ?_ ?_
                                      rotate_left
                                      · intro w'
                                        go_simp
                                        with_reducible rfl
                                      rotate_left
                                      · simp only [Act.put, List.setIfInBounds_toArray, List.set_cons_zero, List.set_cons_succ, i64_w, i32_w]
                                        rfl
                                      refine pure_ (i := 6) (N := some 78) (v := ?_) (a' := ?_) #[true, true, true, true, true, true, true, false, false, false, false, false, false, false] rfl rfl (any_of HT_.out (by kernel_rfl)) (fun _ _ _ h => h) (Or.inl ⟨by rfl, ?_⟩) ?_ ?_
                                      rotate_left
                                      · intro w'
                                        go_simp
                                        with_reducible rfl
                                      rotate_left
                                      · simp only [Act.put, List.setIfInBounds_toArray, List.set_cons_zero, List.set_cons_succ, i64_w, i32_w]
                                        rfl
                                      refine pure_ (i := 7) (N := some 79) (v := ?_) (a' := ?_) #[true, true, true, true, true, true, true, true, false, false, false, false, false, false] rfl rfl (any_of HT_.out (by kernel_rfl)) (fun _ _ _ h => h) (Or.inl ⟨by rfl, ?_⟩) ?_ ?_
                                      rotate_left
                                      · intro w'
                                        go_simp
                                        with_reducible rfl
                                      rotate_left
                                      · simp only [Act.put, List.setIfInBounds_toArray, List.set_cons_zero, List.set_cons_succ, i64_w, i32_w]
                                        rfl
                                      refine pure_ (i := 8) (N := some 80) (v := ?_) (a' := ?_) #[true, true, true, true, true, true, true, true, true, false, false, false, false, false] rfl rfl (any_of HT_.out (by kernel_rfl)) (fun _ _ _ h => h) (Or.inl ⟨by rfl, ?_⟩) ?_ ?_
                                      rotate_left
                                      · intro w'
                                        go_simp
                                        with_reducible rfl
                                      rotate_left
                                      · simp only [Act.put, List.setIfInBounds_toArray, List.set_cons_zero, List.set_cons_succ, i64_w, i32_w]
                                        rfl
                                      refine pure_ (i := 9) (N := some 81) (v := ?_) (a' := ?_) #[true, true, true, true, true, true, true, true, true, true, false, false, false, false] rfl rfl (any_of HT_.out (by kernel_rfl)) (fun _ _ _ h => h) (Or.inl ⟨by rfl, ?_⟩) ?_ ?_
                                      rotate_left
                                      · intro w'
                                        go_simp
                                        with_reducible rfl
                                      rotate_left
                                      · simp only [Act.put, List.setIfInBounds_toArray, List.set_cons_zero, List.set_cons_succ, i64_w, i32_w]
                                        rfl
                                      refine pure_ (i := 10) (N := some 82) (v := ?_) (a' := ?_) #[true, true, true, true, true, true, true, true, true, true, true, false, false, false] rfl rfl (any_of HT_.out (by kernel_rfl)) (fun _ _ _ h => h) (Or.inl ⟨by rfl, ?_⟩) ?_ ?_
                                      rotate_left
                                      · intro w'
                                        go_simp
                                        with_reducible rfl
                                      rotate_left
                                      · simp only [Act.put, List.setIfInBounds_toArray, List.set_cons_zero, List.set_cons_succ, i64_w, i32_w]
                                        rfl
                                      refine pure_ (i := 11) (N := some 83) (v := ?_) (a' := ?_) #[true, true, true, true, true, true, true, true, true, true, true, true, false, false] rfl rfl (any_of HT_.out (by kernel_rfl)) (fun _ _ _ h => h) (Or.inl ⟨by rfl, ?_⟩) ?_ ?_
                                      rotate_left
                                      · intro w'
                                        go_simp
                                        with_reducible rfl
                                      rotate_left
                                      · simp only [Act.put, List.setIfInBounds_toArray, List.set_cons_zero, List.set_cons_succ, i64_w, i32_w]
                                        rfl
                                      refine one_ (i := 12) (N := some 16) #[true, true, true, true, true, true, true, true, true, true, true, true, true, false] rfl rfl (one_of HT_.out (by kernel_rfl)) (by decide) (fun K hK => ?_)
                                      refine box_step ?hg (N := 16) ?hd (cs := #[.int .u64 0, .int .u64 0]) (t := 24) ?hr ?_; (case hd => rfl); (case hg => rfl); (case hr => first | (go_simp; done) | (go_simp; rfl))
                                      intro gb542 hg w47 hbox hb
                                      have n0_ := Aside0.mk (Kd.R_below (Kd.R_elderB (by (with_reducible repeat (first | apply Kd.R_alloc | apply Kd.R_drewN | apply Kd.R_drew)); exact HO_12.out) gb542 (Nat.le_of_eq hg.symm)) hb)
                                      have n1_ := Aside0.mk (below_step (by repeat (first | (with_reducible first | exact HB.out | apply below_alloc | apply pw_below_drewN | apply below_drew1) | exact HB.out)) hb)
                                      have n2_ := Aside0.mk (hbox)
                                      have n3_ := Aside0.mk ((by rw [hg]; exact (below_size (by repeat (first | (with_reducible first | exact HB.out | apply below_alloc | apply pw_below_drewN | apply below_drew1) | exact HB.out))) : w.heap.size ≤ gb542))
                                      have n4_ := Aside0.mk ((by rw [hg]; exact (below_size (by repeat (first | (with_reducible first | exact HB.out | apply below_alloc | apply pw_below_drewN | apply below_drew1) | exact HB.out))) : w.heap.size ≤ gb542))
                                      clear HO_12
                                      clear HB
                                      have HO_12 := n0_
                                      have HB := n1_
                                      have BK542 := n2_
                                      have GW542 := n3_
                                      have GE542 := n4_
                                      clear n0_ n1_ n2_ n3_ n4_
                                      clear hb hbox hg
                                      refine hK.out _ _ trivial (fun hHeld => ?_)
                                      clear hK K
                                      refine norm_ (a' := ?_) ?_ ?_
                                      rotate_left
                                      · show Act.put _ (some 16) _ = _
                                        simp only [Act.put, List.setIfInBounds_toArray, List.set_cons_zero, List.set_cons_succ, i64_w, i32_w]
                                        rfl
                                      refine one_ (i := 13) (N := none) #[true, true, true, true, true, true, true, true, true, true, true, true, true, true] rfl rfl (one_of HT_.out (by kernel_rfl)) (by decide) (fun K hK => ?_)
                                      have hs48 : w47.cell? ⟨gb542, 0, none⟩ = some (.int .u64 0) := (blk_cell BK542.out 0).trans rfl
                                      have hfs48 := blk_frozen BK542.out 0
                                      have hs49 : w47.cell? ⟨gb542, 1, none⟩ = some (.int .u64 0) := (blk_cell BK542.out 1).trans rfl
                                      have hfs49 := blk_frozen BK542.out 1
                                      refine skip_ (w1 := ?_) (by rfl) rfl ?_ ?_
                                      rotate_left
                                      · go_simp
                                        rfl
                                      refine hK.out _ _ trivial (fun hHeld => ?_)
                                      clear hK K
                                      refine done_ (done_of HT_.out (by kernel_rfl)) ?_
                                      have hcz50_0 : w47.cell? ⟨gb542, 0, none⟩ = some (.int .u64 0) := (blk_cell BK542.out 0).trans rfl
                                      have hcz50_1 : w47.cell? ⟨gb542, 1, none⟩ = some (.int .u64 0) := (blk_cell BK542.out 1).trans rfl
                                      have hfz50_0 := blk_frozen BK542.out 0
                                      have hfz50_1 := blk_frozen BK542.out 1
                                      try go_wp2_with (first | ((with_reducible refine gate_callee (f := 17) rfl ?_); refine goesL_ (some 89) rfl rfl Try.func17 (by kernel_rfl) rfl #[.int .i64 a0, .agg #[.int .u64 ji29, .int .u64 (Go.bits .xor .u64 (ji32) 1)]] rfl (by (try simp only [List.map_toArray, List.map_cons, List.map_nil]); first | done | (simp only [hji29, hji32]; rfl) | rfl | (simp only [List.length_drop, List.length_take]; rfl)) ?_; (with_reducible refine (sub_Useful.calls k3 a0 ji29 (Go.bits .xor .u64 (ji32) 1) false t544 _ A34.out).mono ?_); rintro e w51 ⟨rfl, hb⟩; refine ⟨_, rfl, ?_⟩; have n0_ := Aside0.mk (Kd.R_below (by (with_reducible repeat (first | apply Kd.R_alloc | apply Kd.R_drewN | apply Kd.R_drew)); exact (Kd.R_mono (Kd.R_far (p := ⟨gb542, 1, none⟩) (Kd.R_far (p := ⟨gb542, 0, none⟩) (Kd.R_mono HO_12.out (fun k_ hk => (⟨hk, hk.2⟩ : _ ∧ k_ ≠ gb542))) (fun _ hk => hk.2) (.int .u64 ji29)) (fun _ hk => hk.2) (.int .u64 (Go.bits .xor .u64 (ji32) 1))) (fun _ h_ => h_.1))) hb); have n1_ := Aside0.mk (blk_below (g := gb542) (o := .cells #[.int .u64 ji29, .int .u64 (Go.bits .xor .u64 (ji32) 1)] 24 (0, 0)) (by (with_reducible repeat (first | refine blk_drewN ?_ _ | refine blk_drew ?_ | refine blk_alloc ?_ _)); refine blk_put (cs := #[.int .u64 ji29, .int .u64 0]) ?_ 1 _ rfl; (with_reducible repeat (first | refine blk_drewN ?_ _ | refine blk_drew ?_ | refine blk_alloc ?_ _)); refine blk_put (cs := #[.int .u64 0, .int .u64 0]) ?_ 0 _ rfl; (with_reducible repeat (first | refine blk_drewN ?_ _ | refine blk_drew ?_ | refine blk_alloc ?_ _)); exact BK542.out) hb); have n2_ := Aside0.mk (below_step (by repeat (first | (with_reducible first | exact HB.out | apply below_alloc | apply pw_below_drewN | apply below_drew1 | refine below_set ?_ GE542.out) | exact HB.out)) hb); clear HO_12; clear BK542; clear HB; have HO_12 := n0_; have BK542 := n1_; have HB := n2_; clear n0_ n1_ n2_; (try clear hb); (try clear hb2); (try clear hk); (try clear hi)))
                                      go_roundg k3
                                      case measure => have := HJ5.out; have := HK2.out; have := HK3.out; omega
                                      case rel => exact ⟨(x12_3), (wrap64 (x15_3 + 1)), (by first | rfl | (simp; done) | (simp [*]; done)), H', ⟨by have := HJ5.out; have := HK2.out; have := HK3.out; omega⟩, ⟨by (with_reducible repeat (first | apply Kd.R_alloc | apply Kd.R_drewN | apply Kd.R_drew)); exact Kd.R_mono HO_12.out (fun _ hk => trivial)⟩, ⟨by repeat (first | (with_reducible first | exact HB.out | apply below_alloc | apply pw_below_drewN | apply below_drew1 | refine below_set ?_ GE542.out) | exact HB.out)⟩⟩
                                  · rw [if_neg c35] at H
                                    have c35b0 : (t544 == 0) = false := beq_eq_false_iff_ne.mpr c35
                                    have c35b1 : (t544 != 0) = true := bne_iff_ne.mpr c35
                                    have H' := Aside0.mk H
                                    clear H
                                    try go_wp2
                                    have n0_ := Aside0.mk (Kd.R_drew HO_12.out)
                                    have n1_ := Aside0.mk (below_drew1 HB.out)
                                    clear HO_12
                                    clear HB
                                    have HO_12 := n0_
                                    have HB := n1_
                                    clear n0_ n1_
                                    refine start_ (n := 14) (S := fun w' => True) (ds := []) #[false, false, false, false, false, false, false, false, false, false, false, false, false, false] (by kernel_rfl) rfl rfl trivial (fun hHeld => ?_); refine with_tabW store_Pairs.tab20 store_Pairs.bits20 (fun HT_ HW_ => ?_)
                                    generalize wr.drew = w52 at HO_12 HB hHeld ⊢
                                    refine pure_ (i := 0) (N := some 72) (v := ?_) (a' := ?_) #[true, false, false, false, false, false, false, false, false, false, false, false, false, false] rfl rfl (any_of HT_.out (by kernel_rfl)) (fun _ _ _ h => h) (Or.inl ⟨by rfl, ?_⟩) ?_ ?_
                                    rotate_left
                                    · intro w'
                                      go_simp
                                      with_reducible rfl
                                    rotate_left
                                    · simp only [Act.put, List.setIfInBounds_toArray, List.set_cons_zero, List.set_cons_succ, i64_w, i32_w]
                                      rfl
                                    refine pure_ (i := 1) (N := some 73) (v := ?_) (a' := ?_) #[true, true, false, false, false, false, false, false, false, false, false, false, false, false] rfl rfl (any_of HT_.out (by kernel_rfl)) (fun _ _ _ h => h) (Or.inl ⟨by rfl, ?_⟩) ?_ ?_
                                    rotate_left
                                    · intro w'
                                      go_simp
                                      with_reducible rfl
                                    rotate_left
                                    · simp only [Act.put, List.setIfInBounds_toArray, List.set_cons_zero, List.set_cons_succ, i64_w, i32_w]
                                      rfl
                                    refine pure_ (i := 2) (N := some 74) (v := ?_) (a' := ?_) #[true, true, true, false, false, false, false, false, false, false, false, false, false, false] rfl rfl (any_of HT_.out (by kernel_rfl)) (fun _ _ _ h => h) (Or.inl ⟨by rfl, ?_⟩) ?_ ?_
                                    rotate_left
                                    · intro w'
                                      go_simp
                                      with_reducible rfl
                                    rotate_left
                                    · simp only [Act.put, List.setIfInBounds_toArray, List.set_cons_zero, List.set_cons_succ, i64_w, i32_w]
                                      rfl
                                    refine pure_ (i := 3) (N := some 75) (v := ?_) (a' := ?_) #[true, true, true, true, false, false, false, false, false, false, false, false, false, false] rfl rfl (any_of HT_.out (by kernel_rfl)) (fun _ _ _ h => h) (Or.inl ⟨by rfl, ?_⟩) ?_ ?_
                                    rotate_left
                                    · intro w'
                                      go_simp
                                      with_reducible rfl
                                    rotate_left
                                    · simp only [Act.put, List.setIfInBounds_toArray, List.set_cons_zero, List.set_cons_succ, i64_w, i32_w]
                                      rfl
                                    refine pure_ (i := 4) (N := some 76) (v := ?_) (a' := ?_) #[true, true, true, true, true, false, false, false, false, false, false, false, false, false] rfl rfl (any_of HT_.out (by kernel_rfl)) (fun _ _ _ h => h) (Or.inl ⟨by rfl, ?_⟩) ?_ ?_
                                    rotate_left
                                    · intro w'
                                      go_simp
                                      with_reducible rfl
                                    rotate_left
                                    · simp only [Act.put, List.setIfInBounds_toArray, List.set_cons_zero, List.set_cons_succ, i64_w, i32_w]
                                      rfl
                                    refine pure_ (i := 5) (N := some 77) (v := ?_) (a' := ?_) #[true, true, true, true, true, true, false, false, false, false, false, false, false, false] rfl rfl (any_of HT_.out (by kernel_rfl)) (fun _ _ _ h => h) (Or.inl ⟨by rfl, ?_⟩) ?_ ?_
                                    rotate_left
                                    · intro w'
                                      go_simp
                                      with_reducible rfl
                                    rotate_left
                                    · simp only [Act.put, List.setIfInBounds_toArray, List.set_cons_zero, List.set_cons_succ, i64_w, i32_w]
                                      rfl
                                    refine pure_ (i := 6) (N := some 78) (v := ?_) (a' := ?_) #[true, true, true, true, true, true, true, false, false, false, false, false, false, false] rfl rfl (any_of HT_.out (by kernel_rfl)) (fun _ _ _ h => h) (Or.inl ⟨by rfl, ?_⟩) ?_ ?_
                                    rotate_left
                                    · intro w'
                                      go_simp
                                      with_reducible rfl
                                    rotate_left
                                    · simp only [Act.put, List.setIfInBounds_toArray, List.set_cons_zero, List.set_cons_succ, i64_w, i32_w]
                                      rfl
                                    refine pure_ (i := 7) (N := some 79) (v := ?_) (a' := ?_) #[true, true, true, true, true, true, true, true, false, false, false, false, false, false] rfl rfl (any_of HT_.out (by kernel_rfl)) (fun _ _ _ h => h) (Or.inl ⟨by rfl, ?_⟩) ?_ ?_
                                    rotate_left
                                    · intro w'
                                      go_simp
                                      with_reducible rfl
                                    rotate_left
                                    · simp only [Act.put, List.setIfInBounds_toArray, List.set_cons_zero, List.set_cons_succ, i64_w, i32_w]
                                      rfl
                                    refine pure_ (i := 8) (N := some 80) (v := ?_) (a' := ?_) #[true, true, true, true, true, true, true, true, true, false, false, false, false, false] rfl rfl (any_of HT_.out (by kernel_rfl)) (fun _ _ _ h => h) (Or.inl ⟨by rfl, ?_⟩) ?_ ?_
                                    rotate_left
                                    · intro w'
                                      go_simp
                                      with_reducible rfl
                                    rotate_left
                                    · simp only [Act.put, List.setIfInBounds_toArray, List.set_cons_zero, List.set_cons_succ, i64_w, i32_w]
                                      rfl
                                    refine pure_ (i := 9) (N := some 81) (v := ?_) (a' := ?_) #[true, true, true, true, true, true, true, true, true, true, false, false, false, false] rfl rfl (any_of HT_.out (by kernel_rfl)) (fun _ _ _ h => h) (Or.inl ⟨by rfl, ?_⟩) ?_ ?_
                                    rotate_left
                                    · intro w'
                                      go_simp
                                      with_reducible rfl
                                    rotate_left
                                    · simp only [Act.put, List.setIfInBounds_toArray, List.set_cons_zero, List.set_cons_succ, i64_w, i32_w]
                                      rfl
                                    refine pure_ (i := 10) (N := some 82) (v := ?_) (a' := ?_) #[true, true, true, true, true, true, true, true, true, true, true, false, false, false] rfl rfl (any_of HT_.out (by kernel_rfl)) (fun _ _ _ h => h) (Or.inl ⟨by rfl, ?_⟩) ?_ ?_
                                    rotate_left
                                    · intro w'
                                      go_simp
                                      with_reducible rfl
                                    rotate_left
                                    · simp only [Act.put, List.setIfInBounds_toArray, List.set_cons_zero, List.set_cons_succ, i64_w, i32_w]
                                      rfl
                                    refine pure_ (i := 11) (N := some 83) (v := ?_) (a' := ?_) #[true, true, true, true, true, true, true, true, true, true, true, true, false, false] rfl rfl (any_of HT_.out (by kernel_rfl)) (fun _ _ _ h => h) (Or.inl ⟨by rfl, ?_⟩) ?_ ?_
                                    rotate_left
                                    · intro w'
                                      go_simp
                                      with_reducible rfl
                                    rotate_left
                                    · simp only [Act.put, List.setIfInBounds_toArray, List.set_cons_zero, List.set_cons_succ, i64_w, i32_w]
                                      rfl
                                    refine one_ (i := 12) (N := some 16) #[true, true, true, true, true, true, true, true, true, true, true, true, true, false] rfl rfl (one_of HT_.out (by kernel_rfl)) (by decide) (fun K hK => ?_)
                                    refine box_step ?hg (N := 16) ?hd (cs := #[.int .u64 0, .int .u64 0]) (t := 24) ?hr ?_; (case hd => rfl); (case hg => rfl); (case hr => first | (go_simp; done) | (go_simp; rfl))
                                    intro gb542 hg w53 hbox hb
                                    have n0_ := Aside0.mk (Kd.R_below (Kd.R_elderB (by (with_reducible repeat (first | apply Kd.R_alloc | apply Kd.R_drewN | apply Kd.R_drew)); exact HO_12.out) gb542 (Nat.le_of_eq hg.symm)) hb)
                                    have n1_ := Aside0.mk (below_step (by repeat (first | (with_reducible first | exact HB.out | apply below_alloc | apply pw_below_drewN | apply below_drew1) | exact HB.out)) hb)
                                    have n2_ := Aside0.mk (hbox)
                                    have n3_ := Aside0.mk ((by rw [hg]; exact (below_size (by repeat (first | (with_reducible first | exact HB.out | apply below_alloc | apply pw_below_drewN | apply below_drew1) | exact HB.out))) : w.heap.size ≤ gb542))
                                    have n4_ := Aside0.mk ((by rw [hg]; exact (below_size (by repeat (first | (with_reducible first | exact HB.out | apply below_alloc | apply pw_below_drewN | apply below_drew1) | exact HB.out))) : w.heap.size ≤ gb542))
                                    clear HO_12
                                    clear HB
                                    have HO_12 := n0_
                                    have HB := n1_
                                    have BK542 := n2_
                                    have GW542 := n3_
                                    have GE542 := n4_
                                    clear n0_ n1_ n2_ n3_ n4_
                                    clear hb hbox hg
                                    refine hK.out _ _ trivial (fun hHeld => ?_)
                                    clear hK K
                                    refine norm_ (a' := ?_) ?_ ?_
                                    rotate_left
                                    · show Act.put _ (some 16) _ = _
                                      simp only [Act.put, List.setIfInBounds_toArray, List.set_cons_zero, List.set_cons_succ, i64_w, i32_w]
                                      rfl
                                    refine one_ (i := 13) (N := none) #[true, true, true, true, true, true, true, true, true, true, true, true, true, true] rfl rfl (one_of HT_.out (by kernel_rfl)) (by decide) (fun K hK => ?_)
                                    have hs54 : w53.cell? ⟨gb542, 0, none⟩ = some (.int .u64 0) := (blk_cell BK542.out 0).trans rfl
                                    have hfs54 := blk_frozen BK542.out 0
                                    have hs55 : w53.cell? ⟨gb542, 1, none⟩ = some (.int .u64 0) := (blk_cell BK542.out 1).trans rfl
                                    have hfs55 := blk_frozen BK542.out 1
                                    refine skip_ (w1 := ?_) (by rfl) rfl ?_ ?_
                                    rotate_left
                                    · go_simp
                                      rfl
                                    refine hK.out _ _ trivial (fun hHeld => ?_)
                                    clear hK K
                                    refine done_ (done_of HT_.out (by kernel_rfl)) ?_
                                    have hcz56_0 : w53.cell? ⟨gb542, 0, none⟩ = some (.int .u64 0) := (blk_cell BK542.out 0).trans rfl
                                    have hcz56_1 : w53.cell? ⟨gb542, 1, none⟩ = some (.int .u64 0) := (blk_cell BK542.out 1).trans rfl
                                    have hfz56_0 := blk_frozen BK542.out 0
                                    have hfz56_1 := blk_frozen BK542.out 1
                                    try go_wp2_with (first | ((with_reducible refine gate_callee (f := 17) rfl ?_); refine goesL_ (some 89) rfl rfl Try.func17 (by kernel_rfl) rfl #[.int .i64 a0, .agg #[.int .u64 ji29, .int .u64 (Go.bits .xor .u64 (ji32) 1)]] rfl (by (try simp only [List.map_toArray, List.map_cons, List.map_nil]); first | done | (simp only [hji29, hji32]; rfl) | rfl | (simp only [List.length_drop, List.length_take]; rfl)) ?_; (with_reducible refine (sub_Useful.calls k3 a0 ji29 (Go.bits .xor .u64 (ji32) 1) t543 t544 _ A34.out).mono ?_); rintro e w57 ⟨rfl, hb⟩; refine ⟨_, rfl, ?_⟩; have n0_ := Aside0.mk (Kd.R_below (by (with_reducible repeat (first | apply Kd.R_alloc | apply Kd.R_drewN | apply Kd.R_drew)); exact (Kd.R_mono (Kd.R_far (p := ⟨gb542, 1, none⟩) (Kd.R_far (p := ⟨gb542, 0, none⟩) (Kd.R_mono HO_12.out (fun k_ hk => (⟨hk, hk.2⟩ : _ ∧ k_ ≠ gb542))) (fun _ hk => hk.2) (.int .u64 ji29)) (fun _ hk => hk.2) (.int .u64 (Go.bits .xor .u64 (ji32) 1))) (fun _ h_ => h_.1))) hb); have n1_ := Aside0.mk (blk_below (g := gb542) (o := .cells #[.int .u64 ji29, .int .u64 (Go.bits .xor .u64 (ji32) 1)] 24 (0, 0)) (by (with_reducible repeat (first | refine blk_drewN ?_ _ | refine blk_drew ?_ | refine blk_alloc ?_ _)); refine blk_put (cs := #[.int .u64 ji29, .int .u64 0]) ?_ 1 _ rfl; (with_reducible repeat (first | refine blk_drewN ?_ _ | refine blk_drew ?_ | refine blk_alloc ?_ _)); refine blk_put (cs := #[.int .u64 0, .int .u64 0]) ?_ 0 _ rfl; (with_reducible repeat (first | refine blk_drewN ?_ _ | refine blk_drew ?_ | refine blk_alloc ?_ _)); exact BK542.out) hb); have n2_ := Aside0.mk (below_step (by repeat (first | (with_reducible first | exact HB.out | apply below_alloc | apply pw_below_drewN | apply below_drew1 | refine below_set ?_ GE542.out) | exact HB.out)) hb); clear HO_12; clear BK542; clear HB; have HO_12 := n0_; have BK542 := n1_; have HB := n2_; clear n0_ n1_ n2_; (try clear hb); (try clear hb2); (try clear hk); (try clear hi)))
                                    go_roundg k3
                                    case measure => have := HJ5.out; have := HK2.out; have := HK3.out; omega
                                    case rel => exact ⟨(x12_3), (wrap64 (x15_3 + 1)), (by first | rfl | (simp; done) | (simp [*]; done)), H', ⟨by have := HJ5.out; have := HK2.out; have := HK3.out; omega⟩, ⟨by (with_reducible repeat (first | apply Kd.R_alloc | apply Kd.R_drewN | apply Kd.R_drew)); exact Kd.R_mono HO_12.out (fun _ hk => trivial)⟩, ⟨by repeat (first | (with_reducible first | exact HB.out | apply below_alloc | apply pw_below_drewN | apply below_drew1 | refine below_set ?_ GE542.out) | exact HB.out)⟩⟩
                                · rw [if_neg c33] at H
                                  have c33b0 : (a1 == 3) = false := beq_eq_false_iff_ne.mpr c33
                                  have c33b1 : (a1 != 3) = true := bne_iff_ne.mpr c33
                                  by_cases c58 : x12_3.length < 8796093022208
                                  · rw [if_pos c58] at H
                                    have LMc58 := Aside0.mk c58
                                    clear c58
                                    obtain ⟨y548, hy548⟩ : ∃ y_ : List (S24), y_ = (x12_3 ++ [(⟨ji29, Go.bits .xor .u64 (ji32) 1⟩ : S24)]) := ⟨_, rfl⟩
                                    replace H : (store_Pairs.l2 k3 a0 a1 t531 y548 x62_2 (wrap64 (x15_3 + 1)) a0 x62_2) = some (r1, r2) := by first | (rw [hy548]; with_reducible exact H) | (have H2_ := (Option.bind_some _ _).symm.trans H; rw [hy548]; with_reducible exact H2_) | (have H2_ := (Option.bind_some _ _).symm.trans H; with_reducible exact H2_) | with_reducible exact H | (rw [hy548]; exact H) | exact H
                                    have Ny548 := Aside0.mk hy548
                                    clear hy548
                                    have H' := Aside0.mk H
                                    clear H
                                    try go_wp2
                                    have n0_ := Aside0.mk (Kd.R_drew HO_12.out)
                                    have n1_ := Aside0.mk (below_drew1 HB.out)
                                    clear HO_12
                                    clear HB
                                    have HO_12 := n0_
                                    have HB := n1_
                                    clear n0_ n1_
                                    refine start_ (n := 14) (S := fun w' => True) (ds := []) #[false, false, false, false, false, false, false, false, false, false, false, false, false, false] (by kernel_rfl) rfl rfl trivial (fun hHeld => ?_); refine with_tabW store_Pairs.tab20 store_Pairs.bits20 (fun HT_ HW_ => ?_)
                                    generalize wr.drew = w59 at HO_12 HB hHeld ⊢
                                    refine pure_ (i := 0) (N := some 72) (v := ?_) (a' := ?_) #[true, false, false, false, false, false, false, false, false, false, false, false, false, false] rfl rfl (any_of HT_.out (by kernel_rfl)) (fun _ _ _ h => h) (Or.inl ⟨by rfl, ?_⟩) ?_ ?_
                                    rotate_left
                                    · intro w'
                                      go_simp
                                      with_reducible rfl
                                    rotate_left
                                    · simp only [Act.put, List.setIfInBounds_toArray, List.set_cons_zero, List.set_cons_succ, i64_w, i32_w]
                                      rfl
                                    refine pure_ (i := 1) (N := some 73) (v := ?_) (a' := ?_) #[true, true, false, false, false, false, false, false, false, false, false, false, false, false] rfl rfl (any_of HT_.out (by kernel_rfl)) (fun _ _ _ h => h) (Or.inl ⟨by rfl, ?_⟩) ?_ ?_
                                    rotate_left
                                    · intro w'
                                      go_simp
                                      with_reducible rfl
                                    rotate_left
                                    · simp only [Act.put, List.setIfInBounds_toArray, List.set_cons_zero, List.set_cons_succ, i64_w, i32_w]
                                      rfl
                                    refine pure_ (i := 2) (N := some 74) (v := ?_) (a' := ?_) #[true, true, true, false, false, false, false, false, false, false, false, false, false, false] rfl rfl (any_of HT_.out (by kernel_rfl)) (fun _ _ _ h => h) (Or.inl ⟨by rfl, ?_⟩) ?_ ?_
                                    rotate_left
                                    · intro w'
                                      go_simp
                                      with_reducible rfl
                                    rotate_left
                                    · simp only [Act.put, List.setIfInBounds_toArray, List.set_cons_zero, List.set_cons_succ, i64_w, i32_w]
                                      rfl
                                    refine pure_ (i := 3) (N := some 75) (v := ?_) (a' := ?_) #[true, true, true, true, false, false, false, false, false, false, false, false, false, false] rfl rfl (any_of HT_.out (by kernel_rfl)) (fun _ _ _ h => h) (Or.inl ⟨by rfl, ?_⟩) ?_ ?_
                                    rotate_left
                                    · intro w'
                                      go_simp
                                      with_reducible rfl
                                    rotate_left
                                    · simp only [Act.put, List.setIfInBounds_toArray, List.set_cons_zero, List.set_cons_succ, i64_w, i32_w]
                                      rfl
                                    refine pure_ (i := 4) (N := some 76) (v := ?_) (a' := ?_) #[true, true, true, true, true, false, false, false, false, false, false, false, false, false] rfl rfl (any_of HT_.out (by kernel_rfl)) (fun _ _ _ h => h) (Or.inl ⟨by rfl, ?_⟩) ?_ ?_
                                    rotate_left
                                    · intro w'
                                      go_simp
                                      with_reducible rfl
                                    rotate_left
                                    · simp only [Act.put, List.setIfInBounds_toArray, List.set_cons_zero, List.set_cons_succ, i64_w, i32_w]
                                      rfl
                                    refine pure_ (i := 5) (N := some 77) (v := ?_) (a' := ?_) #[true, true, true, true, true, true, false, false, false, false, false, false, false, false] rfl rfl (any_of HT_.out (by kernel_rfl)) (fun _ _ _ h => h) (Or.inl ⟨by rfl, ?_⟩) ?_ ?_
                                    rotate_left
                                    · intro w'
                                      go_simp
                                      with_reducible rfl
                                    rotate_left
                                    · simp only [Act.put, List.setIfInBounds_toArray, List.set_cons_zero, List.set_cons_succ, i64_w, i32_w]
                                      rfl
                                    refine pure_ (i := 6) (N := some 78) (v := ?_) (a' := ?_) #[true, true, true, true, true, true, true, false, false, false, false, false, false, false] rfl rfl (any_of HT_.out (by kernel_rfl)) (fun _ _ _ h => h) (Or.inl ⟨by rfl, ?_⟩) ?_ ?_
                                    rotate_left
                                    · intro w'
                                      go_simp
                                      with_reducible rfl
                                    rotate_left
                                    · simp only [Act.put, List.setIfInBounds_toArray, List.set_cons_zero, List.set_cons_succ, i64_w, i32_w]
                                      rfl
                                    refine pure_ (i := 7) (N := some 79) (v := ?_) (a' := ?_) #[true, true, true, true, true, true, true, true, false, false, false, false, false, false] rfl rfl (any_of HT_.out (by kernel_rfl)) (fun _ _ _ h => h) (Or.inl ⟨by rfl, ?_⟩) ?_ ?_
                                    rotate_left
                                    · intro w'
                                      go_simp
                                      with_reducible rfl
                                    rotate_left
                                    · simp only [Act.put, List.setIfInBounds_toArray, List.set_cons_zero, List.set_cons_succ, i64_w, i32_w]
                                      rfl
                                    refine pure_ (i := 8) (N := some 80) (v := ?_) (a' := ?_) #[true, true, true, true, true, true, true, true, true, false, false, false, false, false] rfl rfl (any_of HT_.out (by kernel_rfl)) (fun _ _ _ h => h) (Or.inl ⟨by rfl, ?_⟩) ?_ ?_
                                    rotate_left
                                    · intro w'
                                      go_simp
                                      with_reducible rfl
                                    rotate_left
                                    · simp only [Act.put, List.setIfInBounds_toArray, List.set_cons_zero, List.set_cons_succ, i64_w, i32_w]
                                      rfl
                                    refine pure_ (i := 9) (N := some 81) (v := ?_) (a' := ?_) #[true, true, true, true, true, true, true, true, true, true, false, false, false, false] rfl rfl (any_of HT_.out (by kernel_rfl)) (fun _ _ _ h => h) (Or.inl ⟨by rfl, ?_⟩) ?_ ?_
                                    rotate_left
                                    · intro w'
                                      go_simp
                                      with_reducible rfl
                                    rotate_left
                                    · simp only [Act.put, List.setIfInBounds_toArray, List.set_cons_zero, List.set_cons_succ, i64_w, i32_w]
                                      rfl
                                    refine pure_ (i := 10) (N := some 82) (v := ?_) (a' := ?_) #[true, true, true, true, true, true, true, true, true, true, true, false, false, false] rfl rfl (any_of HT_.out (by kernel_rfl)) (fun _ _ _ h => h) (Or.inl ⟨by rfl, ?_⟩) ?_ ?_
                                    rotate_left
                                    · intro w'
                                      go_simp
                                      with_reducible rfl
                                    rotate_left
                                    · simp only [Act.put, List.setIfInBounds_toArray, List.set_cons_zero, List.set_cons_succ, i64_w, i32_w]
                                      rfl
                                    refine pure_ (i := 11) (N := some 83) (v := ?_) (a' := ?_) #[true, true, true, true, true, true, true, true, true, true, true, true, false, false] rfl rfl (any_of HT_.out (by kernel_rfl)) (fun _ _ _ h => h) (Or.inl ⟨by rfl, ?_⟩) ?_ ?_
                                    rotate_left
                                    · intro w'
                                      go_simp
                                      with_reducible rfl
                                    rotate_left
                                    · simp only [Act.put, List.setIfInBounds_toArray, List.set_cons_zero, List.set_cons_succ, i64_w, i32_w]
                                      rfl
                                    refine one_ (i := 12) (N := some 16) #[true, true, true, true, true, true, true, true, true, true, true, true, true, false] rfl rfl (one_of HT_.out (by kernel_rfl)) (by decide) (fun K hK => ?_)
                                    refine box_step ?hg (N := 16) ?hd (cs := #[.int .u64 0, .int .u64 0]) (t := 24) ?hr ?_; (case hd => rfl); (case hg => rfl); (case hr => first | (go_simp; done) | (go_simp; rfl))
                                    intro gb542 hg w60 hbox hb
                                    have n0_ := Aside0.mk (Kd.R_below (Kd.R_elderB (by (with_reducible repeat (first | apply Kd.R_alloc | apply Kd.R_drewN | apply Kd.R_drew)); exact HO_12.out) gb542 (Nat.le_of_eq hg.symm)) hb)
                                    have n1_ := Aside0.mk (below_step (by repeat (first | (with_reducible first | exact HB.out | apply below_alloc | apply pw_below_drewN | apply below_drew1) | exact HB.out)) hb)
                                    have n2_ := Aside0.mk (hbox)
                                    have n3_ := Aside0.mk ((by rw [hg]; exact (below_size (by repeat (first | (with_reducible first | exact HB.out | apply below_alloc | apply pw_below_drewN | apply below_drew1) | exact HB.out))) : w.heap.size ≤ gb542))
                                    have n4_ := Aside0.mk ((by rw [hg]; exact (below_size (by repeat (first | (with_reducible first | exact HB.out | apply below_alloc | apply pw_below_drewN | apply below_drew1) | exact HB.out))) : w.heap.size ≤ gb542))
                                    clear HO_12
                                    clear HB
                                    have HO_12 := n0_
                                    have HB := n1_
                                    have BK542 := n2_
                                    have GW542 := n3_
                                    have GE542 := n4_
                                    clear n0_ n1_ n2_ n3_ n4_
                                    clear hb hbox hg
                                    refine hK.out _ _ trivial (fun hHeld => ?_)
                                    clear hK K
                                    refine norm_ (a' := ?_) ?_ ?_
                                    rotate_left
                                    · show Act.put _ (some 16) _ = _
                                      simp only [Act.put, List.setIfInBounds_toArray, List.set_cons_zero, List.set_cons_succ, i64_w, i32_w]
                                      rfl
                                    refine one_ (i := 13) (N := none) #[true, true, true, true, true, true, true, true, true, true, true, true, true, true] rfl rfl (one_of HT_.out (by kernel_rfl)) (by decide) (fun K hK => ?_)
                                    have hs61 : w60.cell? ⟨gb542, 0, none⟩ = some (.int .u64 0) := (blk_cell BK542.out 0).trans rfl
                                    have hfs61 := blk_frozen BK542.out 0
                                    have hs62 : w60.cell? ⟨gb542, 1, none⟩ = some (.int .u64 0) := (blk_cell BK542.out 1).trans rfl
                                    have hfs62 := blk_frozen BK542.out 1
                                    refine skip_ (w1 := ?_) (by rfl) rfl ?_ ?_
                                    rotate_left
                                    · go_simp
                                      rfl
                                    refine hK.out _ _ trivial (fun hHeld => ?_)
                                    clear hK K
                                    refine done_ (done_of HT_.out (by kernel_rfl)) ?_
                                    have hcz63_0 : w60.cell? ⟨gb542, 0, none⟩ = some (.int .u64 0) := (blk_cell BK542.out 0).trans rfl
                                    have hcz63_1 : w60.cell? ⟨gb542, 1, none⟩ = some (.int .u64 0) := (blk_cell BK542.out 1).trans rfl
                                    have hfz63_0 := blk_frozen BK542.out 0
                                    have hfz63_1 := blk_frozen BK542.out 1
                                    try go_wp2_with (first | ((with_reducible refine gate_builtin (b := .append) (xs := #[.tmp 98, .tmp 100]) rfl ?_); at_builtin; refine Kd.R_append k24 (w0 := w) w.heap.size rfl (.tmp 98) (.tmp 100) 31 24 (.agg #[(.int .u64 0), (.int .u64 0)]) 16 rfl Try.underlying31 info24 rfl (by decide) (by omega) u12 x12_3 (⟨ji29, Go.bits .xor .u64 (ji32) 1⟩ : S24) [.int .u64 ji29, .int .u64 (Go.bits .xor .u64 (ji32) 1)] (fun k_ => k_ ≠ gb542) (fun _ => False) rfl (by first | (go_simp; done) | (go_simp; rfl)) ?aP (fun _ hk => hk.elim) ?aF ?aO ?aB ?aS ?aL ?_; (case aP => exact k24_mkM _ _ _ (⟨ji29, Go.bits .xor .u64 (ji32) 1⟩ : S24)); (case aB => exact (by repeat (first | (with_reducible first | exact HB.out | apply below_alloc | apply pw_below_drewN | apply below_drew1 | refine below_set ?_ GE542.out) | exact HB.out))); (case aF => exact (fun k_ hk => Kd.freshB (g := gb542) (o := .cells #[.int .u64 ji29, .int .u64 (Go.bits .xor .u64 (ji32) 1)] 24 (0, 0)) (by (with_reducible repeat (first | refine blk_drewN ?_ _ | refine blk_drew ?_ | refine blk_alloc ?_ _)); refine blk_put (cs := #[.int .u64 ji29, .int .u64 0]) ?_ 1 _ rfl; (with_reducible repeat (first | refine blk_drewN ?_ _ | refine blk_drew ?_ | refine blk_alloc ?_ _)); refine blk_put (cs := #[.int .u64 0, .int .u64 0]) ?_ 0 _ rfl; (with_reducible repeat (first | refine blk_drewN ?_ _ | refine blk_drew ?_ | refine blk_alloc ?_ _)); exact BK542.out) k_ hk)); (case aO => exact (by (with_reducible repeat (first | apply Kd.R_alloc | apply Kd.R_drewN | apply Kd.R_drew)); exact Kd.R_mono (Kd.R_far (p := ⟨gb542, 1, none⟩) (Kd.R_far (p := ⟨gb542, 0, none⟩) (Kd.R_mono HO_12.out (fun k_ hk => (⟨hk, hk.2⟩ : _ ∧ k_ ≠ gb542))) (fun _ hk => hk.2) (.int .u64 ji29)) (fun _ hk => hk.2) (.int .u64 (Go.bits .xor .u64 (ji32) 1))) (fun _ hk => hk.1.2))); (case aS => exact (below_size (by repeat (first | (with_reducible first | exact HB.out | apply below_alloc | apply pw_below_drewN | apply below_drew1 | refine below_set ?_ GE542.out) | exact HB.out)))); (case aL => have := LMc58.out; omega); intro v549 w64 ho hb hg hat; rw [← Ny548.out] at ho; have n0_ := Aside0.mk (blk_grown (g := gb542) (o := .cells #[.int .u64 ji29, .int .u64 (Go.bits .xor .u64 (ji32) 1)] 24 (0, 0)) (by (with_reducible repeat (first | refine blk_drewN ?_ _ | refine blk_drew ?_ | refine blk_alloc ?_ _)); refine blk_put (cs := #[.int .u64 ji29, .int .u64 0]) ?_ 1 _ rfl; (with_reducible repeat (first | refine blk_drewN ?_ _ | refine blk_drew ?_ | refine blk_alloc ?_ _)); refine blk_put (cs := #[.int .u64 0, .int .u64 0]) ?_ 0 _ rfl; (with_reducible repeat (first | refine blk_drewN ?_ _ | refine blk_drew ?_ | refine blk_alloc ?_ _)); exact BK542.out) hg (Kd.R_away HO_12.out (fun _ hk => hk.2))); have n1_ := Aside0.mk (hb); have n2_ := Aside0.mk (ho); clear BK542; clear HB; clear HO_12; have BK542 := n0_; have HB := n1_; have HO550 := n2_; clear n0_ n1_ n2_; clear ho hb hg hat))
                                    go_roundg k3
                                    case measure => have := HJ5.out; have := HK2.out; have := HK3.out; omega
                                    case rel => exact ⟨(y548), (wrap64 (x15_3 + 1)), (by first | rfl | (simp; done) | (simp [*]; done)), H', ⟨by have := HJ5.out; have := HK2.out; have := HK3.out; omega⟩, ⟨by (with_reducible repeat (first | apply Kd.R_alloc | apply Kd.R_drewN | apply Kd.R_drew)); exact Kd.R_mono HO550.out (fun _ hk => trivial)⟩, ⟨by repeat (first | (with_reducible first | exact HB.out | apply below_alloc | apply pw_below_drewN | apply below_drew1 | refine below_set ?_ GE542.out) | exact HB.out)⟩⟩
                                  · rw [if_neg c58] at H
                                    exact absurd H (by simp)
                              · rw [if_neg c31] at H
                                exact absurd H (by simp)
                            · rw [if_neg c28] at H
                              exact absurd H (by simp)
                          · rw [if_neg c26] at H
                            have c26b0 : decide (x15_3 ≤ a0) = false := decide_eq_false c26
                            clear c26
                            have H' := Aside0.mk H
                            clear H
                            go_wp2
                            go_roundg k3
                            case measure => have := HJ5.out; have := HK2.out; have := HK3.out; omega
                            case rel => exact ⟨(x12_3), (wrap64 (x62_2 + 1)), (by first | rfl | (simp; done) | (simp [*]; done)), H', ⟨by have := HJ5.out; have := HK2.out; have := HK3.out; omega⟩, ⟨by (with_reducible repeat (first | apply Kd.R_alloc | apply Kd.R_drewN | apply Kd.R_drew)); exact HO_12.out⟩, ⟨by repeat (first | (with_reducible first | exact HB.out | apply below_alloc | apply pw_below_drewN | apply below_drew1) | exact HB.out)⟩⟩
                    · rw [if_neg c25] at H
                      have c25b0 : decide (x62_2 < a0) = false := decide_eq_false c25
                      clear c25
                      simp only [Option.some.injEq, Prod.mk.injEq] at H
                      obtain ⟨rfl, rfl⟩ := H
                      go_wp2
                      go_ret2
                      exact ⟨_, by first | rfl | (simp [errW_none, errW_some] <;> rfl) | (simp [*, errW_none, errW_some] <;> rfl), by (with_reducible repeat (first | apply Kd.R_alloc | apply Kd.R_drewN | apply Kd.R_drew)); exact HO_12.out, by repeat (first | (with_reducible first | exact HB.out | apply below_alloc | apply pw_below_drewN | apply below_drew1) | exact HB.out)⟩
              · rw [if_neg c21] at H
                exact absurd H (by simp)
          · rw [if_neg c11] at H
            exact absurd H (by simp)
        · rw [if_neg c10] at H
          exact absurd H (by simp)

/-! #### maps whose keys are subsets -/
instance decS24 : DecidableEq S24 := fun a b => if h : a.f0 = b.f0 ∧ a.f1 = b.f1 then isTrue (by cases a; cases b; simp_all) else isFalse (fun e => h (by rw [e]; exact ⟨rfl, rfl⟩))
section
open Go.Maps
theorem mk_law : Keyed Try.prog 24 := Keyed.of_law (deep_law_laid (P := Try.prog) (by kernel_rfl) (m := 3) (by omega) (of_decide_eq_true (by kernel_rfl)) (by kernel_rfl) (by rw [Try.underlying24]))
theorem mk_zero (w : World) : (zeroValue 3).run Try.prog w = .ok (.int .i64 0) w := by kernel_rfl
/-- Its numbers are of their kind. -/
def WfS (s : S24) : Prop := (Lit.int .u64 s.f0).wf = true ∧ (Lit.int .u64 s.f1).wf = true
instance (s : S24) : Decidable (WfS s) := inferInstanceAs (Decidable (_ ∧ _))
def mk_lit (s : S24) : Lit := .string (keyBytes [.int .u64 s.f0, .int .u64 s.f1])
theorem mk_key {s : S24} (h : WfS s) : keyOf Try.prog 24 (.agg #[.int .u64 s.f0, .int .u64 s.f1]) = some (mk_lit s) := by
  have hk : Try.prog.keyType 24 = true := by kernel_rfl
  have hf : (Value.agg #[.int .u64 s.f0, .int .u64 s.f1]).formed Try.prog 24 = true := by
    have hc : Try.prog.cellsOf 24 = 2 := by kernel_rfl
    simp [Value.formed, Try.underlying24, hc]
  have hl : Try.prog.keyLits (Try.prog.types.size + 1) 24 [.int .u64 s.f0, .int .u64 s.f1] = some [.int .u64 s.f0, .int .u64 s.f1] := by
    obtain ⟨n, hn⟩ : ∃ n, Try.prog.types.size = n + 1 := ⟨Try.prog.types.size - 1, by have : 24 < Try.prog.types.size := of_decide_eq_true (by kernel_rfl); omega⟩
    have hc : Try.prog.cellsOf 24 = 2 := by kernel_rfl
    have hc2 : Try.prog.cellsOf 22 = 1 := by kernel_rfl
    rw [hn]
    simp [Program.keyLits, Try.underlying24, Try.underlying22, hc, hc2, h.1, h.2]
  unfold keyOf
  rw [Try.underlying24]
  simp only [hk, hf, Bool.and_true, if_true]
  show ((Try.prog.keyLits (Try.prog.types.size + 1) 24 [.int .u64 s.f0, .int .u64 s.f1]).map fun ls => Lit.string (keyBytes ls)) = _
  rw [hl]; rfl
theorem mk_inj {s t : S24} (hs : WfS s) (ht : WfS t) (e : mk_lit s = mk_lit t) : s = t := by
  have := mk_law.inj (mk_key hs) (by rw [e]; exact mk_key ht)
  simp at this
  cases s; cases t; simp_all
/-- Block g is a map that has m s at the key s. -/
def MapIs (w : World) (g n : Nat) (m : S24 → Int) : Prop := ∃ D : DataW Unit, w.ownsMap Try.prog 24 (plainElem Try.prog 3) g n D ∧ ∀ s, WfS s → D.atKey (mk_lit s) (.lit (.int .i64 0)) = .lit (.int .i64 (m s))
theorem MapIs.made (w : World) : MapIs (w.alloc (.map #[] 0)) w.heap.size 0 (fun _ => 0) := ⟨.map [], World.ownsMap_made _ _ _ _, fun s _ => by simp [DataW.atKey]⟩
theorem MapIs.move {w w' : World} {g n : Nat} {m : S24 → Int} (h : MapIs w g n m) (e : ∀ o, w.heap[g]? = some o → w'.heap[g]? = some o) : MapIs w' g n m := by
  obtain ⟨D, ⟨es, clock, hb, r⟩, hD⟩ := h
  exact ⟨D, ⟨es, clock, e _ hb, r⟩, hD⟩
theorem MapIs.lt {w : World} {g n : Nat} {m : S24 → Int} (h : MapIs w g n m) : g < w.heap.size := by
  obtain ⟨D, h, _⟩ := h; exact h.lt
theorem MapIs.put {w' : World} {g n : Nat} {m : S24 → Int} {s : S24} {v : Int} {D : DataW Unit} (hs : WfS s) (hD : ∀ s, WfS s → D.atKey (mk_lit s) (.lit (.int .i64 0)) = .lit (.int .i64 (m s))) (hm : Go.Maps.IsMap D) (h : w'.ownsMap Try.prog 24 (plainElem Try.prog 3) g n (D.put (mk_lit s) (.lit (.int .i64 v)))) {m' : S24 → Int} (h1 : m' s = v) (h2 : ∀ t, t ≠ s → m' t = m t) : MapIs w' g n m' := by
  refine ⟨_, h, fun t ht => ?_⟩
  by_cases e : t = s
  · subst e; rw [atKey_put_same hm (mk_law.key (mk_key hs)), h1]
  · rw [atKey_put_other (fun z => e (mk_inj ht hs z)), hD t ht, h2 t e]
theorem MapIs.run {w : World} {g n : Nat} {m : S24 → Int} (h : MapIs w g n m) {s : S24} (hs : WfS s) {c : Int} (hc : m s = c) : (Instr.lookup 56 (.map (some g)) (.agg #[.int .u64 s.f0, .int .u64 s.f1]) false).run Try.prog w = .ok (.int .i64 c) w := by
  obtain ⟨D, hown, hD⟩ := h
  obtain ⟨c', hrun, hat, _⟩ := hown.lookup_int mk_law Try.underlying56 Try.underlying3 (mk_zero _) (mk_key hs)
  rw [hD s hs] at hat
  have : m s = c' := by simpa using hat
  rw [hrun, ← this, hc]
theorem wpList_look {w : World} {ops : Array Oper} {rest : List Oper} {o : Oper} {a : Act} {Q : Exit → Act → World → Prop} (hg : o.guard = none) (mm x : Operand) (hop : o.op = Op.lookup 56 mm x false) {g n : Nat} {m : S24 → Int} (hm : a.eval mm = .map (some g)) (h : MapIs w g n m) (s : S24) (hs : WfS s) (c : Int) (hc : m s = c)
    (hx : a.eval x = .agg #[.int .u64 s.f0, .int .u64 s.f1]) (hK : wpList Try.prog ops Q rest (a.put o.dst (.int .i64 c)) w) : wpList Try.prog ops Q (o :: rest) a w := by
  obtain ⟨D, hown, hD⟩ := h
  refine wpList_lookup_own_int w hg mm x 56 hop 24 3 .i64 mk_law Try.underlying56 Try.underlying3 (mk_zero _) g n D hm hown _ (mk_lit s) hx (mk_key hs) ?_
  intro c' hat _
  rw [hD s hs] at hat
  have : m s = c' := by simpa using hat
  rw [← this, hc]; exact hK
theorem wpList_upd {w : World} {ops : Array Oper} {rest : List Oper} {o : Oper} {a : Act} {Q : Exit → Act → World → Prop} (hg : o.guard = none) (mm x v : Operand) (hop : o.op = Op.mapUpdate 56 mm x v) {g n : Nat} {m : S24 → Int} (hm : a.eval mm = .map (some g)) (h : MapIs w g n m) (hn : n < maxLen) (s : S24) (hs : WfS s) (c : Int) (hc : (Lit.int .i64 c).wf = true)
    (hx : a.eval x = .agg #[.int .u64 s.f0, .int .u64 s.f1]) (hv : a.eval v = .int .i64 c) (hK : ∀ w', (∀ m' : S24 → Int, m' s = c → (∀ t, t ≠ s → m' t = m t) → MapIs w' g (n + 1) m') → w.grownBy w' (some g) → wpList Try.prog ops Q rest (a.put o.dst undef) w') : wpList Try.prog ops Q (o :: rest) a w := by
  obtain ⟨D, hown, hD⟩ := h
  refine wpList_mapUpdate_own w hg mm x v 56 hop 24 3 mk_law Try.underlying56 (plainElem Try.prog 3) g n D hm hown hn _ _ (mk_lit s) hx hv (mk_key hs) (.lit (.int .i64 c)) [] (plainElem_int Try.underlying3 hc) ?_
  intro w' h1 h2
  exact hK w' (fun m' e1 e2 => MapIs.put hs hD hown.isMap h1 e1 e2) h2
end
section
open Go.Maps Go.WideElems Go.MapKept Go.WideMaps Go.ChangeMaps Go.ChangeShapes Go.WideShapes
theorem mk_klaw : Go.WideMaps.KeyLaw Try.prog 24 := deep_law_laid (P := Try.prog) (by kernel_rfl) (m := 3) (by omega) (of_decide_eq_true (by kernel_rfl)) (by kernel_rfl) (by rw [Try.underlying24])
/-- 'm[s] op= ..' by the entry: what is found, what is there between, and what is left. -/
theorem MapIs.entry {w : World} {g n : Nat} {m : S24 → Int} (h : MapIs w g n m) (hn : n < maxLen) {s : S24} (hs : WfS s) {c v : Int} (hc : m s = c) (hcw : (Lit.int .i64 c).wf = true) (hv : (Lit.int .i64 v).wf = true) :
    ∃ (st : Nat) (w1 w2 : World), (Instr.mapEntry 56 (.map (some g)) (.agg #[.int .u64 s.f0, .int .u64 s.f1])).run Try.prog w = .ok (.tuple #[.int .i64 c, .int .i64 st]) w1 ∧
      (Instr.lookup 56 (.map (some g)) (.agg #[.int .u64 s.f0, .int .u64 s.f1]) false).run Try.prog w1 = .ok (.int .i64 c) w1 ∧
      (Instr.entryStore 56 (.map (some g)) (.int .i64 st) (.int .i64 v)).run Try.prog w1 = .ok () w2 ∧ w.mapTurned w1 g ∧ w.mapTurned w2 g ∧
      ∀ m' : S24 → Int, m' s = v → (∀ t, t ≠ s → m' t = m t) → MapIs w2 g (n + 1) m' := by
  have hlook := h.run hs hc
  obtain ⟨D, hown, hD⟩ := h
  have hown0 := hown
  obtain ⟨es, clock, hb, F, hsz, rfl⟩ := hown
  obtain ⟨v0, st, es1, clock1, hme, hv0, hst⟩ := entry_then_store (P := Try.prog) (t := 56) mk_klaw Try.underlying56 (z := .int .i64 0) (fun u => mk_zero u) hb F (mk_key hs)
  have hkey := mk_key hs
  have more : v0 = .int .i64 c ∧ (Instr.mapUpdate 56 (.map (some g)) (.agg #[.int .u64 s.f0, .int .u64 s.f1]) v0).run Try.prog w = .ok () (setBlock w g (.map es1 clock1)) := by
    rcases mk_klaw.find w hkey es.toList F.keys with ⟨h1, h2⟩ | ⟨j, e0, h1, h2, h3⟩
    · have e0 : v0 = .int .i64 0 := by
        rcases hv0 with ⟨e, he, hk, _⟩ | ⟨_, r⟩
        · exact absurd hk (h2 e he)
        · exact r
      subst e0
      have hz := mk_zero w
      simp [Instr.lookup, run_underlying Try.underlying56, MapKept.run_getObj_map hb, mk_klaw.check w es.isEmpty hkey, h1, hz, Result.andThen] at hlook
      simp [Instr.mapEntry, run_underlying Try.underlying56, MapKept.run_getObj_map hb, mk_klaw.check w false hkey, h1, hz, MapKept.run_setObj_map _ hb, Result.andThen] at hme
      simp [Instr.mapUpdate, run_underlying Try.underlying56, MapKept.run_getObj_map hb, mk_klaw.check w false hkey, h1, MapKept.run_setObj_map _ hb, Result.andThen, setBlock]
      refine ⟨hlook, ?_⟩
      have := hme.2
      simpa [setBlock] using this
    · have hj : es[j]? = some e0 := by simpa using h2
      simp [Instr.lookup, run_underlying Try.underlying56, MapKept.run_getObj_map hb, mk_klaw.check w es.isEmpty hkey, h1, hj, Result.andThen] at hlook
      simp [Instr.mapEntry, run_underlying Try.underlying56, MapKept.run_getObj_map hb, mk_klaw.check w false hkey, h1, hj, h3, mk_klaw.stays w hkey, MapKept.run_setObj_map _ hb, Result.andThen] at hme
      simp [Instr.mapUpdate, run_underlying Try.underlying56, MapKept.run_getObj_map hb, mk_klaw.check w false hkey, h1, hj, h3, mk_klaw.stays w hkey, MapKept.run_setObj_map _ hb, Result.andThen, setBlock]
      have e1 := hme.1.1
      have hm : es.modify j (fun e => { key := .agg #[.int .u64 s.f0, .int .u64 s.f1], val := v0, born := e.born }) = es.modify j (fun e => { key := .agg #[.int .u64 s.f0, .int .u64 s.f1], val := e.val, born := e.born }) := by
        apply Array.ext_getElem?
        intro i
        simp only [Array.getElem?_modify]
        split
        · rename_i q
          subst q
          rw [hj]; simp [e1]
        · rfl
      refine ⟨by rw [← e1, hlook], ?_⟩
      rw [hm]
      have := hme.2
      simpa [setBlock] using this
  obtain ⟨rfl, hmu⟩ := more
  have w1b : (setBlock w g (.map es1 clock1)).heap[g]? = some (.map es1 clock1) := heap_setBlock_same hb _
  obtain ⟨es2, clock2, hes, hmv⟩ := hst _ (.int .i64 v) w1b
  have hcp : plainElem (H := Unit) Try.prog 3 (.int .i64 c) = some (.lit (.int .i64 c), []) := plainElem_int Try.underlying3 hcw
  have hvp : plainElem (H := Unit) Try.prog 3 (.int .i64 v) = some (.lit (.int .i64 v), []) := plainElem_int Try.underlying3 hv
  obtain ⟨wa, ra, oa, ta⟩ := hown0.store mk_law Try.underlying56 hn hkey hcp
  obtain ⟨wb, rb, ob, tb⟩ := hown0.store mk_law Try.underlying56 hn hkey hvp
  rw [hmu] at ra
  rw [hmv] at rb
  have ea : setBlock w g (.map es1 clock1) = wa := by injection ra
  have eb : setBlock w g (.map es2 clock2) = wb := by injection rb
  have e2 : setBlock (setBlock w g (.map es1 clock1)) g (.map es2 clock2) = setBlock w g (.map es2 clock2) := by
    unfold setBlock; simp
  subst ea
  subst eb
  rw [e2] at hes
  refine ⟨st, _, _, hme, ?_, hes, ta, tb, fun m' e1 e2 => MapIs.put hs hD hown0.isMap ob e1 e2⟩
  exact (MapIs.put hs hD hown0.isMap oa hc (fun _ _ => rfl)).run hs hc
end


/-! ### medlarlaw14_live: function 35 -/
def medlarlaw14_live.f (k : Nat)  : Option (Bool) := (store_Pairs.f k 2 2 0).bind fun bt551 => (if bt551.2 = 0 then ((medlarref08_Same.f k bt551.1 (([(⟨1, 0⟩ : S24), (⟨1, 3⟩ : S24), (⟨1, 5⟩ : S24), (⟨2, 5⟩ : S24)] : List (S24)))).bind fun t558 => (some t558)) else (some false))
theorem medlarlaw14_live.mono : ∀ k, LeO (medlarlaw14_live.f k ) (medlarlaw14_live.f (k + 1) ) := by
  intro  k
  unfold medlarlaw14_live.f
  repeat' first
      | (with_reducible exact medlarref08_Same.mono _ _ _)
      | (with_reducible exact store_Pairs.mono _ _ _ _)
      | (with_reducible exact LeO.refl _)
      | (with_reducible exact LeO.none _)
      | (with_reducible refine LeO.ite ?_ ?_)
      | (with_reducible refine LeO.bind ?_ (fun _ => ?_))
      | exact medlarref08_Same.mono _ _ _
      | exact store_Pairs.mono _ _ _ _
      | exact LeO.none _
      | refine LeO.ite ?_ ?_
      | refine LeO.bind ?_ (fun _ => ?_)
set_option maxHeartbeats 8000000 in
set_option maxRecDepth 100000 in
theorem medlarlaw14_live.calls (k : Nat)  (r : Bool) (w : World) (h : medlarlaw14_live.f k  = some r) :
    Calls Try.prog 35 #[] w fun e w' => e = .returned (.bool r) ∧ Below w.heap.size w w' := by
  have hu24 := Try.underlying24
  have HB := Aside0.mk (Below.refl w.heap.size w)
  have H : ((store_Pairs.f k 2 2 0).bind fun bt551 => (if bt551.2 = 0 then ((medlarref08_Same.f k bt551.1 (([(⟨1, 0⟩ : S24), (⟨1, 3⟩ : S24), (⟨1, 5⟩ : S24), (⟨2, 5⟩ : S24)] : List (S24)))).bind fun t558 => (some t558)) else (some false))) = some r := h
  clear h
  replace H := Option.bind_eq_some_iff.mp H
  obtain ⟨⟨t551, t552⟩, A10, H⟩ := H
  replace H : (if t552 = 0 then ((medlarref08_Same.f k t551 (([(⟨1, 0⟩ : S24), (⟨1, 3⟩ : S24), (⟨1, 5⟩ : S24), (⟨2, 5⟩ : S24)] : List (S24)))).bind fun t558 => (some t558)) else (some false)) = some r := H
  have A1 := Aside0.mk A10
  clear A10
  by_cases c2 : t552 = 0
  · rw [if_pos c2] at H
    have c2b0 : (t552 == 0) = true := beq_iff_eq.mpr c2
    have c2b1 : (t552 != 0) = false := bne_eq_false_iff_eq.mpr c2
    clear c2
    obtain ⟨y555, hy555⟩ : ∃ y_ : List (S24), y_ = (([(⟨1, 0⟩ : S24), (⟨1, 3⟩ : S24), (⟨1, 5⟩ : S24), (⟨2, 5⟩ : S24)] : List (S24))) := ⟨_, rfl⟩
    replace H : ((medlarref08_Same.f k t551 y555).bind fun t558 => (some t558)) = some r := by first | (rw [hy555]; with_reducible exact H) | (have H2_ := (Option.bind_some _ _).symm.trans H; rw [hy555]; with_reducible exact H2_) | (have H2_ := (Option.bind_some _ _).symm.trans H; with_reducible exact H2_) | with_reducible exact H | (rw [hy555]; exact H) | exact H
    have Ny555 := Aside0.mk hy555
    clear hy555
    replace H := Option.bind_eq_some_iff.mp H
    obtain ⟨t558, A30, H⟩ := H
    replace H : (some t558) = some r := H
    have A3 := Aside0.mk A30
    clear A30
    obtain rfl := Option.some.inj H
    go_enter Try.func35, Try.ntmps35
    go_wp2_with (first | ((with_reducible refine gate_callee (f := 36) rfl ?_); refine goesL_ (some 4) rfl rfl Try.func36 (by kernel_rfl) rfl #[.int .i64 2, .int .i64 2, .int .u64 0] rfl (by (try simp only [List.map_toArray, List.map_cons, List.map_nil]); first | done | rfl | (simp only [List.length_drop, List.length_take]; rfl)) ?_; (with_reducible refine (store_Pairs.calls k 2 2 0 t551 t552 _ A1.out).mono ?_); rintro e w4 ⟨v553, rfl, ho0, hb⟩; refine ⟨_, rfl, ?_⟩; have n0_ := Aside0.mk (Kd.R_lower ho0 (below_size (by repeat (first | (with_reducible first | exact HB.out | apply below_alloc | apply pw_below_drewN | apply below_drew1) | exact HB.out)))); have n1_ := Aside0.mk (below_step (by repeat (first | (with_reducible first | exact HB.out | apply below_alloc | apply pw_below_drewN | apply below_drew1) | exact HB.out)) hb); clear HB; have HO554 := n0_; have HB := n1_; clear n0_ n1_; (try clear hb); (try clear hb2); (try clear hk); (try clear hi); (try clear ho0)) | ((with_reducible refine gate_dst (N := 15) rfl ?_); (try (refine gate_guard (by rfl) ?_; dsimp only)); refine Kd.R_lit k24 _ 24 ?hg (N := 15) ?hd (xs := ([(⟨1, 0⟩ : S24), (⟨1, 3⟩ : S24), (⟨1, 5⟩ : S24), (⟨2, 5⟩ : S24)] : List (S24))) (inner := [.int .u64 1, .int .u64 0, .int .u64 1, .int .u64 3, .int .u64 1, .int .u64 5, .int .u64 2, .int .u64 5]) (ok := fun _ => True) (okp := fun _ => True) ?hr ?hp (fun _ hk => hk) trivial (Below.refl _ _) (Nat.le_refl _) (by simp) ?_; (case hd => rfl); (case hg => rfl); (case hr => first | (go_simp; done) | (go_simp; rfl)); (case hp => exact (Reps.c2 (show Kd.M k24 _ _ _ (⟨1, 0⟩ : S24) [.int .u64 1, .int .u64 0] from (k24_mkM _ _ _ (⟨1, 0⟩ : S24) )) (Reps.c2 (show Kd.M k24 _ _ _ (⟨1, 3⟩ : S24) [.int .u64 1, .int .u64 3] from (k24_mkM _ _ _ (⟨1, 3⟩ : S24) )) (Reps.c2 (show Kd.M k24 _ _ _ (⟨1, 5⟩ : S24) [.int .u64 1, .int .u64 5] from (k24_mkM _ _ _ (⟨1, 5⟩ : S24) )) (Reps.c2 (show Kd.M k24 _ _ _ (⟨2, 5⟩ : S24) [.int .u64 2, .int .u64 5] from (k24_mkM _ _ _ (⟨2, 5⟩ : S24) )) (Reps.none _ _)))))); intro v556 w5 ho6 hb hg_ hnew_; clear hg_ hnew_; (first | rw [← Ny555.out] at ho6 | (simp only [Int.reduceToNat] at ho6; rw [← Ny555.out] at ho6)); have n0_ := Aside0.mk (Kd.R_elder' (by (with_reducible repeat (first | apply Kd.R_alloc | apply Kd.R_drewN | apply Kd.R_drew)); exact HO554.out) (Kd.R_base ho6) hb); have n1_ := Aside0.mk (Kd.R_lower (Kd.R_new' ho6 (Kd.R_lt (by (with_reducible repeat (first | apply Kd.R_alloc | apply Kd.R_drewN | apply Kd.R_drew)); exact HO554.out))) (below_size (by repeat (first | (with_reducible first | exact HB.out | apply below_alloc | apply pw_below_drewN | apply below_drew1) | exact HB.out)))); have n2_ := Aside0.mk (below_step (by repeat (first | (with_reducible first | exact HB.out | apply below_alloc | apply pw_below_drewN | apply below_drew1) | exact HB.out)) hb); clear HO554; clear HB; have HO554 := n0_; have HO557 := n1_; have HB := n2_; clear n0_ n1_ n2_; clear hb ho6; obtain ⟨Ao7, co7, eo7⟩ := Kd.R_slice HO554.out; subst eo7; obtain ⟨Ao8, co8, eo8⟩ := Kd.R_slice HO557.out; subst eo8) | (go_at_call 21; (with_reducible refine (medlarref08_Same.calls k _ _ t551 _ _ y555 t558 _ ?side1 ?side2 ?side3 ?side4 A3.out).mono ?_); (case side1 => repeat (first | exact (Kd.R_reads' HO554.out).2.2 | (with_reducible refine Kd.C_alloc ?_ _) | (with_reducible refine Kd.C_drewN ?_ _) | (with_reducible refine Kd.C_drew ?_))); (case side2 => exact (Kd.R_reads' HO554.out).2.1); (case side3 => repeat (first | exact (Kd.R_reads' HO557.out).2.2 | (with_reducible refine Kd.C_alloc ?_ _) | (with_reducible refine Kd.C_drewN ?_ _) | (with_reducible refine Kd.C_drew ?_))); (case side4 => exact (Kd.R_reads' HO557.out).2.1); rintro e w' ⟨rfl, ⟨nd, rfl⟩⟩))
    go_ret
    exact ⟨by first | rfl | (simp [errW_none, errW_some] <;> rfl) | (simp [*, errW_none, errW_some] <;> rfl), by repeat (first | (with_reducible first | exact HB.out | apply below_alloc | apply pw_below_drewN | apply below_drew1) | exact HB.out)⟩
  · rw [if_neg c2] at H
    have c2b0 : (t552 == 0) = false := beq_eq_false_iff_ne.mpr c2
    have c2b1 : (t552 != 0) = true := bne_iff_ne.mpr c2
    obtain rfl := Option.some.inj H
    go_enter Try.func35, Try.ntmps35
    go_wp2_with (first | ((with_reducible refine gate_callee (f := 36) rfl ?_); refine goesL_ (some 4) rfl rfl Try.func36 (by kernel_rfl) rfl #[.int .i64 2, .int .i64 2, .int .u64 0] rfl (by (try simp only [List.map_toArray, List.map_cons, List.map_nil]); first | done | rfl | (simp only [List.length_drop, List.length_take]; rfl)) ?_; (with_reducible refine (store_Pairs.calls k 2 2 0 t551 t552 _ A1.out).mono ?_); rintro e w9 ⟨v553, rfl, ho0, hb⟩; refine ⟨_, rfl, ?_⟩; have n0_ := Aside0.mk (Kd.R_lower ho0 (below_size (by repeat (first | (with_reducible first | exact HB.out | apply below_alloc | apply pw_below_drewN | apply below_drew1) | exact HB.out)))); have n1_ := Aside0.mk (below_step (by repeat (first | (with_reducible first | exact HB.out | apply below_alloc | apply pw_below_drewN | apply below_drew1) | exact HB.out)) hb); clear HB; have HO554 := n0_; have HB := n1_; clear n0_ n1_; (try clear hb); (try clear hb2); (try clear hk); (try clear hi); (try clear ho0)))
    go_ret
    exact ⟨by first | rfl | (simp [errW_none, errW_some] <;> rfl) | (simp [*, errW_none, errW_some] <;> rfl), by repeat (first | (with_reducible first | exact HB.out | apply below_alloc | apply pw_below_drewN | apply below_drew1) | exact HB.out)⟩

end Go.Proofs.Ytccmoohcpaohmaa.MP
