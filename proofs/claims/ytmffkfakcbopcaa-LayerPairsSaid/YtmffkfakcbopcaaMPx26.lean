-- written by a program of this session (wip/tools/mprint.sh) for this seat
import Derived.Test.YtmffkfakcbopcaaMPx0
import Derived.Test.YtmffkfakcbopcaaMPx23
namespace Go.Proofs.Ytmffkfakcbopcaa.MP
open Go.RowKit Go.Proofs.YtmffkfakcbopcaaW.PrintWords Go.Proofs.YtmffkfakcbopcaaW.PrintLast Go.Proofs.YtmffkfakcbopcaaW.PrintMore
attribute [local go_sem] max2_int min2_int max_two min_two max_three min_three max_four min_four   -- for this text's walks alone
set_option linter.unusedVariables false
set_option linter.unusedSimpArgs false

/-! ### layer_Pairs: function 32 -/
def layer_Pairs.l0 : Nat → Int → Int → Int → Int → Int → Option (Int × Int)
  | 0, _, _, _, _, _ => none
  | k + 1, x0, x2, x4, x16, x17 => if x17 < x16 then (if x4 = 0 then (none) else (if (Int.tmod x17 x4) = 0 then (layer_Pairs.l0 k x0 (wrap64 (x2 + (wrap64 (x0 - x17)))) x4 x16 (wrap64 (x17 + 1))) else (layer_Pairs.l0 k x0 (wrap64 (x2 + (wrap64 ((mn (wrap64 ((wrap64 ((wrap64 (Int.tdiv x17 x4)) + 1)) * x4)) x0) - x17)))) x4 x16 (wrap64 (x17 + 1))))) else (some (x2, 0))
def layer_Pairs.f (k : Nat) (a0 : Int) : Option (Int × Int) := (sub_Step.f k a0).bind fun bt672 => (if bt672.2 = 0 then (layer_Pairs.l0 k a0 0 bt672.1 a0 0) else (some (0, bt672.2)))
theorem layer_Pairs.mono_l : ∀ k, (∀ y0 y1 y2 y3 y4, LeO (layer_Pairs.l0 k y0 y1 y2 y3 y4) (layer_Pairs.l0 (k + 1) y0 y1 y2 y3 y4))
  | 0 => fun _ _ _ _ _ r h => by simp [layer_Pairs.l0] at h
  | k + 1 => by
    have ih0 := layer_Pairs.mono_l k
    · intro y0 y1 y2 y3 y4
      unfold layer_Pairs.l0
      repeat' first
      | (with_reducible exact ih0 _ _ _ _ _)
      | (with_reducible exact sub_Step.mono _ _)
      | (with_reducible exact LeO.refl _)
      | (with_reducible exact LeO.none _)
      | (with_reducible refine LeO.ite ?_ ?_)
      | (with_reducible refine LeO.bind ?_ (fun _ => ?_))
      | exact ih0 _ _ _ _ _
      | exact sub_Step.mono _ _
      | exact LeO.none _
      | refine LeO.ite ?_ ?_
      | refine LeO.bind ?_ (fun _ => ?_)
theorem layer_Pairs.mono : ∀ a0 k, LeO (layer_Pairs.f k a0) (layer_Pairs.f (k + 1) a0) := by
  intro a0 k
  have ih0 := layer_Pairs.mono_l k
  unfold layer_Pairs.f
  repeat' first
      | (with_reducible exact ih0 _ _ _ _ _)
      | (with_reducible exact sub_Step.mono _ _)
      | (with_reducible exact LeO.refl _)
      | (with_reducible exact LeO.none _)
      | (with_reducible refine LeO.ite ?_ ?_)
      | (with_reducible refine LeO.bind ?_ (fun _ => ?_))
      | exact ih0 _ _ _ _ _
      | exact sub_Step.mono _ _
      | exact LeO.none _
      | refine LeO.ite ?_ ?_
      | refine LeO.bind ?_ (fun _ => ?_)
set_option maxHeartbeats 8000000 in
set_option maxRecDepth 100000 in
theorem layer_Pairs.calls (k : Nat) (a0 : Int) (r1 : Int) (r2 : Int) (w : World) (h : layer_Pairs.f k a0 = some (r1, r2)) :
    Calls Try.prog 32 #[.int .i64 a0] w fun e w' => e = .returned (.tuple #[.int .i64 r1, .int .i64 r2]) ∧ Below w.heap.size w w' := by
  have HB := Aside0.mk (Below.refl w.heap.size w)
  have H : ((sub_Step.f k a0).bind fun bt672 => (if bt672.2 = 0 then (layer_Pairs.l0 k a0 0 bt672.1 a0 0) else (some (0, bt672.2)))) = some (r1, r2) := h
  clear h
  replace H := Option.bind_eq_some_iff.mp H
  obtain ⟨⟨t672, t673⟩, A20, H⟩ := H
  replace H : (if t673 = 0 then (layer_Pairs.l0 k a0 0 t672 a0 0) else (some (0, t673))) = some (r1, r2) := H
  have A2 := Aside0.mk A20
  clear A20
  by_cases c3 : t673 = 0
  · rw [if_pos c3] at H
    have c3b0 : (t673 == 0) = true := beq_iff_eq.mpr c3
    have c3b1 : (t673 != 0) = false := bne_eq_false_iff_eq.mpr c3
    clear c3
    have H' := Aside0.mk H
    clear H
    go_enter Try.func32, Try.ntmps32
    go_wp2_with (first | ((with_reducible refine gate_callee (f := 33) rfl ?_); refine goesL_ (some 10) rfl rfl Try.func33 (by kernel_rfl) rfl #[.int .i64 a0] rfl (by (try simp only [List.map_toArray, List.map_cons, List.map_nil]); first | done | rfl | (simp only [List.length_drop, List.length_take]; rfl)) ?_; (with_reducible refine (sub_Step.calls k a0 t672 t673 _ A2.out).mono ?_); rintro e w' ⟨rfl, ⟨nd, rfl⟩⟩; refine ⟨_, rfl, ?_⟩))
    go_loopg [2, 17] k (fun kq v2 v17 w' => ∃ (x2_1 : Int) (x17_1 : Int), v2 = .int .i64 x2_1 ∧ v17 = .int .i64 x17_1 ∧ Aside0 (layer_Pairs.l0 kq a0 x2_1 t672 a0 x17_1 = some (r1, r2)) ∧ Aside0 (kq ≤ k) ∧ Aside0 (Below w.heap.size w w'))
    case atStart => exact ⟨(0), (0), (by first | rfl | (simp; done) | (simp [*]; done)), (by first | rfl | (simp; done) | (simp [*]; done)), H', ⟨Nat.le_refl _⟩, ⟨by repeat (first | (with_reducible first | exact HB.out | apply below_alloc | apply pw_below_drewN | apply below_drew1) | exact HB.out)⟩⟩
    case round =>
      clear H'
      try clear p2
      try clear c3
      try clear c3b0
      try clear c3b1
      obtain ⟨x2_1, x17_1, rfl, rfl, HA, HK1, HB⟩ := hrel
      cases gk with
      | zero => exact absurd HA.out (by simp [layer_Pairs.l0])
      | succ k1 =>
        have H := HA.out
        clear HA
        simp only [layer_Pairs.l0] at H
        by_cases c4 : x17_1 < a0
        · rw [if_pos c4] at H
          have c4b0 : decide (x17_1 < a0) = true := decide_eq_true c4
          clear c4
          by_cases c5 : t672 = 0
          · rw [if_pos c5] at H
            exact absurd H (by simp)
          · rw [if_neg c5] at H
            have c5b0 : (t672 == 0) = false := beq_eq_false_iff_ne.mpr c5
            have c5b1 : (t672 != 0) = true := bne_iff_ne.mpr c5
            obtain ⟨ji6, hji6⟩ : ∃ j_ : Int, (mn (wrap64 ((wrap64 ((wrap64 (Int.tdiv x17_1 t672)) + 1)) * t672)) a0) = j_ := ⟨_, rfl⟩
            replace H : (if (Int.tmod x17_1 t672) = 0 then (layer_Pairs.l0 k1 a0 (wrap64 (x2_1 + (wrap64 (a0 - x17_1)))) t672 a0 (wrap64 (x17_1 + 1))) else (layer_Pairs.l0 k1 a0 (wrap64 (x2_1 + (wrap64 ((ji6) - x17_1)))) t672 a0 (wrap64 (x17_1 + 1)))) = some (r1, r2) := by first | (rw [hji6] at H; exact H) | (simp only [hji6] at H ⊢; exact H)
            have hji6_ : (if a0 < (wrap64 ((wrap64 ((wrap64 (Int.tdiv x17_1 t672)) + 1)) * t672)) then a0 else (wrap64 ((wrap64 ((wrap64 (Int.tdiv x17_1 t672)) + 1)) * t672))) = ji6 := hji6
            by_cases c7 : (Int.tmod x17_1 t672) = 0
            · rw [if_pos c7] at H
              have c7b0 : ((Int.tmod x17_1 t672) == 0) = true := beq_iff_eq.mpr c7
              have c7b1 : ((Int.tmod x17_1 t672) != 0) = false := bne_eq_false_iff_eq.mpr c7
              clear c7
              have H' := Aside0.mk H
              clear H
              go_wp2
              go_roundg k1
              case measure => have := HK1.out; omega
              case rel => exact ⟨(wrap64 (x2_1 + (wrap64 (a0 - x17_1)))), (wrap64 (x17_1 + 1)), (by first | rfl | (simp; done) | (simp [*]; done)), (by first | rfl | (simp; done) | (simp [*]; done)), H', ⟨by have := HK1.out; omega⟩, ⟨by repeat (first | (with_reducible first | exact HB.out | apply below_alloc | apply pw_below_drewN | apply below_drew1) | exact HB.out)⟩⟩
            · rw [if_neg c7] at H
              have c7b0 : ((Int.tmod x17_1 t672) == 0) = false := beq_eq_false_iff_ne.mpr c7
              have c7b1 : ((Int.tmod x17_1 t672) != 0) = true := bne_iff_ne.mpr c7
              have H' := Aside0.mk H
              clear H
              go_wp2
              go_roundg k1
              case measure => have := HK1.out; omega
              case rel => exact ⟨(wrap64 (x2_1 + (wrap64 ((ji6) - x17_1)))), (wrap64 (x17_1 + 1)), (by first | rfl | (simp; done) | (simp only [← hji6] <;> (first | rfl | simp)) | (simp [*]; done)), (by first | rfl | (simp; done) | (simp [*]; done)), H', ⟨by have := HK1.out; omega⟩, ⟨by repeat (first | (with_reducible first | exact HB.out | apply below_alloc | apply pw_below_drewN | apply below_drew1) | exact HB.out)⟩⟩
        · rw [if_neg c4] at H
          have c4b0 : decide (x17_1 < a0) = false := decide_eq_false c4
          clear c4
          simp only [Option.some.injEq, Prod.mk.injEq] at H
          obtain ⟨rfl, rfl⟩ := H
          go_wp2
          go_ret2
          exact ⟨by first | rfl | (simp [errW_none, errW_some] <;> rfl) | (simp [*, errW_none, errW_some] <;> rfl), by repeat (first | (with_reducible first | exact HB.out | apply below_alloc | apply pw_below_drewN | apply below_drew1) | exact HB.out)⟩
  · rw [if_neg c3] at H
    have c3b0 : (t673 == 0) = false := beq_eq_false_iff_ne.mpr c3
    have c3b1 : (t673 != 0) = true := bne_iff_ne.mpr c3
    simp only [Option.some.injEq, Prod.mk.injEq] at H
    obtain ⟨rfl, rfl⟩ := H
    go_enter Try.func32, Try.ntmps32
    go_wp2_with (first | ((with_reducible refine gate_callee (f := 33) rfl ?_); refine goesL_ (some 10) rfl rfl Try.func33 (by kernel_rfl) rfl #[.int .i64 a0] rfl (by (try simp only [List.map_toArray, List.map_cons, List.map_nil]); first | done | rfl | (simp only [List.length_drop, List.length_take]; rfl)) ?_; (with_reducible refine (sub_Step.calls k a0 t672 t673 _ A2.out).mono ?_); rintro e w' ⟨rfl, ⟨nd, rfl⟩⟩; refine ⟨_, rfl, ?_⟩))
    go_ret2
    exact ⟨by first | rfl | (simp [errW_none, errW_some] <;> rfl) | (simp [*, errW_none, errW_some] <;> rfl), by repeat (first | (with_reducible first | exact HB.out | apply below_alloc | apply pw_below_drewN | apply below_drew1) | exact HB.out)⟩

end Go.Proofs.Ytmffkfakcbopcaa.MP
