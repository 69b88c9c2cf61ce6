-- written by a program of this session (wip/tools/mprint.sh) for this seat
import Derived.Test.YtoikjfcdpiikbaaMPx0
import Derived.Test.YtoikjfcdpiikbaaMPx3
import Derived.Test.YtoikjfcdpiikbaaMPx4
import Derived.Test.YtoikjfcdpiikbaaMPx21
import Derived.Test.YtoikjfcdpiikbaaMPx23
namespace Go.Proofs.Ytoikjfcdpiikbaa.MP
open Go.RowKit Go.Proofs.YtoikjfcdpiikbaaW.PrintWords Go.Proofs.YtoikjfcdpiikbaaW.PrintLast Go.Proofs.YtoikjfcdpiikbaaW.PrintMore
attribute [local go_sem] max2_int min2_int max_two min_two max_three min_three max_four min_four   -- for this text's walks alone
set_option linter.unusedVariables false
set_option linter.unusedSimpArgs false

/-! ### medlarlaw09_SteinerAbove: function 8 -/
mutual
def medlarlaw09_SteinerAbove.j0 : Nat → Int → List Int → Int → Bool → Bool → Bool → Bool → Bool → Option (Bool)
  | 0, _, _, _, _, _, _, _, _ => none
  | k + 1, x0, x1, x2, x9, x10, x12, x14, x57 => if x57 = true then (some x9) else (if x14 = true then (if x10 = true then (medlarlaw09_SteinerAbove.j1 k x0 x1 x2 x9 x10 x12 (!x12)) else (medlarlaw09_SteinerAbove.j1 k x0 x1 x2 x9 x10 x12 false)) else (medlarlaw09_SteinerAbove.j1 k x0 x1 x2 x9 x10 x12 false))
def medlarlaw09_SteinerAbove.j1 : Nat → Int → List Int → Int → Bool → Bool → Bool → Bool → Option (Bool)
  | 0, _, _, _, _, _, _, _ => none
  | k + 1, x0, x1, x2, x9, x10, x12, x66 => if x66 = true then (some false) else (if (x1.length : Int) = 0 then (if x9 = true then (if x10 = true then (some false) else (some (!x12))) else (some false)) else (if 1 ≤ (x1.length : Int) then ((steiner_Is.f k x0 (x1.drop 1) x2).bind fun bt392 => ((steiner_Many.f k x0 x1).bind fun bt394 => ((steiner_Many.f k x0 (x1.drop 1)).bind fun bt397 => (if x9 = true then (if bt392.2 = 0 then (if bt394.2 = 0 then (if bt397.2 = 0 then (if bt392.1 = true then (if x10 = true then (if bt397.1 < bt394.1 then (some (decide (bt394.1 ≤ (wrap64 ((wrap64 (bt397.1 + x0)) + 1))))) else (some false)) else (some false)) else (if bt397.1 < bt394.1 then (some (decide (bt394.1 ≤ (wrap64 ((wrap64 (bt397.1 + x0)) + 1))))) else (some false))) else (some false)) else (some false)) else (some false)) else (some false))))) else (none)))
end
def medlarlaw09_SteinerAbove.f (k : Nat) (a0 : Int) (l1 : List Int) (a2 : Int) (a3 : Int) : Option (Bool) := (medlarlaw09_live.f k).bind fun t384 => (if (l1.length : Int) > 30 then (some t384) else ((steiner_Is.f k a0 l1 a2).bind fun bt385 => ((steiner_Is.f k a0 l1 a3).bind fun bt387 => ((node_Above.f k a0 a3 a2).bind fun bt389 => (if bt385.2 = 0 then (if bt387.2 = 0 then (medlarlaw09_SteinerAbove.j0 k a0 l1 a2 t384 bt385.1 bt387.1 bt389.1 (bt389.2 != 0)) else (medlarlaw09_SteinerAbove.j0 k a0 l1 a2 t384 bt385.1 bt387.1 bt389.1 true)) else (medlarlaw09_SteinerAbove.j0 k a0 l1 a2 t384 bt385.1 bt387.1 bt389.1 true))))))
theorem medlarlaw09_SteinerAbove.mono_l : ∀ k, (∀ y0 y1 y2 y3 y4 y5 y6 y7, LeO (medlarlaw09_SteinerAbove.j0 k y0 y1 y2 y3 y4 y5 y6 y7) (medlarlaw09_SteinerAbove.j0 (k + 1) y0 y1 y2 y3 y4 y5 y6 y7)) ∧ (∀ y0 y1 y2 y3 y4 y5 y6, LeO (medlarlaw09_SteinerAbove.j1 k y0 y1 y2 y3 y4 y5 y6) (medlarlaw09_SteinerAbove.j1 (k + 1) y0 y1 y2 y3 y4 y5 y6))
  | 0 => ⟨fun _ _ _ _ _ _ _ _ r h => by simp [medlarlaw09_SteinerAbove.j0] at h, fun _ _ _ _ _ _ _ r h => by simp [medlarlaw09_SteinerAbove.j1] at h⟩
  | k + 1 => by
    obtain ⟨ih0, ih1⟩ := medlarlaw09_SteinerAbove.mono_l k
    refine ⟨?_, ?_⟩
    · intro y0 y1 y2 y3 y4 y5 y6 y7
      unfold medlarlaw09_SteinerAbove.j0
      repeat' first
      | (with_reducible exact ih0 _ _ _ _ _ _ _ _)
      | (with_reducible exact ih1 _ _ _ _ _ _ _)
      | (with_reducible exact medlarlaw09_live.mono _)
      | (with_reducible exact node_Above.mono _ _ _ _)
      | (with_reducible exact steiner_Is.mono _ _ _ _)
      | (with_reducible exact steiner_Many.mono _ _ _)
      | (with_reducible exact LeO.refl _)
      | (with_reducible exact LeO.none _)
      | (with_reducible refine LeO.ite ?_ ?_)
      | (with_reducible refine LeO.bind ?_ (fun _ => ?_))
      | exact ih0 _ _ _ _ _ _ _ _
      | exact ih1 _ _ _ _ _ _ _
      | exact medlarlaw09_live.mono _
      | exact node_Above.mono _ _ _ _
      | exact steiner_Is.mono _ _ _ _
      | exact steiner_Many.mono _ _ _
      | exact LeO.none _
      | refine LeO.ite ?_ ?_
      | refine LeO.bind ?_ (fun _ => ?_)
    · intro y0 y1 y2 y3 y4 y5 y6
      unfold medlarlaw09_SteinerAbove.j1
      repeat' first
      | (with_reducible exact ih0 _ _ _ _ _ _ _ _)
      | (with_reducible exact ih1 _ _ _ _ _ _ _)
      | (with_reducible exact medlarlaw09_live.mono _)
      | (with_reducible exact node_Above.mono _ _ _ _)
      | (with_reducible exact steiner_Is.mono _ _ _ _)
      | (with_reducible exact steiner_Many.mono _ _ _)
      | (with_reducible exact LeO.refl _)
      | (with_reducible exact LeO.none _)
      | (with_reducible refine LeO.ite ?_ ?_)
      | (with_reducible refine LeO.bind ?_ (fun _ => ?_))
      | exact ih0 _ _ _ _ _ _ _ _
      | exact ih1 _ _ _ _ _ _ _
      | exact medlarlaw09_live.mono _
      | exact node_Above.mono _ _ _ _
      | exact steiner_Is.mono _ _ _ _
      | exact steiner_Many.mono _ _ _
      | exact LeO.none _
      | refine LeO.ite ?_ ?_
      | refine LeO.bind ?_ (fun _ => ?_)
theorem medlarlaw09_SteinerAbove.mono : ∀ a0 a1 a2 a3 k, LeO (medlarlaw09_SteinerAbove.f k a0 a1 a2 a3) (medlarlaw09_SteinerAbove.f (k + 1) a0 a1 a2 a3) := by
  intro a0 a1 a2 a3 k
  obtain ⟨ih0, ih1⟩ := medlarlaw09_SteinerAbove.mono_l k
  unfold medlarlaw09_SteinerAbove.f
  repeat' first
      | (with_reducible exact ih0 _ _ _ _ _ _ _ _)
      | (with_reducible exact ih1 _ _ _ _ _ _ _)
      | (with_reducible exact medlarlaw09_live.mono _)
      | (with_reducible exact node_Above.mono _ _ _ _)
      | (with_reducible exact steiner_Is.mono _ _ _ _)
      | (with_reducible exact steiner_Many.mono _ _ _)
      | (with_reducible exact LeO.refl _)
      | (with_reducible exact LeO.none _)
      | (with_reducible refine LeO.ite ?_ ?_)
      | (with_reducible refine LeO.bind ?_ (fun _ => ?_))
      | exact ih0 _ _ _ _ _ _ _ _
      | exact ih1 _ _ _ _ _ _ _
      | exact medlarlaw09_live.mono _
      | exact node_Above.mono _ _ _ _
      | exact steiner_Is.mono _ _ _ _
      | exact steiner_Many.mono _ _ _
      | exact LeO.none _
      | refine LeO.ite ?_ ?_
      | refine LeO.bind ?_ (fun _ => ?_)
set_option maxHeartbeats 8000000 in
set_option maxRecDepth 100000 in
theorem medlarlaw09_SteinerAbove.calls (k : Nat) (a0 : Int) (A1 : Option Addr) (c1 : Nat) (l1 : List Int) (a2 : Int) (a3 : Int) (r : Bool) (w : World) (hr1 : Kd.C (Kd.int .u64) w A1 l1.length l1) (hc1 : l1.length ≤ c1) (h : medlarlaw09_SteinerAbove.f k a0 l1 a2 a3 = some r) (hT : Aside0 (r = true)) :
    Calls Try.prog 8 #[.int .i64 a0, .slice A1 l1.length c1, .int .u64 a2, .int .u64 a3] w fun e w' => e = .returned (.bool r) ∧ Below w.heap.size w w' := by
  have HR1 := Aside0.mk hr1
  have HC1 := Aside0.mk hc1
  clear hr1 hc1
  have HB := Aside0.mk (Below.refl w.heap.size w)
  have H : ((medlarlaw09_live.f k).bind fun t384 => (if (l1.length : Int) > 30 then (some t384) else ((steiner_Is.f k a0 l1 a2).bind fun bt385 => ((steiner_Is.f k a0 l1 a3).bind fun bt387 => ((node_Above.f k a0 a3 a2).bind fun bt389 => (if bt385.2 = 0 then (if bt387.2 = 0 then (medlarlaw09_SteinerAbove.j0 k a0 l1 a2 t384 bt385.1 bt387.1 bt389.1 (bt389.2 != 0)) else (medlarlaw09_SteinerAbove.j0 k a0 l1 a2 t384 bt385.1 bt387.1 bt389.1 true)) else (medlarlaw09_SteinerAbove.j0 k a0 l1 a2 t384 bt385.1 bt387.1 bt389.1 true))))))) = some r := h
  clear h
  replace H := Option.bind_eq_some_iff.mp H
  obtain ⟨t384, A50, H⟩ := H
  replace H : (if (l1.length : Int) > 30 then (some t384) else ((steiner_Is.f k a0 l1 a2).bind fun bt385 => ((steiner_Is.f k a0 l1 a3).bind fun bt387 => ((node_Above.f k a0 a3 a2).bind fun bt389 => (if bt385.2 = 0 then (if bt387.2 = 0 then (medlarlaw09_SteinerAbove.j0 k a0 l1 a2 t384 bt385.1 bt387.1 bt389.1 (bt389.2 != 0)) else (medlarlaw09_SteinerAbove.j0 k a0 l1 a2 t384 bt385.1 bt387.1 bt389.1 true)) else (medlarlaw09_SteinerAbove.j0 k a0 l1 a2 t384 bt385.1 bt387.1 bt389.1 true)))))) = some r := H
  have A5 := Aside0.mk A50
  clear A50
  by_cases c6 : (l1.length : Int) > 30
  · rw [if_pos c6] at H
    have c6b0 : decide (30 < (l1.length : Int)) = true := decide_eq_true c6
    have c6b1 : decide (30 < l1.length) = true := decide_eq_true (by omega)
    clear c6
    obtain rfl := Option.some.inj H
    go_enter Try.func8, Try.ntmps8
    go_wp2_with (first | ((with_reducible refine gate_callee (f := 14) rfl ?_); refine goesL_ (some 22) rfl rfl Try.func14 (by kernel_rfl) rfl #[] rfl (by (try simp only [List.map_toArray, List.map_cons, List.map_nil]); first | done | rfl | (simp only [List.length_drop, List.length_take]; rfl)) ?_; (with_reducible refine (medlarlaw09_live.calls k  t384 _ A5.out).mono ?_); rintro e w7 ⟨rfl, hb⟩; refine ⟨_, rfl, ?_⟩; have n0_ := Aside0.mk (below_step (by repeat (first | (with_reducible first | exact HB.out | apply below_alloc | apply pw_below_drewN | apply below_drew1) | exact HB.out)) hb); clear HB; have HB := n0_; clear n0_; (try clear hb); (try clear hb2); (try clear hk); (try clear hi)))
    go_ret
    exact ⟨by first | rfl | (simp [errW_none, errW_some] <;> rfl) | (simp [*, errW_none, errW_some] <;> rfl), by repeat (first | (with_reducible first | exact HB.out | apply below_alloc | apply pw_below_drewN | apply below_drew1) | exact HB.out)⟩
  · rw [if_neg c6] at H
    have c6b0 : decide (30 < (l1.length : Int)) = false := decide_eq_false c6
    have c6b1 : decide (30 < l1.length) = false := decide_eq_false (by omega)
    clear c6
    replace H := Option.bind_eq_some_iff.mp H
    obtain ⟨⟨t385, t386⟩, A80, H⟩ := H
    replace H : ((steiner_Is.f k a0 l1 a3).bind fun bt387 => ((node_Above.f k a0 a3 a2).bind fun bt389 => (if t386 = 0 then (if bt387.2 = 0 then (medlarlaw09_SteinerAbove.j0 k a0 l1 a2 t384 t385 bt387.1 bt389.1 (bt389.2 != 0)) else (medlarlaw09_SteinerAbove.j0 k a0 l1 a2 t384 t385 bt387.1 bt389.1 true)) else (medlarlaw09_SteinerAbove.j0 k a0 l1 a2 t384 t385 bt387.1 bt389.1 true)))) = some r := H
    have A8 := Aside0.mk A80
    clear A80
    replace H := Option.bind_eq_some_iff.mp H
    obtain ⟨⟨t387, t388⟩, A90, H⟩ := H
    replace H : ((node_Above.f k a0 a3 a2).bind fun bt389 => (if t386 = 0 then (if t388 = 0 then (medlarlaw09_SteinerAbove.j0 k a0 l1 a2 t384 t385 t387 bt389.1 (bt389.2 != 0)) else (medlarlaw09_SteinerAbove.j0 k a0 l1 a2 t384 t385 t387 bt389.1 true)) else (medlarlaw09_SteinerAbove.j0 k a0 l1 a2 t384 t385 t387 bt389.1 true))) = some r := H
    have A9 := Aside0.mk A90
    clear A90
    replace H := Option.bind_eq_some_iff.mp H
    obtain ⟨⟨t389, t390⟩, A100, H⟩ := H
    replace H : (if t386 = 0 then (if t388 = 0 then (medlarlaw09_SteinerAbove.j0 k a0 l1 a2 t384 t385 t387 t389 (t390 != 0)) else (medlarlaw09_SteinerAbove.j0 k a0 l1 a2 t384 t385 t387 t389 true)) else (medlarlaw09_SteinerAbove.j0 k a0 l1 a2 t384 t385 t387 t389 true)) = some r := H
    have A10 := Aside0.mk A100
    clear A100
    have HC11 := Aside0.mk H
    clear H
    go_enter Try.func8, Try.ntmps8
    go_upto_region 7 with (first | ((with_reducible refine gate_callee (f := 14) rfl ?_); refine goesL_ (some 22) rfl rfl Try.func14 (by kernel_rfl) rfl #[] rfl (by (try simp only [List.map_toArray, List.map_cons, List.map_nil]); first | done | rfl | (simp only [List.length_drop, List.length_take]; rfl)) ?_; (with_reducible refine (medlarlaw09_live.calls k  t384 _ A5.out).mono ?_); rintro e w12 ⟨rfl, hb⟩; refine ⟨_, rfl, ?_⟩; have n0_ := Aside0.mk (below_step (by repeat (first | (with_reducible first | exact HB.out | apply below_alloc | apply pw_below_drewN | apply below_drew1) | exact HB.out)) hb); clear HB; have HB := n0_; clear n0_; (try clear hb); (try clear hb2); (try clear hk); (try clear hi)) | ((with_reducible refine gate_callee (f := 27) rfl ?_); refine goesL_ (some 31) rfl rfl Try.func27 (by kernel_rfl) rfl #[.int .i64 a0, .slice A1 l1.length c1, .int .u64 a2] rfl (by (try simp only [List.map_toArray, List.map_cons, List.map_nil]); first | done | rfl | (simp only [List.length_drop, List.length_take]; rfl)) ?_; (with_reducible refine (steiner_Is.calls k a0 _ _ l1 a2 t385 t386 _ ?side1 ?side2 A8.out).mono ?_); (case side1 => repeat (first | exact (Kd.C_below HR1.out HB.out) | (with_reducible refine Kd.C_alloc ?_ _) | (with_reducible refine Kd.C_drewN ?_ _) | (with_reducible refine Kd.C_drew ?_))); (case side2 => exact HC1.out); rintro e w13 ⟨rfl, hb⟩; refine ⟨_, rfl, ?_⟩; have n0_ := Aside0.mk (below_step (by repeat (first | (with_reducible first | exact HB.out | apply below_alloc | apply pw_below_drewN | apply below_drew1) | exact HB.out)) hb); clear HB; have HB := n0_; clear n0_; (try clear hb); (try clear hb2); (try clear hk); (try clear hi)) | ((with_reducible refine gate_callee (f := 27) rfl ?_); refine goesL_ (some 38) rfl rfl Try.func27 (by kernel_rfl) rfl #[.int .i64 a0, .slice A1 l1.length c1, .int .u64 a3] rfl (by (try simp only [List.map_toArray, List.map_cons, List.map_nil]); first | done | rfl | (simp only [List.length_drop, List.length_take]; rfl)) ?_; (with_reducible refine (steiner_Is.calls k a0 _ _ l1 a3 t387 t388 _ ?side1 ?side2 A9.out).mono ?_); (case side1 => repeat (first | exact (Kd.C_below HR1.out HB.out) | (with_reducible refine Kd.C_alloc ?_ _) | (with_reducible refine Kd.C_drewN ?_ _) | (with_reducible refine Kd.C_drew ?_))); (case side2 => exact HC1.out); rintro e w14 ⟨rfl, hb⟩; refine ⟨_, rfl, ?_⟩; have n0_ := Aside0.mk (below_step (by repeat (first | (with_reducible first | exact HB.out | apply below_alloc | apply pw_below_drewN | apply below_drew1) | exact HB.out)) hb); clear HB; have HB := n0_; clear n0_; (try clear hb); (try clear hb2); (try clear hk); (try clear hi)) | ((with_reducible refine gate_callee (f := 28) rfl ?_); refine goesL_ (some 45) rfl rfl Try.func28 (by kernel_rfl) rfl #[.int .i64 a0, .int .u64 a3, .int .u64 a2] rfl (by (try simp only [List.map_toArray, List.map_cons, List.map_nil]); first | done | rfl | (simp only [List.length_drop, List.length_take]; rfl)) ?_; (with_reducible refine (node_Above.calls k a0 a3 a2 t389 t390 _ A10.out).mono ?_); rintro e w' ⟨rfl, ⟨nd, rfl⟩⟩; refine ⟨_, rfl, ?_⟩))
    (try simp only [Act.put, List.setIfInBounds_toArray, List.set_cons_zero, List.set_cons_succ])
    go_cut [57] (fun v57 wc => ∃ (kq : Nat) (x57_10 : Bool), v57 = .bool x57_10 ∧ Aside0 (medlarlaw09_SteinerAbove.j0 kq a0 l1 a2 t384 t385 t387 t389 x57_10 = some r) ∧ Aside0 (kq ≤ k) ∧ Aside0 (Below w.heap.size w wc))
    case first =>
      have H := HC11.out
      clear HC11
      by_cases c15 : t386 = 0
      · rw [if_pos c15] at H
        have c15b0 : (t386 == 0) = true := beq_iff_eq.mpr c15
        have c15b1 : (t386 != 0) = false := bne_eq_false_iff_eq.mpr c15
        clear c15
        (first | rw [c15b0] | (simp only [i64_w, i32_w]; rw [c15b0]) | skip)
        by_cases c16 : t388 = 0
        · rw [if_pos c16] at H
          have c16b0 : (t388 == 0) = true := beq_iff_eq.mpr c16
          have c16b1 : (t388 != 0) = false := bne_eq_false_iff_eq.mpr c16
          clear c16
          have H' := Aside0.mk H
          clear H
          go_wp2
          go_meet
          case rel => exact ⟨_, ((t390 != 0)), (by first | rfl | (simp; done) | (simp [*]; done)), H', ⟨by first | omega | exact Nat.le_refl _⟩, ⟨by repeat (first | (with_reducible first | exact HB.out | apply below_alloc | apply pw_below_drewN | apply below_drew1) | exact HB.out)⟩⟩
        · rw [if_neg c16] at H
          have c16b0 : (t388 == 0) = false := beq_eq_false_iff_ne.mpr c16
          have c16b1 : (t388 != 0) = true := bne_iff_ne.mpr c16
          have H' := Aside0.mk H
          clear H
          go_wp2
          go_meet
          case rel => exact ⟨_, (true), (by first | rfl | (simp; done) | (simp [*]; done)), H', ⟨by first | omega | exact Nat.le_refl _⟩, ⟨by repeat (first | (with_reducible first | exact HB.out | apply below_alloc | apply pw_below_drewN | apply below_drew1) | exact HB.out)⟩⟩
      · rw [if_neg c15] at H
        have c15b0 : (t386 == 0) = false := beq_eq_false_iff_ne.mpr c15
        have c15b1 : (t386 != 0) = true := bne_iff_ne.mpr c15
        (first | rw [c15b0] | (simp only [i64_w, i32_w]; rw [c15b0]) | skip)
        have H' := Aside0.mk H
        clear H
        go_wp2
        go_meet
        case rel => exact ⟨_, (true), (by first | rfl | (simp; done) | (simp [*]; done)), H', ⟨by first | omega | exact Nat.le_refl _⟩, ⟨by repeat (first | (with_reducible first | exact HB.out | apply below_alloc | apply pw_below_drewN | apply below_drew1) | exact HB.out)⟩⟩
    case rest =>
      clear HC11
      try clear c1
      try clear c2
      try clear p2
      try clear c6
      try clear c6b0
      try clear c6b1
      try clear c8
      try clear c14
      try clear c15
      try clear c15b0
      try clear c15b1
      try clear c16
      try clear c16b0
      try clear c16b1
      obtain ⟨kq, x57_10, rfl, HA, HJ10, HB⟩ := hcut
      cases kq with
      | zero => exact absurd HA.out (by simp [medlarlaw09_SteinerAbove.j0])
      | succ kj10 =>
        have H := HA.out
        clear HA
        simp only [medlarlaw09_SteinerAbove.j0] at H
        by_cases c17 : x57_10 = true
        · subst c17
          have H1 : (some t384) = some r := by rw [if_pos rfl] at H; exact H
          clear H
          have H := H1
          clear H1
          obtain rfl := Option.some.inj H
          go_wp2
          go_ret
          exact ⟨by first | rfl | (simp [errW_none, errW_some] <;> rfl) | (simp [*, errW_none, errW_some] <;> rfl), by repeat (first | (with_reducible first | exact HB.out | apply below_alloc | apply pw_below_drewN | apply below_drew1) | exact HB.out)⟩
        · replace c17 := Bool.eq_false_iff.mpr c17
          subst c17
          have H1 : (if t389 = true then (if t385 = true then (medlarlaw09_SteinerAbove.j1 kj10 a0 l1 a2 t384 t385 t387 (!t387)) else (medlarlaw09_SteinerAbove.j1 kj10 a0 l1 a2 t384 t385 t387 false)) else (medlarlaw09_SteinerAbove.j1 kj10 a0 l1 a2 t384 t385 t387 false)) = some r := by rw [if_neg (show ¬ (false = true) by decide)] at H; exact H
          clear H
          have H := H1
          clear H1
          have HC18 := Aside0.mk H
          clear H
          go_upto_region 9 with (fail)
          go_cut [66] (fun v66 wc => ∃ (kq : Nat) (x66_17 : Bool), v66 = .bool x66_17 ∧ Aside0 (medlarlaw09_SteinerAbove.j1 kq a0 l1 a2 t384 t385 t387 x66_17 = some r) ∧ Aside0 (kq ≤ kj10) ∧ Aside0 (Below w.heap.size w wc))
          case first =>
            have H := HC18.out
            clear HC18
            by_cases c19 : t389 = true
            · subst c19
              have H1 : (if t385 = true then (medlarlaw09_SteinerAbove.j1 kj10 a0 l1 a2 t384 t385 t387 (!t387)) else (medlarlaw09_SteinerAbove.j1 kj10 a0 l1 a2 t384 t385 t387 false)) = some r := by rw [if_pos rfl] at H; exact H
              clear H
              have H := H1
              clear H1
              by_cases c20 : t385 = true
              · subst c20
                have H1 : (medlarlaw09_SteinerAbove.j1 kj10 a0 l1 a2 t384 true t387 (!t387)) = some r := by rw [if_pos rfl] at H; exact H
                clear H
                have H := H1
                clear H1
                have H' := Aside0.mk H
                clear H
                go_wp2
                go_meet
                case rel => exact ⟨_, (!t387), (by first | rfl | (simp; done) | (simp [*]; done)), H', ⟨by have := HJ10.out; first | omega | exact Nat.le_refl _⟩, ⟨by repeat (first | (with_reducible first | exact HB.out | apply below_alloc | apply pw_below_drewN | apply below_drew1) | exact HB.out)⟩⟩
              · replace c20 := Bool.eq_false_iff.mpr c20
                subst c20
                have H1 : (medlarlaw09_SteinerAbove.j1 kj10 a0 l1 a2 t384 false t387 false) = some r := by rw [if_neg (show ¬ (false = true) by decide)] at H; exact H
                clear H
                have H := H1
                clear H1
                have H' := Aside0.mk H
                clear H
                go_wp2
                go_meet
                case rel => exact ⟨_, (false), (by first | rfl | (simp; done) | (simp [*]; done)), H', ⟨by have := HJ10.out; first | omega | exact Nat.le_refl _⟩, ⟨by repeat (first | (with_reducible first | exact HB.out | apply below_alloc | apply pw_below_drewN | apply below_drew1) | exact HB.out)⟩⟩
            · replace c19 := Bool.eq_false_iff.mpr c19
              subst c19
              have H1 : (medlarlaw09_SteinerAbove.j1 kj10 a0 l1 a2 t384 t385 t387 false) = some r := by rw [if_neg (show ¬ (false = true) by decide)] at H; exact H
              clear H
              have H := H1
              clear H1
              have H' := Aside0.mk H
              clear H
              go_wp2
              go_meet
              case rel => exact ⟨_, (false), (by first | rfl | (simp; done) | (simp [*]; done)), H', ⟨by have := HJ10.out; first | omega | exact Nat.le_refl _⟩, ⟨by repeat (first | (with_reducible first | exact HB.out | apply below_alloc | apply pw_below_drewN | apply below_drew1) | exact HB.out)⟩⟩
          case rest =>
            clear HC18
            try clear c1
            try clear c2
            try clear p2
            try clear c6
            try clear c6b0
            try clear c6b1
            try clear c8
            try clear c14
            try clear c15
            try clear c15b0
            try clear c15b1
            try clear c16
            try clear c16b0
            try clear c16b1
            try clear c17
            try clear c19
            try clear c20
            try clear p2
            obtain ⟨kq, x66_17, rfl, HA, HJ17, HB⟩ := hcut
            cases kq with
            | zero => exact absurd HA.out (by simp [medlarlaw09_SteinerAbove.j1])
            | succ kj17 =>
              have H := HA.out
              clear HA
              simp only [medlarlaw09_SteinerAbove.j1] at H
              by_cases c21 : x66_17 = true
              · subst c21
                have H1 : (some false) = some r := by rw [if_pos rfl] at H; exact H
                clear H
                have H := H1
                clear H1
                exact absurd ((Option.some.inj H).trans hT.out) Bool.false_ne_true
              · replace c21 := Bool.eq_false_iff.mpr c21
                subst c21
                have H1 : (if (l1.length : Int) = 0 then (if t384 = true then (if t385 = true then (some false) else (some (!t387))) else (some false)) else (if 1 ≤ (l1.length : Int) then ((steiner_Is.f kj17 a0 (l1.drop 1) a2).bind fun bt392 => ((steiner_Many.f kj17 a0 l1).bind fun bt394 => ((steiner_Many.f kj17 a0 (l1.drop 1)).bind fun bt397 => (if t384 = true then (if bt392.2 = 0 then (if bt394.2 = 0 then (if bt397.2 = 0 then (if bt392.1 = true then (if t385 = true then (if bt397.1 < bt394.1 then (some (decide (bt394.1 ≤ (wrap64 ((wrap64 (bt397.1 + a0)) + 1))))) else (some false)) else (some false)) else (if bt397.1 < bt394.1 then (some (decide (bt394.1 ≤ (wrap64 ((wrap64 (bt397.1 + a0)) + 1))))) else (some false))) else (some false)) else (some false)) else (some false)) else (some false))))) else (none))) = some r := by rw [if_neg (show ¬ (false = true) by decide)] at H; exact H
                clear H
                have H := H1
                clear H1
                by_cases c22 : (l1.length : Int) = 0
                · rw [if_pos c22] at H
                  have c22b0 : ((l1.length : Int) == 0) = true := beq_iff_eq.mpr c22
                  have c22b1 : ((l1.length : Int) != 0) = false := bne_eq_false_iff_eq.mpr c22
                  clear c22
                  by_cases c23 : t384 = true
                  · subst c23
                    have H1 : (if t385 = true then (some false) else (some (!t387))) = some r := by rw [if_pos rfl] at H; exact H
                    clear H
                    have H := H1
                    clear H1
                    by_cases c24 : t385 = true
                    · subst c24
                      have H1 : (some false) = some r := by rw [if_pos rfl] at H; exact H
                      clear H
                      have H := H1
                      clear H1
                      exact absurd ((Option.some.inj H).trans hT.out) Bool.false_ne_true
                    · replace c24 := Bool.eq_false_iff.mpr c24
                      subst c24
                      have H1 : (some (!t387)) = some r := by rw [if_neg (show ¬ (false = true) by decide)] at H; exact H
                      clear H
                      have H := H1
                      clear H1
                      obtain rfl := Option.some.inj H
                      go_wp2
                      go_ret
                      exact ⟨by first | rfl | (simp [errW_none, errW_some] <;> rfl) | (simp [*, errW_none, errW_some] <;> rfl), by repeat (first | (with_reducible first | exact HB.out | apply below_alloc | apply pw_below_drewN | apply below_drew1) | exact HB.out)⟩
                  · replace c23 := Bool.eq_false_iff.mpr c23
                    subst c23
                    have H1 : (some false) = some r := by rw [if_neg (show ¬ (false = true) by decide)] at H; exact H
                    clear H
                    have H := H1
                    clear H1
                    exact absurd ((Option.some.inj H).trans hT.out) Bool.false_ne_true
                · rw [if_neg c22] at H
                  have c22b0 : ((l1.length : Int) == 0) = false := beq_eq_false_iff_ne.mpr c22
                  have c22b1 : ((l1.length : Int) != 0) = true := bne_iff_ne.mpr c22
                  have c22b2 : ¬ (l1 = []) := fun h_ => c22 (by rw [h_]; rfl)
                  by_cases c25 : 1 ≤ (l1.length : Int)
                  · rw [if_pos c25] at H
                    have c25b0 := eq_true c25
                    have c25b1 : decide (1 ≤ (l1.length : Int)) = true := decide_eq_true c25
                    clear c25
                    replace H := Option.bind_eq_some_iff.mp H
                    obtain ⟨⟨t392, t393⟩, A260, H⟩ := H
                    replace H : ((steiner_Many.f kj17 a0 l1).bind fun bt394 => ((steiner_Many.f kj17 a0 (l1.drop 1)).bind fun bt397 => (if t384 = true then (if t393 = 0 then (if bt394.2 = 0 then (if bt397.2 = 0 then (if t392 = true then (if t385 = true then (if bt397.1 < bt394.1 then (some (decide (bt394.1 ≤ (wrap64 ((wrap64 (bt397.1 + a0)) + 1))))) else (some false)) else (some false)) else (if bt397.1 < bt394.1 then (some (decide (bt394.1 ≤ (wrap64 ((wrap64 (bt397.1 + a0)) + 1))))) else (some false))) else (some false)) else (some false)) else (some false)) else (some false)))) = some r := H
                    have A26 := Aside0.mk A260
                    clear A260
                    replace H := Option.bind_eq_some_iff.mp H
                    obtain ⟨⟨t394, t395⟩, A270, H⟩ := H
                    replace H : ((steiner_Many.f kj17 a0 (l1.drop 1)).bind fun bt397 => (if t384 = true then (if t393 = 0 then (if t395 = 0 then (if bt397.2 = 0 then (if t392 = true then (if t385 = true then (if bt397.1 < t394 then (some (decide (t394 ≤ (wrap64 ((wrap64 (bt397.1 + a0)) + 1))))) else (some false)) else (some false)) else (if bt397.1 < t394 then (some (decide (t394 ≤ (wrap64 ((wrap64 (bt397.1 + a0)) + 1))))) else (some false))) else (some false)) else (some false)) else (some false)) else (some false))) = some r := H
                    have A27 := Aside0.mk A270
                    clear A270
                    have c28b0 := eq_true (of_decide_eq_true (by first | (with_reducible assumption) | assumption) : 1 ≤ (l1.length : Int))
                    replace H := Option.bind_eq_some_iff.mp H
                    obtain ⟨⟨t397, t398⟩, A290, H⟩ := H
                    replace H : (if t384 = true then (if t393 = 0 then (if t395 = 0 then (if t398 = 0 then (if t392 = true then (if t385 = true then (if t397 < t394 then (some (decide (t394 ≤ (wrap64 ((wrap64 (t397 + a0)) + 1))))) else (some false)) else (some false)) else (if t397 < t394 then (some (decide (t394 ≤ (wrap64 ((wrap64 (t397 + a0)) + 1))))) else (some false))) else (some false)) else (some false)) else (some false)) else (some false)) = some r := H
                    have A29 := Aside0.mk A290
                    clear A290
                    by_cases c30 : t384 = true
                    · subst c30
                      have H1 : (if t393 = 0 then (if t395 = 0 then (if t398 = 0 then (if t392 = true then (if t385 = true then (if t397 < t394 then (some (decide (t394 ≤ (wrap64 ((wrap64 (t397 + a0)) + 1))))) else (some false)) else (some false)) else (if t397 < t394 then (some (decide (t394 ≤ (wrap64 ((wrap64 (t397 + a0)) + 1))))) else (some false))) else (some false)) else (some false)) else (some false)) = some r := by rw [if_pos rfl] at H; exact H
                      clear H
                      have H := H1
                      clear H1
                      by_cases c31 : t393 = 0
                      · rw [if_pos c31] at H
                        have c31b0 : (t393 == 0) = true := beq_iff_eq.mpr c31
                        have c31b1 : (t393 != 0) = false := bne_eq_false_iff_eq.mpr c31
                        clear c31
                        by_cases c32 : t395 = 0
                        · rw [if_pos c32] at H
                          have c32b0 : (t395 == 0) = true := beq_iff_eq.mpr c32
                          have c32b1 : (t395 != 0) = false := bne_eq_false_iff_eq.mpr c32
                          clear c32
                          by_cases c33 : t398 = 0
                          · rw [if_pos c33] at H
                            have c33b0 : (t398 == 0) = true := beq_iff_eq.mpr c33
                            have c33b1 : (t398 != 0) = false := bne_eq_false_iff_eq.mpr c33
                            clear c33
                            by_cases c34 : t392 = true
                            · subst c34
                              have H1 : (if t385 = true then (if t397 < t394 then (some (decide (t394 ≤ (wrap64 ((wrap64 (t397 + a0)) + 1))))) else (some false)) else (some false)) = some r := by rw [if_pos rfl] at H; exact H
                              clear H
                              have H := H1
                              clear H1
                              by_cases c35 : t385 = true
                              · subst c35
                                have H1 : (if t397 < t394 then (some (decide (t394 ≤ (wrap64 ((wrap64 (t397 + a0)) + 1))))) else (some false)) = some r := by rw [if_pos rfl] at H; exact H
                                clear H
                                have H := H1
                                clear H1
                                by_cases c36 : t397 < t394
                                · rw [if_pos c36] at H
                                  have c36b0 : decide (t397 < t394) = true := decide_eq_true c36
                                  clear c36
                                  obtain rfl := Option.some.inj H
                                  obtain ⟨i037, hi037, _, hsz37, _⟩ := info_parts info29
                                  obtain ⟨A37, hcut37, hA37, hC37⟩ := print_drop_of (P := Try.prog) (Value.int .u64) 0 22 29 .i64 Try.underlying22 hi037 hsz37 A1 c1 l1 1 (by omega) (of_decide_eq_true (by first | (with_reducible assumption) | assumption)) HC1.out
                                  have HR391 := Aside0.mk (Kd.C_of_reads (h1 := fun _ => rfl) (hA37 _ (Kd.reads_of_C HR1.out)))
                                  have HC391 := Aside0.mk hC37
                                  clear hA37 hC37 hi037 hsz37
                                  go_wp2_with (first | ((with_reducible refine gate_callee (f := 27) rfl ?_); refine goesL_ (some 84) rfl rfl Try.func27 (by kernel_rfl) rfl #[.int .i64 a0, .slice A37 (l1.drop 1).length (c1 - 1), .int .u64 a2] rfl (by (try simp only [List.map_toArray, List.map_cons, List.map_nil]); first | done | (rw [show (l1.drop 1).length = (l1.length - 1) from List.length_drop] <;> rfl) | rfl | (simp only [List.length_drop, List.length_take]; rfl)) ?_; (with_reducible refine (steiner_Is.calls kj17 a0 _ _ (l1.drop 1) a2 true t393 _ ?side1 ?side2 A26.out).mono ?_); (case side1 => repeat (first | exact (Kd.C_below HR391.out HB.out) | (with_reducible refine Kd.C_alloc ?_ _) | (with_reducible refine Kd.C_drewN ?_ _) | (with_reducible refine Kd.C_drew ?_))); (case side2 => exact HC391.out); rintro e w38 ⟨rfl, hb⟩; refine ⟨_, rfl, ?_⟩; have n0_ := Aside0.mk (below_step (by repeat (first | (with_reducible first | exact HB.out | apply below_alloc | apply pw_below_drewN | apply below_drew1) | exact HB.out)) hb); clear HB; have HB := n0_; clear n0_; (try clear hb); (try clear hb2); (try clear hk); (try clear hi)) | ((with_reducible refine gate_callee (f := 15) rfl ?_); refine goesL_ (some 90) rfl rfl Try.func15 (by kernel_rfl) rfl #[.int .i64 a0, .slice A1 l1.length c1] rfl (by (try simp only [List.map_toArray, List.map_cons, List.map_nil]); first | done | rfl | (simp only [List.length_drop, List.length_take]; rfl)) ?_; (with_reducible refine (steiner_Many.calls kj17 a0 _ _ l1 t394 t395 _ ?side1 ?side2 A27.out).mono ?_); (case side1 => repeat (first | exact (Kd.C_below HR1.out HB.out) | (with_reducible refine Kd.C_alloc ?_ _) | (with_reducible refine Kd.C_drewN ?_ _) | (with_reducible refine Kd.C_drew ?_))); (case side2 => exact HC1.out); rintro e w39 ⟨rfl, hb⟩; refine ⟨_, rfl, ?_⟩; have n0_ := Aside0.mk (below_step (by repeat (first | (with_reducible first | exact HB.out | apply below_alloc | apply pw_below_drewN | apply below_drew1) | exact HB.out)) hb); clear HB; have HB := n0_; clear n0_; (try clear hb); (try clear hb2); (try clear hk); (try clear hi); obtain ⟨i040, hi040, _, hsz40, _⟩ := info_parts info29; (try clear hcut37); obtain ⟨A40, hcut40, hA40, hC40⟩ := print_drop_of (P := Try.prog) (Value.int .u64) 0 22 29 .i64 Try.underlying22 hi040 hsz40 A1 c1 l1 1 (by omega) (of_decide_eq_true (by first | (with_reducible assumption) | assumption)) HC1.out; have HR396 := Aside0.mk (Kd.C_of_reads (h1 := fun _ => rfl) (hA40 _ (Kd.reads_of_C HR1.out))); have HC396 := Aside0.mk hC40; clear hA40 hC40 hi040 hsz40) | ((with_reducible refine gate_callee (f := 15) rfl ?_); refine goesL_ (some 97) rfl rfl Try.func15 (by kernel_rfl) rfl #[.int .i64 a0, .slice A40 (l1.drop 1).length (c1 - 1)] rfl (by (try simp only [List.map_toArray, List.map_cons, List.map_nil]); first | done | (rw [show (l1.drop 1).length = (l1.length - 1) from List.length_drop] <;> rfl) | rfl | (simp only [List.length_drop, List.length_take]; rfl)) ?_; (with_reducible refine (steiner_Many.calls kj17 a0 _ _ (l1.drop 1) t397 t398 _ ?side1 ?side2 A29.out).mono ?_); (case side1 => repeat (first | exact (Kd.C_below HR396.out HB.out) | (with_reducible refine Kd.C_alloc ?_ _) | (with_reducible refine Kd.C_drewN ?_ _) | (with_reducible refine Kd.C_drew ?_))); (case side2 => exact HC396.out); rintro e w41 ⟨rfl, hb⟩; refine ⟨_, rfl, ?_⟩; have n0_ := Aside0.mk (below_step (by repeat (first | (with_reducible first | exact HB.out | apply below_alloc | apply pw_below_drewN | apply below_drew1) | exact HB.out)) hb); clear HB; have HB := n0_; clear n0_; (try clear hb); (try clear hb2); (try clear hk); (try clear hi)))
                                  go_ret
                                  exact ⟨by first | rfl | (simp [errW_none, errW_some] <;> rfl) | (simp [*, errW_none, errW_some] <;> rfl), by repeat (first | (with_reducible first | exact HB.out | apply below_alloc | apply pw_below_drewN | apply below_drew1) | exact HB.out)⟩
                                · rw [if_neg c36] at H
                                  have c36b0 : decide (t397 < t394) = false := decide_eq_false c36
                                  clear c36
                                  exact absurd ((Option.some.inj H).trans hT.out) Bool.false_ne_true
                              · replace c35 := Bool.eq_false_iff.mpr c35
                                subst c35
                                have H1 : (some false) = some r := by rw [if_neg (show ¬ (false = true) by decide)] at H; exact H
                                clear H
                                have H := H1
                                clear H1
                                exact absurd ((Option.some.inj H).trans hT.out) Bool.false_ne_true
                            · replace c34 := Bool.eq_false_iff.mpr c34
                              subst c34
                              have H1 : (if t397 < t394 then (some (decide (t394 ≤ (wrap64 ((wrap64 (t397 + a0)) + 1))))) else (some false)) = some r := by rw [if_neg (show ¬ (false = true) by decide)] at H; exact H
                              clear H
                              have H := H1
                              clear H1
                              by_cases c42 : t397 < t394
                              · rw [if_pos c42] at H
                                have c42b0 : decide (t397 < t394) = true := decide_eq_true c42
                                clear c42
                                obtain rfl := Option.some.inj H
                                obtain ⟨i043, hi043, _, hsz43, _⟩ := info_parts info29
                                (try clear hcut40)
                                obtain ⟨A43, hcut43, hA43, hC43⟩ := print_drop_of (P := Try.prog) (Value.int .u64) 0 22 29 .i64 Try.underlying22 hi043 hsz43 A1 c1 l1 1 (by omega) (of_decide_eq_true (by first | (with_reducible assumption) | assumption)) HC1.out
                                have HR391 := Aside0.mk (Kd.C_of_reads (h1 := fun _ => rfl) (hA43 _ (Kd.reads_of_C HR1.out)))
                                have HC391 := Aside0.mk hC43
                                clear hA43 hC43 hi043 hsz43
                                go_wp2_with (first | ((with_reducible refine gate_callee (f := 27) rfl ?_); refine goesL_ (some 84) rfl rfl Try.func27 (by kernel_rfl) rfl #[.int .i64 a0, .slice A43 (l1.drop 1).length (c1 - 1), .int .u64 a2] rfl (by (try simp only [List.map_toArray, List.map_cons, List.map_nil]); first | done | (rw [show (l1.drop 1).length = (l1.length - 1) from List.length_drop] <;> rfl) | rfl | (simp only [List.length_drop, List.length_take]; rfl)) ?_; (with_reducible refine (steiner_Is.calls kj17 a0 _ _ (l1.drop 1) a2 false t393 _ ?side1 ?side2 A26.out).mono ?_); (case side1 => repeat (first | exact (Kd.C_below HR391.out HB.out) | (with_reducible refine Kd.C_alloc ?_ _) | (with_reducible refine Kd.C_drewN ?_ _) | (with_reducible refine Kd.C_drew ?_))); (case side2 => exact HC391.out); rintro e w44 ⟨rfl, hb⟩; refine ⟨_, rfl, ?_⟩; have n0_ := Aside0.mk (below_step (by repeat (first | (with_reducible first | exact HB.out | apply below_alloc | apply pw_below_drewN | apply below_drew1) | exact HB.out)) hb); clear HB; have HB := n0_; clear n0_; (try clear hb); (try clear hb2); (try clear hk); (try clear hi)) | ((with_reducible refine gate_callee (f := 15) rfl ?_); refine goesL_ (some 90) rfl rfl Try.func15 (by kernel_rfl) rfl #[.int .i64 a0, .slice A1 l1.length c1] rfl (by (try simp only [List.map_toArray, List.map_cons, List.map_nil]); first | done | rfl | (simp only [List.length_drop, List.length_take]; rfl)) ?_; (with_reducible refine (steiner_Many.calls kj17 a0 _ _ l1 t394 t395 _ ?side1 ?side2 A27.out).mono ?_); (case side1 => repeat (first | exact (Kd.C_below HR1.out HB.out) | (with_reducible refine Kd.C_alloc ?_ _) | (with_reducible refine Kd.C_drewN ?_ _) | (with_reducible refine Kd.C_drew ?_))); (case side2 => exact HC1.out); rintro e w45 ⟨rfl, hb⟩; refine ⟨_, rfl, ?_⟩; have n0_ := Aside0.mk (below_step (by repeat (first | (with_reducible first | exact HB.out | apply below_alloc | apply pw_below_drewN | apply below_drew1) | exact HB.out)) hb); clear HB; have HB := n0_; clear n0_; (try clear hb); (try clear hb2); (try clear hk); (try clear hi); obtain ⟨i046, hi046, _, hsz46, _⟩ := info_parts info29; (try clear hcut43); obtain ⟨A46, hcut46, hA46, hC46⟩ := print_drop_of (P := Try.prog) (Value.int .u64) 0 22 29 .i64 Try.underlying22 hi046 hsz46 A1 c1 l1 1 (by omega) (of_decide_eq_true (by first | (with_reducible assumption) | assumption)) HC1.out; have HR396 := Aside0.mk (Kd.C_of_reads (h1 := fun _ => rfl) (hA46 _ (Kd.reads_of_C HR1.out))); have HC396 := Aside0.mk hC46; clear hA46 hC46 hi046 hsz46) | ((with_reducible refine gate_callee (f := 15) rfl ?_); refine goesL_ (some 97) rfl rfl Try.func15 (by kernel_rfl) rfl #[.int .i64 a0, .slice A46 (l1.drop 1).length (c1 - 1)] rfl (by (try simp only [List.map_toArray, List.map_cons, List.map_nil]); first | done | (rw [show (l1.drop 1).length = (l1.length - 1) from List.length_drop] <;> rfl) | rfl | (simp only [List.length_drop, List.length_take]; rfl)) ?_; (with_reducible refine (steiner_Many.calls kj17 a0 _ _ (l1.drop 1) t397 t398 _ ?side1 ?side2 A29.out).mono ?_); (case side1 => repeat (first | exact (Kd.C_below HR396.out HB.out) | (with_reducible refine Kd.C_alloc ?_ _) | (with_reducible refine Kd.C_drewN ?_ _) | (with_reducible refine Kd.C_drew ?_))); (case side2 => exact HC396.out); rintro e w47 ⟨rfl, hb⟩; refine ⟨_, rfl, ?_⟩; have n0_ := Aside0.mk (below_step (by repeat (first | (with_reducible first | exact HB.out | apply below_alloc | apply pw_below_drewN | apply below_drew1) | exact HB.out)) hb); clear HB; have HB := n0_; clear n0_; (try clear hb); (try clear hb2); (try clear hk); (try clear hi)))
                                go_ret
                                exact ⟨by first | rfl | (simp [errW_none, errW_some] <;> rfl) | (simp [*, errW_none, errW_some] <;> rfl), by repeat (first | (with_reducible first | exact HB.out | apply below_alloc | apply pw_below_drewN | apply below_drew1) | exact HB.out)⟩
                              · rw [if_neg c42] at H
                                have c42b0 : decide (t397 < t394) = false := decide_eq_false c42
                                clear c42
                                exact absurd ((Option.some.inj H).trans hT.out) Bool.false_ne_true
                          · rw [if_neg c33] at H
                            have c33b0 : (t398 == 0) = false := beq_eq_false_iff_ne.mpr c33
                            have c33b1 : (t398 != 0) = true := bne_iff_ne.mpr c33
                            exact absurd ((Option.some.inj H).trans hT.out) Bool.false_ne_true
                        · rw [if_neg c32] at H
                          have c32b0 : (t395 == 0) = false := beq_eq_false_iff_ne.mpr c32
                          have c32b1 : (t395 != 0) = true := bne_iff_ne.mpr c32
                          exact absurd ((Option.some.inj H).trans hT.out) Bool.false_ne_true
                      · rw [if_neg c31] at H
                        have c31b0 : (t393 == 0) = false := beq_eq_false_iff_ne.mpr c31
                        have c31b1 : (t393 != 0) = true := bne_iff_ne.mpr c31
                        exact absurd ((Option.some.inj H).trans hT.out) Bool.false_ne_true
                    · replace c30 := Bool.eq_false_iff.mpr c30
                      subst c30
                      have H1 : (some false) = some r := by rw [if_neg (show ¬ (false = true) by decide)] at H; exact H
                      clear H
                      have H := H1
                      clear H1
                      exact absurd ((Option.some.inj H).trans hT.out) Bool.false_ne_true
                  · rw [if_neg c25] at H
                    exact absurd H (by simp)

/-- THE ONE PURE STATEMENT of medlarlaw09_SteinerAbove: yours. -/
def medlarlaw09_SteinerAbove.Pure : Prop := ∀ (a0 : Int) (l1 : List Int) (a2 : Int) (a3 : Int), (Lit.int .i64 a0).wf = true → l1.length ≤ maxLen → l1.length * 8 ≤ 140737488351232 → (∀ x ∈ l1, (Lit.int .u64 x).wf = true) → (Lit.int .u64 a2).wf = true → (Lit.int .u64 a3).wf = true → ∃ k, medlarlaw09_SteinerAbove.f k a0 l1 a2 a3 = some true
theorem medlarlaw09_SteinerAbove.walk (P : medlarlaw09_SteinerAbove.Pure) (a0 : Int) (a1 : Option Addr) (len1 cap1 : Nat) (z1 : List Int) (a2 : Int) (a3 : Int) (w : World) (w0 : (Lit.int .i64 a0).wf = true) (w1 : (a1 = none ∧ len1 = 0 ∧ cap1 = 0 ∧ z1 = []) ∨ ∃ x, a1 = some x ∧ len1 ≤ cap1 ∧ cap1 ≤ maxLen ∧ z1.length = cap1 ∧ (∀ i, i < z1.length → w.cell? (x.add i) = some (.int .u64 (z1.getD i 0))) ∧ ∀ n ∈ z1, (Lit.int .u64 n).wf = true) (y1 : len1 * 8 ≤ 140737488351232) (w2 : (Lit.int .u64 a2).wf = true) (w3 : (Lit.int .u64 a3).wf = true) :
    Calls Try.prog 8 #[.int .i64 a0, .slice a1 len1 cap1, .int .u64 a2, .int .u64 a3] w fun e w' => e = .returned (.bool true) ∧ Below w.heap.size w w' := by
  obtain ⟨l1, rfl, hr1, hm1, hw1, hc1⟩ := ReadsInt.ofRowC w1
  obtain ⟨k, h⟩ := P a0 l1 a2 a3 w0 hm1 y1 hw1 w2 w3
  refine (medlarlaw09_SteinerAbove.calls k a0 _ _ l1 a2 a3 true w (Kd.C_of_reads (d := (0 : Int)) (h1 := fun _ => rfl) hr1) hc1 h ⟨rfl⟩).mono ?_
  rintro e w' ⟨rfl, hd⟩
  exact ⟨rfl, hd⟩

end Go.Proofs.Ytoikjfcdpiikbaa.MP
