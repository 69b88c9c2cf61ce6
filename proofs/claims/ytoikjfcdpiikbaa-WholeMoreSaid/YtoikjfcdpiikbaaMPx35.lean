-- written by a program of this session (wip/tools/mprint.sh) for this seat
import Derived.Test.YtoikjfcdpiikbaaMPx0
import Derived.Test.YtoikjfcdpiikbaaMPx1
import Derived.Test.YtoikjfcdpiikbaaMPx13
import Derived.Test.YtoikjfcdpiikbaaMPx30
import Derived.Test.YtoikjfcdpiikbaaMPx33
namespace Go.Proofs.Ytoikjfcdpiikbaa.MP
open Go.RowKit Go.Proofs.YtoikjfcdpiikbaaW.PrintWords Go.Proofs.YtoikjfcdpiikbaaW.PrintLast Go.Proofs.YtoikjfcdpiikbaaW.PrintMore
attribute [local go_sem] max2_int min2_int max_two min_two max_three min_three max_four min_four   -- for this text's walks alone
set_option linter.unusedVariables false
set_option linter.unusedSimpArgs false

attribute [local go_sem high] eqA43
/-! ### medlarlaw10_WholeMore: function 13 -/
mutual
def medlarlaw10_WholeMore.j0 : Nat → Int → Int → Bool → List (S43) → List Int → Bool → Option (Bool)
  | 0, _, _, _, _, _, _ => none
  | k + 1, x0, x2, x7, x8, x10, x45 => if x45 = true then (some x7) else ((whole_Cover.f k x0 x10).bind fun bt659 => (if bt659.2 = 0 then (medlarlaw10_WholeMore.l0 k x0 x2 x7 x8 bt659.1 0 x8 (x8.length : Int) 0) else (some false)))
def medlarlaw10_WholeMore.l0 : Nat → Int → Int → Bool → List (S43) → List (S43) → Int → List (S43) → Int → Int → Option (Bool)
  | 0, _, _, _, _, _, _, _, _, _ => none
  | k + 1, x0, x2, x7, x8, x12, x14, x55, x56, x57 => if x57 < x56 then (if 0 ≤ x57 then (if x57 < (x55.length : Int) then (medlarlaw10_WholeMore.l1 k x0 x2 x7 x8 x12 x14 false x55 x56 x57 x12 (x12.length : Int) 0 ((rd_T43 x55 x57).f0) ((rd_T43 x55 x57).f1)) else (none)) else (none)) else (if x7 = true then (if x14 = 1 then (if (x12.length : Int) ≥ (wrap64 ((x8.length : Int) - 1)) then (some (decide ((x12.length : Int) ≤ (wrap64 ((wrap64 ((x8.length : Int) - 1)) + x0))))) else (some false)) else (some false)) else (some false))
def medlarlaw10_WholeMore.l1 : Nat → Int → Int → Bool → List (S43) → List (S43) → Int → Bool → List (S43) → Int → Int → List (S43) → Int → Int → Int → Int → Option (Bool)
  | 0, _, _, _, _, _, _, _, _, _, _, _, _, _, _, _ => none
  | k + 1, x0, x2, x7, x8, x12, x14, x17, x55, x56, x57, x61, x62, x63, x665000, x665001 => if x63 < x62 then (if 0 ≤ x63 then (if x63 < (x61.length : Int) then (if x17 = true then (medlarlaw10_WholeMore.l1 k x0 x2 x7 x8 x12 x14 true x55 x56 x57 x61 x62 (wrap64 (x63 + 1)) x665000 x665001) else (medlarlaw10_WholeMore.l1 k x0 x2 x7 x8 x12 x14 (x665000 == ((rd_T43 x61 x63).f0) && (x665001 == ((rd_T43 x61 x63).f1))) x55 x56 x57 x61 x62 (wrap64 (x63 + 1)) x665000 x665001)) else (none)) else (none)) else ((sub_Has.f k x0 x665000 x665001 x2).bind fun bt667 => (if bt667.2 = 0 then (medlarlaw10_WholeMore.j3 k x0 x2 x7 x8 x12 x14 bt667.1 x55 x56 x57 (bt667.1 == x17)) else (medlarlaw10_WholeMore.j3 k x0 x2 x7 x8 x12 x14 bt667.1 x55 x56 x57 true)))
def medlarlaw10_WholeMore.j3 : Nat → Int → Int → Bool → List (S43) → List (S43) → Int → Bool → List (S43) → Int → Int → Bool → Option (Bool)
  | 0, _, _, _, _, _, _, _, _, _, _, _ => none
  | k + 1, x0, x2, x7, x8, x12, x14, x20, x55, x56, x57, x87 => if x87 = true then (some false) else (if x20 = true then (medlarlaw10_WholeMore.l0 k x0 x2 x7 x8 x12 (wrap64 (x14 + 1)) x55 x56 (wrap64 (x57 + 1))) else (medlarlaw10_WholeMore.l0 k x0 x2 x7 x8 x12 x14 x55 x56 (wrap64 (x57 + 1))))
end
def medlarlaw10_WholeMore.f (k : Nat) (a0 : Int) (l1 : List Int) (a2 : Int) : Option (Bool) := (medlarlaw10_live.f k).bind fun t650 => (if (l1.length : Int) > 30 then (some t650) else ((whole_Cover.f k a0 l1).bind fun bt651 => ((leaf_With.f k a0 l1 a2).bind fun bt655 => (if bt651.2 = 0 then (medlarlaw10_WholeMore.j0 k a0 a2 t650 bt651.1 bt655.1 (bt655.2 != 0)) else (medlarlaw10_WholeMore.j0 k a0 a2 t650 bt651.1 bt655.1 true)))))
theorem medlarlaw10_WholeMore.mono_l : ∀ k, (∀ y0 y1 y2 y3 y4 y5, LeO (medlarlaw10_WholeMore.j0 k y0 y1 y2 y3 y4 y5) (medlarlaw10_WholeMore.j0 (k + 1) y0 y1 y2 y3 y4 y5)) ∧ (∀ y0 y1 y2 y3 y4 y5 y6 y7 y8, LeO (medlarlaw10_WholeMore.l0 k y0 y1 y2 y3 y4 y5 y6 y7 y8) (medlarlaw10_WholeMore.l0 (k + 1) y0 y1 y2 y3 y4 y5 y6 y7 y8)) ∧ (∀ y0 y1 y2 y3 y4 y5 y6 y7 y8 y9 y10 y11 y12 y13 y14, LeO (medlarlaw10_WholeMore.l1 k y0 y1 y2 y3 y4 y5 y6 y7 y8 y9 y10 y11 y12 y13 y14) (medlarlaw10_WholeMore.l1 (k + 1) y0 y1 y2 y3 y4 y5 y6 y7 y8 y9 y10 y11 y12 y13 y14)) ∧ (∀ y0 y1 y2 y3 y4 y5 y6 y7 y8 y9 y10, LeO (medlarlaw10_WholeMore.j3 k y0 y1 y2 y3 y4 y5 y6 y7 y8 y9 y10) (medlarlaw10_WholeMore.j3 (k + 1) y0 y1 y2 y3 y4 y5 y6 y7 y8 y9 y10))
  | 0 => ⟨fun _ _ _ _ _ _ r h => by simp [medlarlaw10_WholeMore.j0] at h, fun _ _ _ _ _ _ _ _ _ r h => by simp [medlarlaw10_WholeMore.l0] at h, fun _ _ _ _ _ _ _ _ _ _ _ _ _ _ _ r h => by simp [medlarlaw10_WholeMore.l1] at h, fun _ _ _ _ _ _ _ _ _ _ _ r h => by simp [medlarlaw10_WholeMore.j3] at h⟩
  | k + 1 => by
    obtain ⟨ih0, ih1, ih2, ih3⟩ := medlarlaw10_WholeMore.mono_l k
    refine ⟨?_, ?_, ?_, ?_⟩
    · intro y0 y1 y2 y3 y4 y5
      unfold medlarlaw10_WholeMore.j0
      repeat' first
      | (with_reducible exact ih0 _ _ _ _ _ _)
      | (with_reducible exact ih1 _ _ _ _ _ _ _ _ _)
      | (with_reducible exact ih2 _ _ _ _ _ _ _ _ _ _ _ _ _ _ _)
      | (with_reducible exact ih3 _ _ _ _ _ _ _ _ _ _ _)
      | (with_reducible exact leaf_With.mono _ _ _ _)
      | (with_reducible exact medlarlaw10_live.mono _)
      | (with_reducible exact sub_Has.mono _ _ _ _ _)
      | (with_reducible exact whole_Cover.mono _ _ _)
      | (with_reducible exact LeO.refl _)
      | (with_reducible exact LeO.none _)
      | (with_reducible refine LeO.ite ?_ ?_)
      | (with_reducible refine LeO.bind ?_ (fun _ => ?_))
      | exact ih0 _ _ _ _ _ _
      | exact ih1 _ _ _ _ _ _ _ _ _
      | exact ih2 _ _ _ _ _ _ _ _ _ _ _ _ _ _ _
      | exact ih3 _ _ _ _ _ _ _ _ _ _ _
      | exact leaf_With.mono _ _ _ _
      | exact medlarlaw10_live.mono _
      | exact sub_Has.mono _ _ _ _ _
      | exact whole_Cover.mono _ _ _
      | exact LeO.none _
      | refine LeO.ite ?_ ?_
      | refine LeO.bind ?_ (fun _ => ?_)
    · intro y0 y1 y2 y3 y4 y5 y6 y7 y8
      unfold medlarlaw10_WholeMore.l0
      repeat' first
      | (with_reducible exact ih0 _ _ _ _ _ _)
      | (with_reducible exact ih1 _ _ _ _ _ _ _ _ _)
      | (with_reducible exact ih2 _ _ _ _ _ _ _ _ _ _ _ _ _ _ _)
      | (with_reducible exact ih3 _ _ _ _ _ _ _ _ _ _ _)
      | (with_reducible exact leaf_With.mono _ _ _ _)
      | (with_reducible exact medlarlaw10_live.mono _)
      | (with_reducible exact sub_Has.mono _ _ _ _ _)
      | (with_reducible exact whole_Cover.mono _ _ _)
      | (with_reducible exact LeO.refl _)
      | (with_reducible exact LeO.none _)
      | (with_reducible refine LeO.ite ?_ ?_)
      | (with_reducible refine LeO.bind ?_ (fun _ => ?_))
      | exact ih0 _ _ _ _ _ _
      | exact ih1 _ _ _ _ _ _ _ _ _
      | exact ih2 _ _ _ _ _ _ _ _ _ _ _ _ _ _ _
      | exact ih3 _ _ _ _ _ _ _ _ _ _ _
      | exact leaf_With.mono _ _ _ _
      | exact medlarlaw10_live.mono _
      | exact sub_Has.mono _ _ _ _ _
      | exact whole_Cover.mono _ _ _
      | exact LeO.none _
      | refine LeO.ite ?_ ?_
      | refine LeO.bind ?_ (fun _ => ?_)
    · intro y0 y1 y2 y3 y4 y5 y6 y7 y8 y9 y10 y11 y12 y13 y14
      unfold medlarlaw10_WholeMore.l1
      repeat' first
      | (with_reducible exact ih0 _ _ _ _ _ _)
      | (with_reducible exact ih1 _ _ _ _ _ _ _ _ _)
      | (with_reducible exact ih2 _ _ _ _ _ _ _ _ _ _ _ _ _ _ _)
      | (with_reducible exact ih3 _ _ _ _ _ _ _ _ _ _ _)
      | (with_reducible exact leaf_With.mono _ _ _ _)
      | (with_reducible exact medlarlaw10_live.mono _)
      | (with_reducible exact sub_Has.mono _ _ _ _ _)
      | (with_reducible exact whole_Cover.mono _ _ _)
      | (with_reducible exact LeO.refl _)
      | (with_reducible exact LeO.none _)
      | (with_reducible refine LeO.ite ?_ ?_)
      | (with_reducible refine LeO.bind ?_ (fun _ => ?_))
      | exact ih0 _ _ _ _ _ _
      | exact ih1 _ _ _ _ _ _ _ _ _
      | exact ih2 _ _ _ _ _ _ _ _ _ _ _ _ _ _ _
      | exact ih3 _ _ _ _ _ _ _ _ _ _ _
      | exact leaf_With.mono _ _ _ _
      | exact medlarlaw10_live.mono _
      | exact sub_Has.mono _ _ _ _ _
      | exact whole_Cover.mono _ _ _
      | exact LeO.none _
      | refine LeO.ite ?_ ?_
      | refine LeO.bind ?_ (fun _ => ?_)
    · intro y0 y1 y2 y3 y4 y5 y6 y7 y8 y9 y10
      unfold medlarlaw10_WholeMore.j3
      repeat' first
      | (with_reducible exact ih0 _ _ _ _ _ _)
      | (with_reducible exact ih1 _ _ _ _ _ _ _ _ _)
      | (with_reducible exact ih2 _ _ _ _ _ _ _ _ _ _ _ _ _ _ _)
      | (with_reducible exact ih3 _ _ _ _ _ _ _ _ _ _ _)
      | (with_reducible exact leaf_With.mono _ _ _ _)
      | (with_reducible exact medlarlaw10_live.mono _)
      | (with_reducible exact sub_Has.mono _ _ _ _ _)
      | (with_reducible exact whole_Cover.mono _ _ _)
      | (with_reducible exact LeO.refl _)
      | (with_reducible exact LeO.none _)
      | (with_reducible refine LeO.ite ?_ ?_)
      | (with_reducible refine LeO.bind ?_ (fun _ => ?_))
      | exact ih0 _ _ _ _ _ _
      | exact ih1 _ _ _ _ _ _ _ _ _
      | exact ih2 _ _ _ _ _ _ _ _ _ _ _ _ _ _ _
      | exact ih3 _ _ _ _ _ _ _ _ _ _ _
      | exact leaf_With.mono _ _ _ _
      | exact medlarlaw10_live.mono _
      | exact sub_Has.mono _ _ _ _ _
      | exact whole_Cover.mono _ _ _
      | exact LeO.none _
      | refine LeO.ite ?_ ?_
      | refine LeO.bind ?_ (fun _ => ?_)
theorem medlarlaw10_WholeMore.mono : ∀ a0 a1 a2 k, LeO (medlarlaw10_WholeMore.f k a0 a1 a2) (medlarlaw10_WholeMore.f (k + 1) a0 a1 a2) := by
  intro a0 a1 a2 k
  obtain ⟨ih0, ih1, ih2, ih3⟩ := medlarlaw10_WholeMore.mono_l k
  unfold medlarlaw10_WholeMore.f
  repeat' first
      | (with_reducible exact ih0 _ _ _ _ _ _)
      | (with_reducible exact ih1 _ _ _ _ _ _ _ _ _)
      | (with_reducible exact ih2 _ _ _ _ _ _ _ _ _ _ _ _ _ _ _)
      | (with_reducible exact ih3 _ _ _ _ _ _ _ _ _ _ _)
      | (with_reducible exact leaf_With.mono _ _ _ _)
      | (with_reducible exact medlarlaw10_live.mono _)
      | (with_reducible exact sub_Has.mono _ _ _ _ _)
      | (with_reducible exact whole_Cover.mono _ _ _)
      | (with_reducible exact LeO.refl _)
      | (with_reducible exact LeO.none _)
      | (with_reducible refine LeO.ite ?_ ?_)
      | (with_reducible refine LeO.bind ?_ (fun _ => ?_))
      | exact ih0 _ _ _ _ _ _
      | exact ih1 _ _ _ _ _ _ _ _ _
      | exact ih2 _ _ _ _ _ _ _ _ _ _ _ _ _ _ _
      | exact ih3 _ _ _ _ _ _ _ _ _ _ _
      | exact leaf_With.mono _ _ _ _
      | exact medlarlaw10_live.mono _
      | exact sub_Has.mono _ _ _ _ _
      | exact whole_Cover.mono _ _ _
      | exact LeO.none _
      | refine LeO.ite ?_ ?_
      | refine LeO.bind ?_ (fun _ => ?_)
set_option maxHeartbeats 8000000 in
set_option maxRecDepth 100000 in
theorem medlarlaw10_WholeMore.calls (k : Nat) (a0 : Int) (A1 : Option Addr) (c1 : Nat) (l1 : List Int) (a2 : Int) (r : Bool) (w : World) (hr1 : Kd.C (Kd.int .u64) w A1 l1.length l1) (hc1 : l1.length ≤ c1) (h : medlarlaw10_WholeMore.f k a0 l1 a2 = some r) (hT : Aside0 (r = true)) :
    Calls Try.prog 13 #[.int .i64 a0, .slice A1 l1.length c1, .int .u64 a2] w fun e w' => e = .returned (.bool r) ∧ Below w.heap.size w w' := by
  have hu43 := Try.underlying43
  have HR1 := Aside0.mk hr1
  have HC1 := Aside0.mk hc1
  clear hr1 hc1
  have HB := Aside0.mk (Below.refl w.heap.size w)
  have H : ((medlarlaw10_live.f k).bind fun t650 => (if (l1.length : Int) > 30 then (some t650) else ((whole_Cover.f k a0 l1).bind fun bt651 => ((leaf_With.f k a0 l1 a2).bind fun bt655 => (if bt651.2 = 0 then (medlarlaw10_WholeMore.j0 k a0 a2 t650 bt651.1 bt655.1 (bt655.2 != 0)) else (medlarlaw10_WholeMore.j0 k a0 a2 t650 bt651.1 bt655.1 true)))))) = some r := h
  clear h
  replace H := Option.bind_eq_some_iff.mp H
  obtain ⟨t650, A40, H⟩ := H
  replace H : (if (l1.length : Int) > 30 then (some t650) else ((whole_Cover.f k a0 l1).bind fun bt651 => ((leaf_With.f k a0 l1 a2).bind fun bt655 => (if bt651.2 = 0 then (medlarlaw10_WholeMore.j0 k a0 a2 t650 bt651.1 bt655.1 (bt655.2 != 0)) else (medlarlaw10_WholeMore.j0 k a0 a2 t650 bt651.1 bt655.1 true))))) = some r := H
  have A4 := Aside0.mk A40
  clear A40
  by_cases c5 : (l1.length : Int) > 30
  · rw [if_pos c5] at H
    have c5b0 : decide (30 < (l1.length : Int)) = true := decide_eq_true c5
    have c5b1 : decide (30 < l1.length) = true := decide_eq_true (by omega)
    clear c5
    obtain rfl := Option.some.inj H
    go_enter Try.func13, Try.ntmps13
    go_wp2_with (first | ((with_reducible refine gate_callee (f := 21) rfl ?_); refine goesL_ (some 22) rfl rfl Try.func21 (by kernel_rfl) rfl #[] rfl (by (try simp only [List.map_toArray, List.map_cons, List.map_nil]); first | done | rfl | (simp only [List.length_drop, List.length_take]; rfl)) ?_; (with_reducible refine (medlarlaw10_live.calls k  t650 _ A4.out).mono ?_); rintro e w6 ⟨rfl, hb⟩; refine ⟨_, rfl, ?_⟩; have n0_ := Aside0.mk (below_step (by repeat (first | (with_reducible first | exact HB.out | apply below_alloc | apply pw_below_drewN | apply below_drew1) | exact HB.out)) hb); clear HB; have HB := n0_; clear n0_; (try clear hb); (try clear hb2); (try clear hk); (try clear hi)))
    go_ret
    exact ⟨by first | rfl | (simp [errW_none, errW_some] <;> rfl) | (simp [*, errW_none, errW_some] <;> rfl), by repeat (first | (with_reducible first | exact HB.out | apply below_alloc | apply pw_below_drewN | apply below_drew1) | exact HB.out)⟩
  · rw [if_neg c5] at H
    have c5b0 : decide (30 < (l1.length : Int)) = false := decide_eq_false c5
    have c5b1 : decide (30 < l1.length) = false := decide_eq_false (by omega)
    clear c5
    replace H := Option.bind_eq_some_iff.mp H
    obtain ⟨⟨t651, t652⟩, A70, H⟩ := H
    replace H : ((leaf_With.f k a0 l1 a2).bind fun bt655 => (if t652 = 0 then (medlarlaw10_WholeMore.j0 k a0 a2 t650 t651 bt655.1 (bt655.2 != 0)) else (medlarlaw10_WholeMore.j0 k a0 a2 t650 t651 bt655.1 true))) = some r := H
    have A7 := Aside0.mk A70
    clear A70
    replace H := Option.bind_eq_some_iff.mp H
    obtain ⟨⟨t655, t656⟩, A80, H⟩ := H
    replace H : (if t652 = 0 then (medlarlaw10_WholeMore.j0 k a0 a2 t650 t651 t655 (t656 != 0)) else (medlarlaw10_WholeMore.j0 k a0 a2 t650 t651 t655 true)) = some r := H
    have A8 := Aside0.mk A80
    clear A80
    have HC9 := Aside0.mk H
    clear H
    go_enter Try.func13, Try.ntmps13
    go_upto_region 6 with (first | ((with_reducible refine gate_callee (f := 21) rfl ?_); refine goesL_ (some 22) rfl rfl Try.func21 (by kernel_rfl) rfl #[] rfl (by (try simp only [List.map_toArray, List.map_cons, List.map_nil]); first | done | rfl | (simp only [List.length_drop, List.length_take]; rfl)) ?_; (with_reducible refine (medlarlaw10_live.calls k  t650 _ A4.out).mono ?_); rintro e w10 ⟨rfl, hb⟩; refine ⟨_, rfl, ?_⟩; have n0_ := Aside0.mk (below_step (by repeat (first | (with_reducible first | exact HB.out | apply below_alloc | apply pw_below_drewN | apply below_drew1) | exact HB.out)) hb); clear HB; have HB := n0_; clear n0_; (try clear hb); (try clear hb2); (try clear hk); (try clear hi)) | ((with_reducible refine gate_callee (f := 22) rfl ?_); refine goesL_ (some 30) rfl rfl Try.func22 (by kernel_rfl) rfl #[.int .i64 a0, .slice A1 l1.length c1] rfl (by (try simp only [List.map_toArray, List.map_cons, List.map_nil]); first | done | rfl | (simp only [List.length_drop, List.length_take]; rfl)) ?_; (with_reducible refine (whole_Cover.calls k a0 _ _ l1 t651 t652 _ ?side1 ?side2 A7.out).mono ?_); (case side1 => repeat (first | exact (Kd.C_below HR1.out HB.out) | (with_reducible refine Kd.C_alloc ?_ _) | (with_reducible refine Kd.C_drewN ?_ _) | (with_reducible refine Kd.C_drew ?_))); (case side2 => exact HC1.out); rintro e w11 ⟨v653, rfl, ho0, hb⟩; refine ⟨_, rfl, ?_⟩; have n0_ := Aside0.mk (Kd.R_lower ho0 (below_size (by repeat (first | (with_reducible first | exact HB.out | apply below_alloc | apply pw_below_drewN | apply below_drew1) | exact HB.out)))); have n1_ := Aside0.mk (below_step (by repeat (first | (with_reducible first | exact HB.out | apply below_alloc | apply pw_below_drewN | apply below_drew1) | exact HB.out)) hb); clear HB; have HO654 := n0_; have HB := n1_; clear n0_ n1_; (try clear hb); (try clear hb2); (try clear hk); (try clear hi); (try clear ho0)) | ((with_reducible refine gate_callee (f := 44) rfl ?_); refine goesL_ (some 37) rfl rfl Try.func44 (by kernel_rfl) rfl #[.int .i64 a0, .slice A1 l1.length c1, .int .u64 a2] rfl (by (try simp only [List.map_toArray, List.map_cons, List.map_nil]); first | done | rfl | (simp only [List.length_drop, List.length_take]; rfl)) ?_; (with_reducible refine (leaf_With.calls k a0 _ _ l1 a2 t655 t656 _ ?side1 ?side2 A8.out).mono ?_); (case side1 => repeat (first | exact (Kd.C_below HR1.out HB.out) | (with_reducible refine Kd.C_alloc ?_ _) | (with_reducible refine Kd.C_drewN ?_ _) | (with_reducible refine Kd.C_drew ?_))); (case side2 => exact HC1.out); rintro e w12 ⟨v657, rfl, ho0, hb⟩; refine ⟨_, rfl, ?_⟩; have n0_ := Aside0.mk (Kd.R_below (by (with_reducible repeat (first | apply Kd.R_alloc | apply Kd.R_drewN | apply Kd.R_drew)); exact HO654.out) hb); have n1_ := Aside0.mk (Kd.R_lower ho0 (below_size (by repeat (first | (with_reducible first | exact HB.out | apply below_alloc | apply pw_below_drewN | apply below_drew1) | exact HB.out)))); have n2_ := Aside0.mk (below_step (by repeat (first | (with_reducible first | exact HB.out | apply below_alloc | apply pw_below_drewN | apply below_drew1) | exact HB.out)) hb); clear HO654; clear HB; have HO654 := n0_; have HO658 := n1_; have HB := n2_; clear n0_ n1_ n2_; (try clear hb); (try clear hb2); (try clear hk); (try clear hi); (try clear ho0)))
    (try simp only [Act.put, List.setIfInBounds_toArray, List.set_cons_zero, List.set_cons_succ])
    go_cut [45] (fun v45 wc => ∃ (kq : Nat) (x45_8 : Bool), v45 = .bool x45_8 ∧ Aside0 (medlarlaw10_WholeMore.j0 kq a0 a2 t650 t651 t655 x45_8 = some r) ∧ Aside0 (kq ≤ k) ∧ Aside0 (Kd.R k43 43 wc w.heap.size (fun _ => True) v653 t651) ∧ Aside0 (Kd.R (Kd.int .u64) 29 wc w.heap.size (fun _ => True) v657 t655) ∧ Aside0 (Below w.heap.size w wc))
    case first =>
      have H := HC9.out
      clear HC9
      by_cases c13 : t652 = 0
      · rw [if_pos c13] at H
        have c13b0 : (t652 == 0) = true := beq_iff_eq.mpr c13
        have c13b1 : (t652 != 0) = false := bne_eq_false_iff_eq.mpr c13
        clear c13
        (first | rw [c13b0] | (simp only [i64_w, i32_w]; rw [c13b0]) | skip)
        have H' := Aside0.mk H
        clear H
        go_wp2
        go_meet
        case rel => exact ⟨_, ((t656 != 0)), (by first | rfl | (simp; done) | (simp [*]; done)), H', ⟨by first | omega | exact Nat.le_refl _⟩, ⟨by (with_reducible repeat (first | apply Kd.R_alloc | apply Kd.R_drewN | apply Kd.R_drew)); exact HO654.out⟩, ⟨by (with_reducible repeat (first | apply Kd.R_alloc | apply Kd.R_drewN | apply Kd.R_drew)); exact HO658.out⟩, ⟨by repeat (first | (with_reducible first | exact HB.out | apply below_alloc | apply pw_below_drewN | apply below_drew1) | exact HB.out)⟩⟩
      · rw [if_neg c13] at H
        have c13b0 : (t652 == 0) = false := beq_eq_false_iff_ne.mpr c13
        have c13b1 : (t652 != 0) = true := bne_iff_ne.mpr c13
        (first | rw [c13b0] | (simp only [i64_w, i32_w]; rw [c13b0]) | skip)
        have H' := Aside0.mk H
        clear H
        go_wp2
        go_meet
        case rel => exact ⟨_, (true), (by first | rfl | (simp; done) | (simp [*]; done)), H', ⟨by first | omega | exact Nat.le_refl _⟩, ⟨by (with_reducible repeat (first | apply Kd.R_alloc | apply Kd.R_drewN | apply Kd.R_drew)); exact HO654.out⟩, ⟨by (with_reducible repeat (first | apply Kd.R_alloc | apply Kd.R_drewN | apply Kd.R_drew)); exact HO658.out⟩, ⟨by repeat (first | (with_reducible first | exact HB.out | apply below_alloc | apply pw_below_drewN | apply below_drew1) | exact HB.out)⟩⟩
    case rest =>
      clear HC9
      try clear c1
      try clear c2
      try clear p2
      try clear c4
      try clear c5
      try clear c5b0
      try clear c5b1
      try clear c13
      try clear c13b0
      try clear c13b1
      obtain ⟨kq, x45_8, rfl, HA, HJ8, HO_8, HO_10, HB⟩ := hcut
      cases kq with
      | zero => exact absurd HA.out (by simp [medlarlaw10_WholeMore.j0])
      | succ kj8 =>
        have H := HA.out
        clear HA
        simp only [medlarlaw10_WholeMore.j0] at H
        by_cases c14 : x45_8 = true
        · subst c14
          have H1 : (some t650) = some r := by rw [if_pos rfl] at H; exact H
          clear H
          have H := H1
          clear H1
          obtain rfl := Option.some.inj H
          go_wp2
          go_ret
          exact ⟨by first | rfl | (simp [errW_none, errW_some] <;> rfl) | (simp [*, errW_none, errW_some] <;> rfl), by repeat (first | (with_reducible first | exact HB.out | apply below_alloc | apply pw_below_drewN | apply below_drew1) | exact HB.out)⟩
        · replace c14 := Bool.eq_false_iff.mpr c14
          subst c14
          have H1 : ((whole_Cover.f kj8 a0 t655).bind fun bt659 => (if bt659.2 = 0 then (medlarlaw10_WholeMore.l0 kj8 a0 a2 t650 t651 bt659.1 0 t651 (t651.length : Int) 0) else (some false))) = some r := by rw [if_neg (show ¬ (false = true) by decide)] at H; exact H
          clear H
          have H := H1
          clear H1
          replace H := Option.bind_eq_some_iff.mp H
          obtain ⟨⟨t659, t660⟩, A150, H⟩ := H
          replace H : (if t660 = 0 then (medlarlaw10_WholeMore.l0 kj8 a0 a2 t650 t651 t659 0 t651 (t651.length : Int) 0) else (some false)) = some r := H
          have A15 := Aside0.mk A150
          clear A150
          by_cases c16 : t660 = 0
          · rw [if_pos c16] at H
            have c16b0 : (t660 == 0) = true := beq_iff_eq.mpr c16
            have c16b1 : (t660 != 0) = false := bne_eq_false_iff_eq.mpr c16
            clear c16
            have H' := Aside0.mk H
            clear H
            obtain ⟨Ao17, co17, eo17⟩ := Kd.R_slice HO_10.out
            subst eo17
            go_wp2_with (first | ((with_reducible refine gate_callee (f := 22) rfl ?_); refine goesL_ (some 50) rfl rfl Try.func22 (by kernel_rfl) rfl #[.int .i64 a0, .slice Ao17 t655.length co17] rfl (by (try simp only [List.map_toArray, List.map_cons, List.map_nil]); first | done | rfl | (simp only [List.length_drop, List.length_take]; rfl)) ?_; (with_reducible refine (whole_Cover.calls kj8 a0 _ _ t655 t659 t660 _ ?side1 ?side2 A15.out).mono ?_); (case side1 => repeat (first | exact (Kd.R_reads' HO_10.out).2.2 | (with_reducible refine Kd.C_alloc ?_ _) | (with_reducible refine Kd.C_drewN ?_ _) | (with_reducible refine Kd.C_drew ?_))); (case side2 => exact (Kd.R_reads' HO_10.out).2.1); rintro e w18 ⟨v661, rfl, ho0, hb⟩; refine ⟨_, rfl, ?_⟩; have n0_ := Aside0.mk (Kd.R_elder' (by (with_reducible repeat (first | apply Kd.R_alloc | apply Kd.R_drewN | apply Kd.R_drew)); exact HO_8.out) (Kd.R_base ho0) hb); have n1_ := Aside0.mk (Kd.R_below (by (with_reducible repeat (first | apply Kd.R_alloc | apply Kd.R_drewN | apply Kd.R_drew)); exact HO_10.out) hb); have n2_ := Aside0.mk (Kd.R_lower (Kd.R_new' ho0 (Kd.R_lt (by (with_reducible repeat (first | apply Kd.R_alloc | apply Kd.R_drewN | apply Kd.R_drew)); exact HO_8.out))) (below_size (by repeat (first | (with_reducible first | exact HB.out | apply below_alloc | apply pw_below_drewN | apply below_drew1) | exact HB.out)))); have n3_ := Aside0.mk (below_step (by repeat (first | (with_reducible first | exact HB.out | apply below_alloc | apply pw_below_drewN | apply below_drew1) | exact HB.out)) hb); clear HO_8; clear HO_10; clear HB; have HO_8 := n0_; have HO_10 := n1_; have HO662 := n2_; have HB := n3_; clear n0_ n1_ n2_ n3_; (try clear hb); (try clear hb2); (try clear hk); (try clear hi); (try clear ho0); obtain ⟨Ao19, co19, eo19⟩ := Kd.R_slice HO_8.out; subst eo19))
            go_loopg [14, 57] kj8 (fun kq v14 v57 w' => ∃ (x14_2 : Int) (x57_2 : Int), v14 = .int .i64 x14_2 ∧ v57 = .int .i64 x57_2 ∧ Aside0 (medlarlaw10_WholeMore.l0 kq a0 a2 t650 t651 t659 x14_2 t651 (t651.length : Int) x57_2 = some r) ∧ Aside0 (kq ≤ kj8) ∧ Aside0 (Kd.R k43 43 w' w.heap.size (fun k_ => some k_ ≠ (v661 : Value).ownBlock) (.slice Ao19 t651.length co19) t651) ∧ Aside0 (Kd.R k43 43 w' w.heap.size (fun k_ => some k_ ≠ ((.slice Ao19 t651.length co19) : Value).ownBlock ∧ some k_ ≠ ((.slice Ao19 t651.length co19) : Value).ownBlock) v661 t659) ∧ Aside0 (Kd.R k43 43 w' w.heap.size (fun k_ => some k_ ≠ (v661 : Value).ownBlock) (.slice Ao19 t651.length co19) t651) ∧ Aside0 (Below w.heap.size w w'))
            case atStart => exact ⟨(0), (0), (by first | rfl | (simp; done) | (simp [*]; done)), (by first | rfl | (simp; done) | (simp [*]; done)), H', ⟨Nat.le_refl _⟩, ⟨by (with_reducible repeat (first | apply Kd.R_alloc | apply Kd.R_drewN | apply Kd.R_drew)); exact Kd.R_mono HO_8.out (fun _ hk => hk.2)⟩, ⟨by (with_reducible repeat (first | apply Kd.R_alloc | apply Kd.R_drewN | apply Kd.R_drew)); exact Kd.R_mono HO662.out (fun _ hk => ⟨hk.2, hk.2⟩)⟩, ⟨by (with_reducible repeat (first | apply Kd.R_alloc | apply Kd.R_drewN | apply Kd.R_drew)); exact Kd.R_mono HO_8.out (fun _ hk => hk.2)⟩, ⟨by repeat (first | (with_reducible first | exact HB.out | apply below_alloc | apply pw_below_drewN | apply below_drew1) | exact HB.out)⟩⟩
            case round =>
              clear H'
              try clear c1
              try clear c2
              try clear p2
              try clear c4
              try clear c5
              try clear c5b0
              try clear c5b1
              try clear c13
              try clear c13b0
              try clear c13b1
              try clear c14
              try clear c16
              try clear c16b0
              try clear c16b1
              try clear p2
              obtain ⟨x14_2, x57_2, rfl, rfl, HA, HK2, HO_8, HO_12, HO_55, HB⟩ := hrel
              cases gk with
              | zero => exact absurd HA.out (by simp [medlarlaw10_WholeMore.l0])
              | succ k2 =>
                have H := HA.out
                clear HA
                simp only [medlarlaw10_WholeMore.l0] at H
                by_cases c20 : x57_2 < (t651.length : Int)
                · rw [if_pos c20] at H
                  have c20b0 : decide (x57_2 < (t651.length : Int)) = true := decide_eq_true c20
                  clear c20
                  by_cases c21 : 0 ≤ x57_2
                  · rw [if_pos c21] at H
                    have c21b0 : decide (0 ≤ x57_2) = true := decide_eq_true c21
                    clear c21
                    by_cases c22 : x57_2 < (t651.length : Int)
                    · rw [if_pos c22] at H
                      have c22b0 : decide (x57_2 < (t651.length : Int)) = true := decide_eq_true c22
                      clear c22
                      have H' := Aside0.mk H
                      clear H
                      have p663 : 0 ≤ (x57_2 : Int) := of_decide_eq_true (by first | (with_reducible assumption) | assumption)
                      have q663 : x57_2 < (t651.length : Int) := of_decide_eq_true (by first | (with_reducible assumption) | assumption)
                      obtain ⟨ad663, e663, hx663_0, hx663_1⟩ := at_T43 (Kd.R_reads' HO_55.out).2.2 x57_2 p663 q663
                      cases e663
                      replace p663 := eq_true p663
                      replace q663 := eq_true q663
                      go_wp2_with (first | ((with_reducible refine gate_dst (N := 16) rfl ?_); (try (refine gate_guard (by rfl) ?_; dsimp only)); refine box_event ?hg (N := 16) ?hd (cs := #[.int .u64 0, .int .u64 0]) (t := 43) ?hr ?_; (case hd => rfl); (case hg => rfl); (case hr => first | (go_simp; done) | (go_simp; rfl)); intro gb664 hg w23 hbox hb; have n0_ := Aside0.mk (Kd.R_below (Kd.R_elderB (by (with_reducible repeat (first | apply Kd.R_alloc | apply Kd.R_drewN | apply Kd.R_drew)); exact HO_8.out) gb664 (Nat.le_of_eq hg.symm)) hb); have n1_ := Aside0.mk (Kd.R_below (Kd.R_elderB (by (with_reducible repeat (first | apply Kd.R_alloc | apply Kd.R_drewN | apply Kd.R_drew)); exact HO_12.out) gb664 (Nat.le_of_eq hg.symm)) hb); have n2_ := Aside0.mk (Kd.R_below (Kd.R_elderB (by (with_reducible repeat (first | apply Kd.R_alloc | apply Kd.R_drewN | apply Kd.R_drew)); exact HO_55.out) gb664 (Nat.le_of_eq hg.symm)) hb); have n3_ := Aside0.mk (below_step (by repeat (first | (with_reducible first | exact HB.out | apply below_alloc | apply pw_below_drewN | apply below_drew1) | exact HB.out)) hb); have n4_ := Aside0.mk (hbox); have n5_ := Aside0.mk ((by rw [hg]; exact (below_size (by repeat (first | (with_reducible first | exact HB.out | apply below_alloc | apply pw_below_drewN | apply below_drew1) | exact HB.out))) : w.heap.size ≤ gb664)); have n6_ := Aside0.mk ((by rw [hg]; exact (below_size (by repeat (first | (with_reducible first | exact HB.out | apply below_alloc | apply pw_below_drewN | apply below_drew1) | exact HB.out))) : w.heap.size ≤ gb664)); clear HO_8; clear HO_12; clear HO_55; clear HB; have HO_8 := n0_; have HO_12 := n1_; have HO_55 := n2_; have HB := n3_; have BK664 := n4_; have GW664 := n5_; have GE664 := n6_; clear n0_ n1_ n2_ n3_ n4_ n5_ n6_; clear hb hbox hg; have hcz24_0 : w23.cell? ⟨gb664, 0, none⟩ = some (.int .u64 0) := (blk_cell BK664.out 0).trans rfl; have hcz24_1 : w23.cell? ⟨gb664, 1, none⟩ = some (.int .u64 0) := (blk_cell BK664.out 1).trans rfl; have hfz24_0 := blk_frozen BK664.out 0; have hfz24_1 := blk_frozen BK664.out 1; obtain ⟨Ao25, co25, eo25⟩ := Kd.R_slice HO_12.out; subst eo25))
                      go_loopg [17, 63] k2 (fun kq v17 v63 w' => ∃ (x17_3 : Bool) (x63_3 : Int), v17 = .bool x17_3 ∧ v63 = .int .i64 x63_3 ∧ Aside0 (medlarlaw10_WholeMore.l1 kq a0 a2 t650 t651 t659 x14_2 x17_3 t651 (t651.length : Int) x57_2 t659 (t659.length : Int) x63_3 ((rd_T43 t651 x57_2).f0) ((rd_T43 t651 x57_2).f1) = some r) ∧ Aside0 (kq ≤ k2) ∧ Aside0 (Kd.R k43 43 w' w.heap.size (fun k_ => some k_ ≠ ((.slice Ao25 t659.length co25) : Value).ownBlock ∧ some k_ ≠ ((.slice Ao25 t659.length co25) : Value).ownBlock ∧ k_ ≠ gb664) (.slice (some ad663) t651.length co19) t651) ∧ Aside0 (Kd.R k43 43 w' w.heap.size (fun k_ => some k_ ≠ ((.slice (some ad663) t651.length co19) : Value).ownBlock ∧ some k_ ≠ ((.slice (some ad663) t651.length co19) : Value).ownBlock ∧ k_ ≠ gb664) (.slice Ao25 t659.length co25) t659) ∧ Aside0 (Kd.R k43 43 w' w.heap.size (fun k_ => some k_ ≠ ((.slice Ao25 t659.length co25) : Value).ownBlock ∧ some k_ ≠ ((.slice Ao25 t659.length co25) : Value).ownBlock ∧ k_ ≠ gb664) (.slice (some ad663) t651.length co19) t651) ∧ Aside0 (Kd.R k43 43 w' w.heap.size (fun k_ => some k_ ≠ ((.slice (some ad663) t651.length co19) : Value).ownBlock ∧ some k_ ≠ ((.slice (some ad663) t651.length co19) : Value).ownBlock ∧ k_ ≠ gb664) (.slice Ao25 t659.length co25) t659) ∧ Aside0 (w'.heap[gb664]? = some (.cells #[.int .u64 ((rd_T43 t651 x57_2).f0), .int .u64 ((rd_T43 t651 x57_2).f1)] 43 (0, 0))) ∧ Aside0 (Below w.heap.size w w'))
                      case atStart => exact ⟨(false), (0), (by first | rfl | (simp; done) | (simp [*]; done)), (by first | rfl | (simp; done) | (simp [*]; done)), H', ⟨Nat.le_refl _⟩, ⟨by (with_reducible repeat (first | apply Kd.R_alloc | apply Kd.R_drewN | apply Kd.R_drew)); exact Kd.R_mono (Kd.R_far (p := ⟨gb664, 1, none⟩) (Kd.R_far (p := ⟨gb664, 0, none⟩) (Kd.R_mono HO_8.out (fun k_ hk => (⟨hk, hk.2⟩ : _ ∧ k_ ≠ gb664))) (fun _ hk => hk.2) (.int .u64 ((rd_T43 t651 x57_2).f0))) (fun _ hk => hk.2) (.int .u64 ((rd_T43 t651 x57_2).f1))) (fun _ hk => ⟨hk.1.1, ⟨hk.1.1, hk.1.2⟩⟩)⟩, ⟨by (with_reducible repeat (first | apply Kd.R_alloc | apply Kd.R_drewN | apply Kd.R_drew)); exact Kd.R_mono (Kd.R_far (p := ⟨gb664, 1, none⟩) (Kd.R_far (p := ⟨gb664, 0, none⟩) (Kd.R_mono HO_12.out (fun k_ hk => (⟨hk, hk.2⟩ : _ ∧ k_ ≠ gb664))) (fun _ hk => hk.2) (.int .u64 ((rd_T43 t651 x57_2).f0))) (fun _ hk => hk.2) (.int .u64 ((rd_T43 t651 x57_2).f1))) (fun _ hk => ⟨hk.1.1.1, ⟨hk.1.1.2, hk.1.2⟩⟩)⟩, ⟨by (with_reducible repeat (first | apply Kd.R_alloc | apply Kd.R_drewN | apply Kd.R_drew)); exact Kd.R_mono (Kd.R_far (p := ⟨gb664, 1, none⟩) (Kd.R_far (p := ⟨gb664, 0, none⟩) (Kd.R_mono HO_55.out (fun k_ hk => (⟨hk, hk.2⟩ : _ ∧ k_ ≠ gb664))) (fun _ hk => hk.2) (.int .u64 ((rd_T43 t651 x57_2).f0))) (fun _ hk => hk.2) (.int .u64 ((rd_T43 t651 x57_2).f1))) (fun _ hk => ⟨hk.1.1, ⟨hk.1.1, hk.1.2⟩⟩)⟩, ⟨by (with_reducible repeat (first | apply Kd.R_alloc | apply Kd.R_drewN | apply Kd.R_drew)); exact Kd.R_mono (Kd.R_far (p := ⟨gb664, 1, none⟩) (Kd.R_far (p := ⟨gb664, 0, none⟩) (Kd.R_mono HO_12.out (fun k_ hk => (⟨hk, hk.2⟩ : _ ∧ k_ ≠ gb664))) (fun _ hk => hk.2) (.int .u64 ((rd_T43 t651 x57_2).f0))) (fun _ hk => hk.2) (.int .u64 ((rd_T43 t651 x57_2).f1))) (fun _ hk => ⟨hk.1.1.1, ⟨hk.1.1.2, hk.1.2⟩⟩)⟩, ⟨by (with_reducible repeat (first | refine blk_drewN ?_ _ | refine blk_drew ?_ | refine blk_alloc ?_ _)); refine blk_put (cs := #[.int .u64 ((rd_T43 t651 x57_2).f0), .int .u64 0]) ?_ 1 _ rfl; (with_reducible repeat (first | refine blk_drewN ?_ _ | refine blk_drew ?_ | refine blk_alloc ?_ _)); refine blk_put (cs := #[.int .u64 0, .int .u64 0]) ?_ 0 _ rfl; (with_reducible repeat (first | refine blk_drewN ?_ _ | refine blk_drew ?_ | refine blk_alloc ?_ _)); exact BK664.out⟩, ⟨by repeat (first | (with_reducible first | exact HB.out | apply below_alloc | apply pw_below_drewN | apply below_drew1 | refine below_set ?_ GE664.out) | exact HB.out)⟩⟩
                      case round =>
                        clear H'
                        try clear c1
                        try clear c2
                        try clear p2
                        try clear c4
                        try clear c5
                        try clear c5b0
                        try clear c5b1
                        try clear p6
                        try clear q6
                        try clear hx6
                        try clear c13
                        try clear c13b0
                        try clear c13b1
                        try clear c14
                        try clear c16
                        try clear c16b0
                        try clear c16b1
                        try clear c20
                        try clear c20b0
                        try clear c21
                        try clear c21b0
                        try clear c22
                        try clear c22b0
                        try clear hcz24_0
                        try clear hcz24_1
                        try clear hfz24_0
                        try clear hfz24_1
                        try clear hx663_0
                        try clear hx663_1
                        try clear p2
                        try clear p663
                        try clear q663
                        obtain ⟨x17_3, x63_3, rfl, rfl, HA, HK3, HO_8, HO_12, HO_55, HO_61, BK664, HB⟩ := hrel
                        cases gk with
                        | zero => exact absurd HA.out (by simp [medlarlaw10_WholeMore.l1])
                        | succ k3 =>
                          have H := HA.out
                          clear HA
                          simp only [medlarlaw10_WholeMore.l1] at H
                          by_cases c26 : x63_3 < (t659.length : Int)
                          · rw [if_pos c26] at H
                            have c26b0 : decide (x63_3 < (t659.length : Int)) = true := decide_eq_true c26
                            clear c26
                            by_cases c27 : 0 ≤ x63_3
                            · rw [if_pos c27] at H
                              have c27b0 : decide (0 ≤ x63_3) = true := decide_eq_true c27
                              clear c27
                              by_cases c28 : x63_3 < (t659.length : Int)
                              · rw [if_pos c28] at H
                                have c28b0 : decide (x63_3 < (t659.length : Int)) = true := decide_eq_true c28
                                clear c28
                                by_cases c29 : x17_3 = true
                                · subst c29
                                  have H1 : (medlarlaw10_WholeMore.l1 k3 a0 a2 t650 t651 t659 x14_2 true t651 (t651.length : Int) x57_2 t659 (t659.length : Int) (wrap64 (x63_3 + 1)) ((rd_T43 t651 x57_2).f0) ((rd_T43 t651 x57_2).f1)) = some r := by rw [if_pos rfl] at H; exact H
                                  clear H
                                  have H := H1
                                  clear H1
                                  have H' := Aside0.mk H
                                  clear H
                                  have p665 : 0 ≤ (x63_3 : Int) := of_decide_eq_true (by first | (with_reducible assumption) | assumption)
                                  have q665 : x63_3 < (t659.length : Int) := of_decide_eq_true (by first | (with_reducible assumption) | assumption)
                                  obtain ⟨ad665, e665, hx665_0, hx665_1⟩ := at_T43 (Kd.R_reads' HO_61.out).2.2 x63_3 p665 q665
                                  cases e665
                                  replace p665 := eq_true p665
                                  replace q665 := eq_true q665
                                  go_wp2_with (first | ((with_reducible refine gate_dst (N := 19) rfl ?_); (try (refine gate_guard (by rfl) ?_; dsimp only)); refine box_event ?hg (N := 19) ?hd (cs := #[.int .u64 0, .int .u64 0]) (t := 43) ?hr ?_; (case hd => rfl); (case hg => rfl); (case hr => first | (go_simp; done) | (go_simp; rfl)); intro gb666 hg w30 hbox hb; have n0_ := Aside0.mk (Kd.R_below (Kd.R_elderB (by (with_reducible repeat (first | apply Kd.R_alloc | apply Kd.R_drewN | apply Kd.R_drew)); exact HO_8.out) gb666 (Nat.le_of_eq hg.symm)) hb); have n1_ := Aside0.mk (Kd.R_below (Kd.R_elderB (by (with_reducible repeat (first | apply Kd.R_alloc | apply Kd.R_drewN | apply Kd.R_drew)); exact HO_12.out) gb666 (Nat.le_of_eq hg.symm)) hb); have n2_ := Aside0.mk (Kd.R_below (Kd.R_elderB (by (with_reducible repeat (first | apply Kd.R_alloc | apply Kd.R_drewN | apply Kd.R_drew)); exact HO_55.out) gb666 (Nat.le_of_eq hg.symm)) hb); have n3_ := Aside0.mk (Kd.R_below (Kd.R_elderB (by (with_reducible repeat (first | apply Kd.R_alloc | apply Kd.R_drewN | apply Kd.R_drew)); exact HO_61.out) gb666 (Nat.le_of_eq hg.symm)) hb); have n4_ := Aside0.mk (blk_below (g := gb664) (o := .cells #[.int .u64 ((rd_T43 t651 x57_2).f0), .int .u64 ((rd_T43 t651 x57_2).f1)] 43 (0, 0)) (by (with_reducible repeat (first | refine blk_drewN ?_ _ | refine blk_drew ?_ | refine blk_alloc ?_ _)); exact BK664.out) hb); have n5_ := Aside0.mk (below_step (by repeat (first | (with_reducible first | exact HB.out | apply below_alloc | apply pw_below_drewN | apply below_drew1 | refine below_set ?_ GE664.out) | exact HB.out)) hb); have n6_ := Aside0.mk (hbox); have n7_ := Aside0.mk ((by rw [hg]; exact (below_size (by repeat (first | (with_reducible first | exact HB.out | apply below_alloc | apply pw_below_drewN | apply below_drew1 | refine below_set ?_ GE664.out) | exact HB.out))) : w.heap.size ≤ gb666)); have n8_ := Aside0.mk ((by rw [hg]; exact (below_size (by repeat (first | (with_reducible first | exact HB.out | apply below_alloc | apply pw_below_drewN | apply below_drew1 | refine below_set ?_ GE664.out) | exact HB.out))) : w.heap.size ≤ gb666)); have n9_ := Aside0.mk ((by rw [hg]; exact Nat.ne_of_lt (blk_lt (g := gb664) (o := .cells #[.int .u64 ((rd_T43 t651 x57_2).f0), .int .u64 ((rd_T43 t651 x57_2).f1)] 43 (0, 0)) (by (with_reducible repeat (first | refine blk_drewN ?_ _ | refine blk_drew ?_ | refine blk_alloc ?_ _)); exact BK664.out)) : gb664 ≠ gb666)); have n10_ := Aside0.mk ((by rw [hg]; exact Nat.ne_of_gt (blk_lt (g := gb664) (o := .cells #[.int .u64 ((rd_T43 t651 x57_2).f0), .int .u64 ((rd_T43 t651 x57_2).f1)] 43 (0, 0)) (by (with_reducible repeat (first | refine blk_drewN ?_ _ | refine blk_drew ?_ | refine blk_alloc ?_ _)); exact BK664.out)) : gb666 ≠ gb664)); clear HO_8; clear HO_12; clear HO_55; clear HO_61; clear BK664; clear HB; have HO_8 := n0_; have HO_12 := n1_; have HO_55 := n2_; have HO_61 := n3_; have BK664 := n4_; have HB := n5_; have BK666 := n6_; have GW666 := n7_; have GE666 := n8_; have NB664_666 := n9_; have NB666_664 := n10_; clear n0_ n1_ n2_ n3_ n4_ n5_ n6_ n7_ n8_ n9_ n10_; clear hb hbox hg; have hnb31 := NB666_664.out; have hnc31 := NB664_666.out; have hcz32_0 : w30.cell? ⟨gb666, 0, none⟩ = some (.int .u64 0) := (blk_cell BK666.out 0).trans rfl; have hcz32_1 : w30.cell? ⟨gb666, 1, none⟩ = some (.int .u64 0) := (blk_cell BK666.out 1).trans rfl; have hfz32_0 := blk_frozen BK666.out 0; have hfz32_1 := blk_frozen BK666.out 1))
                                  go_roundg k3
                                  case measure => have := HJ8.out; have := HK2.out; have := HK3.out; omega
                                  case rel => exact ⟨(true), (wrap64 (x63_3 + 1)), (by first | rfl | (simp; done) | (simp [*]; done)), (by first | rfl | (simp; done) | (simp [*]; done)), H', ⟨by have := HJ8.out; have := HK2.out; have := HK3.out; omega⟩, ⟨by (with_reducible repeat (first | apply Kd.R_alloc | apply Kd.R_drewN | apply Kd.R_drew)); exact Kd.R_mono (Kd.R_far (p := ⟨gb666, 1, none⟩) (Kd.R_far (p := ⟨gb666, 0, none⟩) (Kd.R_mono HO_8.out (fun k_ hk => (⟨hk, hk.2⟩ : _ ∧ k_ ≠ gb666))) (fun _ hk => hk.2) (.int .u64 ((rd_T43 t659 x63_3).f0))) (fun _ hk => hk.2) (.int .u64 ((rd_T43 t659 x63_3).f1))) (fun _ hk => ⟨hk.1.1.1, ⟨hk.1.1.2.1, hk.1.1.2.2⟩⟩)⟩, ⟨by (with_reducible repeat (first | apply Kd.R_alloc | apply Kd.R_drewN | apply Kd.R_drew)); exact Kd.R_mono (Kd.R_far (p := ⟨gb666, 1, none⟩) (Kd.R_far (p := ⟨gb666, 0, none⟩) (Kd.R_mono HO_12.out (fun k_ hk => (⟨hk, hk.2⟩ : _ ∧ k_ ≠ gb666))) (fun _ hk => hk.2) (.int .u64 ((rd_T43 t659 x63_3).f0))) (fun _ hk => hk.2) (.int .u64 ((rd_T43 t659 x63_3).f1))) (fun _ hk => ⟨hk.1.1.1, ⟨hk.1.1.2.1, hk.1.1.2.2⟩⟩)⟩, ⟨by (with_reducible repeat (first | apply Kd.R_alloc | apply Kd.R_drewN | apply Kd.R_drew)); exact Kd.R_mono (Kd.R_far (p := ⟨gb666, 1, none⟩) (Kd.R_far (p := ⟨gb666, 0, none⟩) (Kd.R_mono HO_55.out (fun k_ hk => (⟨hk, hk.2⟩ : _ ∧ k_ ≠ gb666))) (fun _ hk => hk.2) (.int .u64 ((rd_T43 t659 x63_3).f0))) (fun _ hk => hk.2) (.int .u64 ((rd_T43 t659 x63_3).f1))) (fun _ hk => ⟨hk.1.1.1, ⟨hk.1.1.2.1, hk.1.1.2.2⟩⟩)⟩, ⟨by (with_reducible repeat (first | apply Kd.R_alloc | apply Kd.R_drewN | apply Kd.R_drew)); exact Kd.R_mono (Kd.R_far (p := ⟨gb666, 1, none⟩) (Kd.R_far (p := ⟨gb666, 0, none⟩) (Kd.R_mono HO_61.out (fun k_ hk => (⟨hk, hk.2⟩ : _ ∧ k_ ≠ gb666))) (fun _ hk => hk.2) (.int .u64 ((rd_T43 t659 x63_3).f0))) (fun _ hk => hk.2) (.int .u64 ((rd_T43 t659 x63_3).f1))) (fun _ hk => ⟨hk.1.1.1, ⟨hk.1.1.2.1, hk.1.1.2.2⟩⟩)⟩, ⟨by (with_reducible repeat (first | refine blk_drewN ?_ _ | refine blk_drew ?_ | refine blk_alloc ?_ _)); refine blk_far ?_ NB664_666.out _; (with_reducible repeat (first | refine blk_drewN ?_ _ | refine blk_drew ?_ | refine blk_alloc ?_ _)); refine blk_far ?_ NB664_666.out _; (with_reducible repeat (first | refine blk_drewN ?_ _ | refine blk_drew ?_ | refine blk_alloc ?_ _)); exact BK664.out⟩, ⟨by repeat (first | (with_reducible first | exact HB.out | apply below_alloc | apply pw_below_drewN | apply below_drew1 | refine below_set ?_ GE664.out | refine below_set ?_ GE666.out) | exact HB.out)⟩⟩
                                · replace c29 := Bool.eq_false_iff.mpr c29
                                  subst c29
                                  have H1 : (medlarlaw10_WholeMore.l1 k3 a0 a2 t650 t651 t659 x14_2 (((rd_T43 t651 x57_2).f0) == ((rd_T43 t659 x63_3).f0) && (((rd_T43 t651 x57_2).f1) == ((rd_T43 t659 x63_3).f1))) t651 (t651.length : Int) x57_2 t659 (t659.length : Int) (wrap64 (x63_3 + 1)) ((rd_T43 t651 x57_2).f0) ((rd_T43 t651 x57_2).f1)) = some r := by rw [if_neg (show ¬ (false = true) by decide)] at H; exact H
                                  clear H
                                  have H := H1
                                  clear H1
                                  have H' := Aside0.mk H
                                  clear H
                                  have p665 : 0 ≤ (x63_3 : Int) := of_decide_eq_true (by first | (with_reducible assumption) | assumption)
                                  have q665 : x63_3 < (t659.length : Int) := of_decide_eq_true (by first | (with_reducible assumption) | assumption)
                                  obtain ⟨ad665, e665, hx665_0, hx665_1⟩ := at_T43 (Kd.R_reads' HO_61.out).2.2 x63_3 p665 q665
                                  cases e665
                                  replace p665 := eq_true p665
                                  replace q665 := eq_true q665
                                  go_wp2_with (first | ((with_reducible refine gate_dst (N := 19) rfl ?_); (try (refine gate_guard (by rfl) ?_; dsimp only)); refine box_event ?hg (N := 19) ?hd (cs := #[.int .u64 0, .int .u64 0]) (t := 43) ?hr ?_; (case hd => rfl); (case hg => rfl); (case hr => first | (go_simp; done) | (go_simp; rfl)); intro gb666 hg w33 hbox hb; have n0_ := Aside0.mk (Kd.R_below (Kd.R_elderB (by (with_reducible repeat (first | apply Kd.R_alloc | apply Kd.R_drewN | apply Kd.R_drew)); exact HO_8.out) gb666 (Nat.le_of_eq hg.symm)) hb); have n1_ := Aside0.mk (Kd.R_below (Kd.R_elderB (by (with_reducible repeat (first | apply Kd.R_alloc | apply Kd.R_drewN | apply Kd.R_drew)); exact HO_12.out) gb666 (Nat.le_of_eq hg.symm)) hb); have n2_ := Aside0.mk (Kd.R_below (Kd.R_elderB (by (with_reducible repeat (first | apply Kd.R_alloc | apply Kd.R_drewN | apply Kd.R_drew)); exact HO_55.out) gb666 (Nat.le_of_eq hg.symm)) hb); have n3_ := Aside0.mk (Kd.R_below (Kd.R_elderB (by (with_reducible repeat (first | apply Kd.R_alloc | apply Kd.R_drewN | apply Kd.R_drew)); exact HO_61.out) gb666 (Nat.le_of_eq hg.symm)) hb); have n4_ := Aside0.mk (blk_below (g := gb664) (o := .cells #[.int .u64 ((rd_T43 t651 x57_2).f0), .int .u64 ((rd_T43 t651 x57_2).f1)] 43 (0, 0)) (by (with_reducible repeat (first | refine blk_drewN ?_ _ | refine blk_drew ?_ | refine blk_alloc ?_ _)); exact BK664.out) hb); have n5_ := Aside0.mk (below_step (by repeat (first | (with_reducible first | exact HB.out | apply below_alloc | apply pw_below_drewN | apply below_drew1 | refine below_set ?_ GE664.out) | exact HB.out)) hb); have n6_ := Aside0.mk (hbox); have n7_ := Aside0.mk ((by rw [hg]; exact (below_size (by repeat (first | (with_reducible first | exact HB.out | apply below_alloc | apply pw_below_drewN | apply below_drew1 | refine below_set ?_ GE664.out) | exact HB.out))) : w.heap.size ≤ gb666)); have n8_ := Aside0.mk ((by rw [hg]; exact (below_size (by repeat (first | (with_reducible first | exact HB.out | apply below_alloc | apply pw_below_drewN | apply below_drew1 | refine below_set ?_ GE664.out) | exact HB.out))) : w.heap.size ≤ gb666)); have n9_ := Aside0.mk ((by rw [hg]; exact Nat.ne_of_lt (blk_lt (g := gb664) (o := .cells #[.int .u64 ((rd_T43 t651 x57_2).f0), .int .u64 ((rd_T43 t651 x57_2).f1)] 43 (0, 0)) (by (with_reducible repeat (first | refine blk_drewN ?_ _ | refine blk_drew ?_ | refine blk_alloc ?_ _)); exact BK664.out)) : gb664 ≠ gb666)); have n10_ := Aside0.mk ((by rw [hg]; exact Nat.ne_of_gt (blk_lt (g := gb664) (o := .cells #[.int .u64 ((rd_T43 t651 x57_2).f0), .int .u64 ((rd_T43 t651 x57_2).f1)] 43 (0, 0)) (by (with_reducible repeat (first | refine blk_drewN ?_ _ | refine blk_drew ?_ | refine blk_alloc ?_ _)); exact BK664.out)) : gb666 ≠ gb664)); clear HO_8; clear HO_12; clear HO_55; clear HO_61; clear BK664; clear HB; have HO_8 := n0_; have HO_12 := n1_; have HO_55 := n2_; have HO_61 := n3_; have BK664 := n4_; have HB := n5_; have BK666 := n6_; have GW666 := n7_; have GE666 := n8_; have NB664_666 := n9_; have NB666_664 := n10_; clear n0_ n1_ n2_ n3_ n4_ n5_ n6_ n7_ n8_ n9_ n10_; clear hb hbox hg; have hnb34 := NB666_664.out; have hnc34 := NB664_666.out; have hcz35_0 : w33.cell? ⟨gb666, 0, none⟩ = some (.int .u64 0) := (blk_cell BK666.out 0).trans rfl; have hcz35_1 : w33.cell? ⟨gb666, 1, none⟩ = some (.int .u64 0) := (blk_cell BK666.out 1).trans rfl; have hfz35_0 := blk_frozen BK666.out 0; have hfz35_1 := blk_frozen BK666.out 1; have hcz36_0 : w33.cell? ⟨gb664, 0, none⟩ = some (.int .u64 ((rd_T43 t651 x57_2).f0)) := (blk_cell BK664.out 0).trans rfl; have hcz36_1 : w33.cell? ⟨gb664, 1, none⟩ = some (.int .u64 ((rd_T43 t651 x57_2).f1)) := (blk_cell BK664.out 1).trans rfl; have hfz36_0 := blk_frozen BK664.out 0; have hfz36_1 := blk_frozen BK664.out 1))
                                  go_roundg k3
                                  case measure => have := HJ8.out; have := HK2.out; have := HK3.out; omega
                                  case rel => exact ⟨((((rd_T43 t651 x57_2).f0) == ((rd_T43 t659 x63_3).f0) && (((rd_T43 t651 x57_2).f1) == ((rd_T43 t659 x63_3).f1)))), (wrap64 (x63_3 + 1)), (by first | rfl | (simp; done) | (simp [*]; done)), (by first | rfl | (simp; done) | (simp [*]; done)), H', ⟨by have := HJ8.out; have := HK2.out; have := HK3.out; omega⟩, ⟨by (with_reducible repeat (first | apply Kd.R_alloc | apply Kd.R_drewN | apply Kd.R_drew)); exact Kd.R_mono (Kd.R_far (p := ⟨gb666, 1, none⟩) (Kd.R_far (p := ⟨gb666, 0, none⟩) (Kd.R_mono HO_8.out (fun k_ hk => (⟨hk, hk.2⟩ : _ ∧ k_ ≠ gb666))) (fun _ hk => hk.2) (.int .u64 ((rd_T43 t659 x63_3).f0))) (fun _ hk => hk.2) (.int .u64 ((rd_T43 t659 x63_3).f1))) (fun _ hk => ⟨hk.1.1.1, ⟨hk.1.1.2.1, hk.1.1.2.2⟩⟩)⟩, ⟨by (with_reducible repeat (first | apply Kd.R_alloc | apply Kd.R_drewN | apply Kd.R_drew)); exact Kd.R_mono (Kd.R_far (p := ⟨gb666, 1, none⟩) (Kd.R_far (p := ⟨gb666, 0, none⟩) (Kd.R_mono HO_12.out (fun k_ hk => (⟨hk, hk.2⟩ : _ ∧ k_ ≠ gb666))) (fun _ hk => hk.2) (.int .u64 ((rd_T43 t659 x63_3).f0))) (fun _ hk => hk.2) (.int .u64 ((rd_T43 t659 x63_3).f1))) (fun _ hk => ⟨hk.1.1.1, ⟨hk.1.1.2.1, hk.1.1.2.2⟩⟩)⟩, ⟨by (with_reducible repeat (first | apply Kd.R_alloc | apply Kd.R_drewN | apply Kd.R_drew)); exact Kd.R_mono (Kd.R_far (p := ⟨gb666, 1, none⟩) (Kd.R_far (p := ⟨gb666, 0, none⟩) (Kd.R_mono HO_55.out (fun k_ hk => (⟨hk, hk.2⟩ : _ ∧ k_ ≠ gb666))) (fun _ hk => hk.2) (.int .u64 ((rd_T43 t659 x63_3).f0))) (fun _ hk => hk.2) (.int .u64 ((rd_T43 t659 x63_3).f1))) (fun _ hk => ⟨hk.1.1.1, ⟨hk.1.1.2.1, hk.1.1.2.2⟩⟩)⟩, ⟨by (with_reducible repeat (first | apply Kd.R_alloc | apply Kd.R_drewN | apply Kd.R_drew)); exact Kd.R_mono (Kd.R_far (p := ⟨gb666, 1, none⟩) (Kd.R_far (p := ⟨gb666, 0, none⟩) (Kd.R_mono HO_61.out (fun k_ hk => (⟨hk, hk.2⟩ : _ ∧ k_ ≠ gb666))) (fun _ hk => hk.2) (.int .u64 ((rd_T43 t659 x63_3).f0))) (fun _ hk => hk.2) (.int .u64 ((rd_T43 t659 x63_3).f1))) (fun _ hk => ⟨hk.1.1.1, ⟨hk.1.1.2.1, hk.1.1.2.2⟩⟩)⟩, ⟨by (with_reducible repeat (first | refine blk_drewN ?_ _ | refine blk_drew ?_ | refine blk_alloc ?_ _)); refine blk_far ?_ NB664_666.out _; (with_reducible repeat (first | refine blk_drewN ?_ _ | refine blk_drew ?_ | refine blk_alloc ?_ _)); refine blk_far ?_ NB664_666.out _; (with_reducible repeat (first | refine blk_drewN ?_ _ | refine blk_drew ?_ | refine blk_alloc ?_ _)); exact BK664.out⟩, ⟨by repeat (first | (with_reducible first | exact HB.out | apply below_alloc | apply pw_below_drewN | apply below_drew1 | refine below_set ?_ GE664.out | refine below_set ?_ GE666.out) | exact HB.out)⟩⟩
                              · rw [if_neg c28] at H
                                exact absurd H (by simp)
                            · rw [if_neg c27] at H
                              exact absurd H (by simp)
                          · rw [if_neg c26] at H
                            have c26b0 : decide (x63_3 < (t659.length : Int)) = false := decide_eq_false c26
                            clear c26
                            replace H := Option.bind_eq_some_iff.mp H
                            obtain ⟨⟨t667, t668⟩, A370, H⟩ := H
                            replace H : (if t668 = 0 then (medlarlaw10_WholeMore.j3 k3 a0 a2 t650 t651 t659 x14_2 t667 t651 (t651.length : Int) x57_2 (t667 == x17_3)) else (medlarlaw10_WholeMore.j3 k3 a0 a2 t650 t651 t659 x14_2 t667 t651 (t651.length : Int) x57_2 true)) = some r := H
                            have A37 := Aside0.mk A370
                            clear A370
                            have HC38 := Aside0.mk H
                            clear H
                            have hcz39_0 : wr.cell? ⟨gb664, 0, none⟩ = some (.int .u64 ((rd_T43 t651 x57_2).f0)) := (blk_cell BK664.out 0).trans rfl
                            have hcz39_1 : wr.cell? ⟨gb664, 1, none⟩ = some (.int .u64 ((rd_T43 t651 x57_2).f1)) := (blk_cell BK664.out 1).trans rfl
                            have hfz39_0 := blk_frozen BK664.out 0
                            have hfz39_1 := blk_frozen BK664.out 1
                            go_upto_region 22 with (first | ((with_reducible refine gate_callee (f := 39) rfl ?_); refine goesL_ (some 78) rfl rfl Try.func39 (by kernel_rfl) rfl #[.int .i64 a0, .agg #[.int .u64 ((rd_T43 t651 x57_2).f0), .int .u64 ((rd_T43 t651 x57_2).f1)], .int .u64 a2] rfl (by (try simp only [List.map_toArray, List.map_cons, List.map_nil]); first | done | rfl | (simp only [List.length_drop, List.length_take]; rfl)) ?_; (with_reducible refine (sub_Has.calls k3 a0 ((rd_T43 t651 x57_2).f0) ((rd_T43 t651 x57_2).f1) a2 t667 t668 _ A37.out).mono ?_); rintro e w40 ⟨rfl, hb⟩; refine ⟨_, rfl, ?_⟩; have n0_ := Aside0.mk (Kd.R_below (by (with_reducible repeat (first | apply Kd.R_alloc | apply Kd.R_drewN | apply Kd.R_drew)); exact HO_8.out) hb); have n1_ := Aside0.mk (Kd.R_below (by (with_reducible repeat (first | apply Kd.R_alloc | apply Kd.R_drewN | apply Kd.R_drew)); exact HO_12.out) hb); have n2_ := Aside0.mk (Kd.R_below (by (with_reducible repeat (first | apply Kd.R_alloc | apply Kd.R_drewN | apply Kd.R_drew)); exact HO_55.out) hb); have n3_ := Aside0.mk (Kd.R_below (by (with_reducible repeat (first | apply Kd.R_alloc | apply Kd.R_drewN | apply Kd.R_drew)); exact HO_61.out) hb); have n4_ := Aside0.mk (blk_below (g := gb664) (o := .cells #[.int .u64 ((rd_T43 t651 x57_2).f0), .int .u64 ((rd_T43 t651 x57_2).f1)] 43 (0, 0)) (by (with_reducible repeat (first | refine blk_drewN ?_ _ | refine blk_drew ?_ | refine blk_alloc ?_ _)); exact BK664.out) hb); have n5_ := Aside0.mk (below_step (by repeat (first | (with_reducible first | exact HB.out | apply below_alloc | apply pw_below_drewN | apply below_drew1 | refine below_set ?_ GE664.out) | exact HB.out)) hb); clear HO_8; clear HO_12; clear HO_55; clear HO_61; clear BK664; clear HB; have HO_8 := n0_; have HO_12 := n1_; have HO_55 := n2_; have HO_61 := n3_; have BK664 := n4_; have HB := n5_; clear n0_ n1_ n2_ n3_ n4_ n5_; (try clear hb); (try clear hb2); (try clear hk); (try clear hi)))
                            (try simp only [Act.put, List.setIfInBounds_toArray, List.set_cons_zero, List.set_cons_succ])
                            go_cut [87] (fun v87 wc => ∃ (kq : Nat) (x87_37 : Bool), v87 = .bool x87_37 ∧ Aside0 (medlarlaw10_WholeMore.j3 kq a0 a2 t650 t651 t659 x14_2 t667 t651 (t651.length : Int) x57_2 x87_37 = some r) ∧ Aside0 (kq ≤ k3) ∧ Aside0 (Kd.R k43 43 wc w.heap.size (fun k_ => some k_ ≠ ((.slice Ao25 t659.length co25) : Value).ownBlock ∧ k_ ≠ gb664) (.slice (some ad663) t651.length co19) t651) ∧ Aside0 (Kd.R k43 43 wc w.heap.size (fun k_ => some k_ ≠ ((.slice (some ad663) t651.length co19) : Value).ownBlock ∧ some k_ ≠ ((.slice (some ad663) t651.length co19) : Value).ownBlock ∧ k_ ≠ gb664) (.slice Ao25 t659.length co25) t659) ∧ Aside0 (Kd.R k43 43 wc w.heap.size (fun k_ => some k_ ≠ ((.slice Ao25 t659.length co25) : Value).ownBlock ∧ k_ ≠ gb664) (.slice (some ad663) t651.length co19) t651) ∧ Aside0 (wc.heap[gb664]? = some (.cells #[.int .u64 ((rd_T43 t651 x57_2).f0), .int .u64 ((rd_T43 t651 x57_2).f1)] 43 (0, 0))) ∧ Aside0 (Below w.heap.size w wc))
                            case first =>
                              have H := HC38.out
                              clear HC38
                              by_cases c41 : t668 = 0
                              · rw [if_pos c41] at H
                                have c41b0 : (t668 == 0) = true := beq_iff_eq.mpr c41
                                have c41b1 : (t668 != 0) = false := bne_eq_false_iff_eq.mpr c41
                                clear c41
                                (first | rw [c41b0] | (simp only [i64_w, i32_w]; rw [c41b0]) | skip)
                                have H' := Aside0.mk H
                                clear H
                                go_wp2
                                go_meet
                                case rel => exact ⟨_, ((t667 == x17_3)), (by first | rfl | (simp; done) | (simp [*]; done)), H', ⟨by have := HJ8.out; have := HK2.out; have := HK3.out; first | omega | exact Nat.le_refl _⟩, ⟨by (with_reducible repeat (first | apply Kd.R_alloc | apply Kd.R_drewN | apply Kd.R_drew)); exact Kd.R_mono HO_8.out (fun _ hk => ⟨hk.1, hk.2.2⟩)⟩, ⟨by (with_reducible repeat (first | apply Kd.R_alloc | apply Kd.R_drewN | apply Kd.R_drew)); exact HO_12.out⟩, ⟨by (with_reducible repeat (first | apply Kd.R_alloc | apply Kd.R_drewN | apply Kd.R_drew)); exact Kd.R_mono HO_55.out (fun _ hk => ⟨hk.1, hk.2.2⟩)⟩, ⟨by (with_reducible repeat (first | refine blk_drewN ?_ _ | refine blk_drew ?_ | refine blk_alloc ?_ _)); exact BK664.out⟩, ⟨by repeat (first | (with_reducible first | exact HB.out | apply below_alloc | apply pw_below_drewN | apply below_drew1 | refine below_set ?_ GE664.out) | exact HB.out)⟩⟩
                              · rw [if_neg c41] at H
                                have c41b0 : (t668 == 0) = false := beq_eq_false_iff_ne.mpr c41
                                have c41b1 : (t668 != 0) = true := bne_iff_ne.mpr c41
                                (first | rw [c41b0] | (simp only [i64_w, i32_w]; rw [c41b0]) | skip)
                                have H' := Aside0.mk H
                                clear H
                                go_wp2
                                go_meet
                                case rel => exact ⟨_, (true), (by first | rfl | (simp; done) | (simp [*]; done)), H', ⟨by have := HJ8.out; have := HK2.out; have := HK3.out; first | omega | exact Nat.le_refl _⟩, ⟨by (with_reducible repeat (first | apply Kd.R_alloc | apply Kd.R_drewN | apply Kd.R_drew)); exact Kd.R_mono HO_8.out (fun _ hk => ⟨hk.1, hk.2.2⟩)⟩, ⟨by (with_reducible repeat (first | apply Kd.R_alloc | apply Kd.R_drewN | apply Kd.R_drew)); exact HO_12.out⟩, ⟨by (with_reducible repeat (first | apply Kd.R_alloc | apply Kd.R_drewN | apply Kd.R_drew)); exact Kd.R_mono HO_55.out (fun _ hk => ⟨hk.1, hk.2.2⟩)⟩, ⟨by (with_reducible repeat (first | refine blk_drewN ?_ _ | refine blk_drew ?_ | refine blk_alloc ?_ _)); exact BK664.out⟩, ⟨by repeat (first | (with_reducible first | exact HB.out | apply below_alloc | apply pw_below_drewN | apply below_drew1 | refine below_set ?_ GE664.out) | exact HB.out)⟩⟩
                            case rest =>
                              clear HC38
                              try clear c1
                              try clear c2
                              try clear p2
                              try clear c3
                              try clear c4
                              try clear c5
                              try clear c5b0
                              try clear c5b1
                              try clear p6
                              try clear q6
                              try clear hx6
                              try clear c13
                              try clear c13b0
                              try clear c13b1
                              try clear c14
                              try clear c16
                              try clear c16b0
                              try clear c16b1
                              try clear c20
                              try clear c20b0
                              try clear c21
                              try clear c21b0
                              try clear c22
                              try clear c22b0
                              try clear c26
                              try clear c26b0
                              try clear c27
                              try clear c27b0
                              try clear c28
                              try clear c28b0
                              try clear c29
                              try clear c31
                              try clear c34
                              try clear c39
                              try clear c41
                              try clear c41b0
                              try clear c41b1
                              try clear hcz24_0
                              try clear hcz24_1
                              try clear hcz32_0
                              try clear hcz32_1
                              try clear hcz35_0
                              try clear hcz35_1
                              try clear hcz36_0
                              try clear hcz36_1
                              try clear hcz39_0
                              try clear hcz39_1
                              try clear hfz24_0
                              try clear hfz24_1
                              try clear hfz32_0
                              try clear hfz32_1
                              try clear hfz35_0
                              try clear hfz35_1
                              try clear hfz36_0
                              try clear hfz36_1
                              try clear hfz39_0
                              try clear hfz39_1
                              try clear hx663_0
                              try clear hx663_1
                              try clear hx665_0
                              try clear hx665_1
                              try clear p2
                              try clear p6
                              try clear p663
                              try clear p665
                              try clear q6
                              try clear q663
                              try clear q665
                              obtain ⟨kq, x87_37, rfl, HA, HJ37, HO_8, HO_12, HO_55, BK664, HB⟩ := hcut
                              cases kq with
                              | zero => exact absurd HA.out (by simp [medlarlaw10_WholeMore.j3])
                              | succ kj37 =>
                                have H := HA.out
                                clear HA
                                simp only [medlarlaw10_WholeMore.j3] at H
                                by_cases c42 : x87_37 = true
                                · subst c42
                                  have H1 : (some false) = some r := by rw [if_pos rfl] at H; exact H
                                  clear H
                                  have H := H1
                                  clear H1
                                  exact absurd ((Option.some.inj H).trans hT.out) Bool.false_ne_true
                                · replace c42 := Bool.eq_false_iff.mpr c42
                                  subst c42
                                  have H1 : (if t667 = true then (medlarlaw10_WholeMore.l0 kj37 a0 a2 t650 t651 t659 (wrap64 (x14_2 + 1)) t651 (t651.length : Int) (wrap64 (x57_2 + 1))) else (medlarlaw10_WholeMore.l0 kj37 a0 a2 t650 t651 t659 x14_2 t651 (t651.length : Int) (wrap64 (x57_2 + 1)))) = some r := by rw [if_neg (show ¬ (false = true) by decide)] at H; exact H
                                  clear H
                                  have H := H1
                                  clear H1
                                  by_cases c43 : t667 = true
                                  · subst c43
                                    have H1 : (medlarlaw10_WholeMore.l0 kj37 a0 a2 t650 t651 t659 (wrap64 (x14_2 + 1)) t651 (t651.length : Int) (wrap64 (x57_2 + 1))) = some r := by rw [if_pos rfl] at H; exact H
                                    clear H
                                    have H := H1
                                    clear H1
                                    have H' := Aside0.mk H
                                    clear H
                                    go_wp2
                                    go_roundg kj37
                                    case measure => have := HJ8.out; have := HK2.out; have := HK3.out; have := HJ37.out; omega
                                    case rel => exact ⟨(wrap64 (x14_2 + 1)), (wrap64 (x57_2 + 1)), (by first | rfl | (simp; done) | (simp [*]; done)), (by first | rfl | (simp; done) | (simp [*]; done)), H', ⟨by have := HJ8.out; have := HK2.out; have := HK3.out; have := HJ37.out; omega⟩, ⟨by (with_reducible repeat (first | apply Kd.R_alloc | apply Kd.R_drewN | apply Kd.R_drew)); exact Kd.R_mono HO_8.out (fun _ hk => hk.1)⟩, ⟨by (with_reducible repeat (first | apply Kd.R_alloc | apply Kd.R_drewN | apply Kd.R_drew)); exact Kd.R_mono HO_12.out (fun _ hk => ⟨hk.1, hk.2.1⟩)⟩, ⟨by (with_reducible repeat (first | apply Kd.R_alloc | apply Kd.R_drewN | apply Kd.R_drew)); exact Kd.R_mono HO_55.out (fun _ hk => hk.1)⟩, ⟨by repeat (first | (with_reducible first | exact HB.out | apply below_alloc | apply pw_below_drewN | apply below_drew1 | refine below_set ?_ GE664.out) | exact HB.out)⟩⟩
                                  · replace c43 := Bool.eq_false_iff.mpr c43
                                    subst c43
                                    have H1 : (medlarlaw10_WholeMore.l0 kj37 a0 a2 t650 t651 t659 x14_2 t651 (t651.length : Int) (wrap64 (x57_2 + 1))) = some r := by rw [if_neg (show ¬ (false = true) by decide)] at H; exact H
                                    clear H
                                    have H := H1
                                    clear H1
                                    have H' := Aside0.mk H
                                    clear H
                                    go_wp2
                                    go_roundg kj37
                                    case measure => have := HJ8.out; have := HK2.out; have := HK3.out; have := HJ37.out; omega
                                    case rel => exact ⟨(x14_2), (wrap64 (x57_2 + 1)), (by first | rfl | (simp; done) | (simp [*]; done)), (by first | rfl | (simp; done) | (simp [*]; done)), H', ⟨by have := HJ8.out; have := HK2.out; have := HK3.out; have := HJ37.out; omega⟩, ⟨by (with_reducible repeat (first | apply Kd.R_alloc | apply Kd.R_drewN | apply Kd.R_drew)); exact Kd.R_mono HO_8.out (fun _ hk => hk.1)⟩, ⟨by (with_reducible repeat (first | apply Kd.R_alloc | apply Kd.R_drewN | apply Kd.R_drew)); exact Kd.R_mono HO_12.out (fun _ hk => ⟨hk.1, hk.2.1⟩)⟩, ⟨by (with_reducible repeat (first | apply Kd.R_alloc | apply Kd.R_drewN | apply Kd.R_drew)); exact Kd.R_mono HO_55.out (fun _ hk => hk.1)⟩, ⟨by repeat (first | (with_reducible first | exact HB.out | apply below_alloc | apply pw_below_drewN | apply below_drew1 | refine below_set ?_ GE664.out) | exact HB.out)⟩⟩
                    · rw [if_neg c22] at H
                      exact absurd H (by simp)
                  · rw [if_neg c21] at H
                    exact absurd H (by simp)
                · rw [if_neg c20] at H
                  have c20b0 : decide (x57_2 < (t651.length : Int)) = false := decide_eq_false c20
                  clear c20
                  by_cases c44 : t650 = true
                  · subst c44
                    have H1 : (if x14_2 = 1 then (if (t659.length : Int) ≥ (wrap64 ((t651.length : Int) - 1)) then (some (decide ((t659.length : Int) ≤ (wrap64 ((wrap64 ((t651.length : Int) - 1)) + a0))))) else (some false)) else (some false)) = some r := by rw [if_pos rfl] at H; exact H
                    clear H
                    have H := H1
                    clear H1
                    by_cases c45 : x14_2 = 1
                    · rw [if_pos c45] at H
                      have c45b0 : (x14_2 == 1) = true := beq_iff_eq.mpr c45
                      have c45b1 : (x14_2 != 1) = false := bne_eq_false_iff_eq.mpr c45
                      clear c45
                      by_cases c46 : (t659.length : Int) ≥ (wrap64 ((t651.length : Int) - 1))
                      · rw [if_pos c46] at H
                        have c46b0 : decide ((wrap64 ((t651.length : Int) - 1)) ≤ (t659.length : Int)) = true := decide_eq_true c46
                        clear c46
                        obtain rfl := Option.some.inj H
                        obtain ⟨Ao47, co47, eo47⟩ := Kd.R_slice HO_12.out
                        subst eo47
                        go_wp2
                        go_ret
                        exact ⟨by first | rfl | (simp [errW_none, errW_some] <;> rfl) | (simp [*, errW_none, errW_some] <;> rfl), by repeat (first | (with_reducible first | exact HB.out | apply below_alloc | apply pw_below_drewN | apply below_drew1) | exact HB.out)⟩
                      · rw [if_neg c46] at H
                        have c46b0 : decide ((wrap64 ((t651.length : Int) - 1)) ≤ (t659.length : Int)) = false := decide_eq_false c46
                        clear c46
                        exact absurd ((Option.some.inj H).trans hT.out) Bool.false_ne_true
                    · rw [if_neg c45] at H
                      have c45b0 : (x14_2 == 1) = false := beq_eq_false_iff_ne.mpr c45
                      have c45b1 : (x14_2 != 1) = true := bne_iff_ne.mpr c45
                      exact absurd ((Option.some.inj H).trans hT.out) Bool.false_ne_true
                  · replace c44 := Bool.eq_false_iff.mpr c44
                    subst c44
                    have H1 : (some false) = some r := by rw [if_neg (show ¬ (false = true) by decide)] at H; exact H
                    clear H
                    have H := H1
                    clear H1
                    exact absurd ((Option.some.inj H).trans hT.out) Bool.false_ne_true
          · rw [if_neg c16] at H
            have c16b0 : (t660 == 0) = false := beq_eq_false_iff_ne.mpr c16
            have c16b1 : (t660 != 0) = true := bne_iff_ne.mpr c16
            exact absurd ((Option.some.inj H).trans hT.out) Bool.false_ne_true

/-- THE ONE PURE STATEMENT of medlarlaw10_WholeMore: yours. -/
def medlarlaw10_WholeMore.Pure : Prop := ∀ (a0 : Int) (l1 : List Int) (a2 : Int), (Lit.int .i64 a0).wf = true → l1.length ≤ maxLen → l1.length * 8 ≤ 140737488351232 → (∀ x ∈ l1, (Lit.int .u64 x).wf = true) → (Lit.int .u64 a2).wf = true → ∃ k, medlarlaw10_WholeMore.f k a0 l1 a2 = some true
theorem medlarlaw10_WholeMore.walk (P : medlarlaw10_WholeMore.Pure) (a0 : Int) (a1 : Option Addr) (len1 cap1 : Nat) (z1 : List Int) (a2 : Int) (w : World) (w0 : (Lit.int .i64 a0).wf = true) (w1 : (a1 = none ∧ len1 = 0 ∧ cap1 = 0 ∧ z1 = []) ∨ ∃ x, a1 = some x ∧ len1 ≤ cap1 ∧ cap1 ≤ maxLen ∧ z1.length = cap1 ∧ (∀ i, i < z1.length → w.cell? (x.add i) = some (.int .u64 (z1.getD i 0))) ∧ ∀ n ∈ z1, (Lit.int .u64 n).wf = true) (y1 : len1 * 8 ≤ 140737488351232) (w2 : (Lit.int .u64 a2).wf = true) :
    Calls Try.prog 13 #[.int .i64 a0, .slice a1 len1 cap1, .int .u64 a2] w fun e w' => e = .returned (.bool true) ∧ Below w.heap.size w w' := by
  obtain ⟨l1, rfl, hr1, hm1, hw1, hc1⟩ := ReadsInt.ofRowC w1
  obtain ⟨k, h⟩ := P a0 l1 a2 w0 hm1 y1 hw1 w2
  refine (medlarlaw10_WholeMore.calls k a0 _ _ l1 a2 true w (Kd.C_of_reads (d := (0 : Int)) (h1 := fun _ => rfl) hr1) hc1 h ⟨rfl⟩).mono ?_
  rintro e w' ⟨rfl, hd⟩
  exact ⟨rfl, hd⟩

end Go.Proofs.Ytoikjfcdpiikbaa.MP
