-- written by a program of this session (wip/tools/mprint.sh) for this seat
import Derived.Test.YtoikjfcdpiikbaaMPx0
import Derived.Test.YtoikjfcdpiikbaaMPx3
import Derived.Test.YtoikjfcdpiikbaaMPx11
import Derived.Test.YtoikjfcdpiikbaaMPx23
import Derived.Test.YtoikjfcdpiikbaaMPx26
import Derived.Test.YtoikjfcdpiikbaaMPx33
namespace Go.Proofs.Ytoikjfcdpiikbaa.MP
open Go.RowKit Go.Proofs.YtoikjfcdpiikbaaW.PrintWords Go.Proofs.YtoikjfcdpiikbaaW.PrintLast Go.Proofs.YtoikjfcdpiikbaaW.PrintMore
attribute [local go_sem] max2_int min2_int max_two min_two max_three min_three max_four min_four   -- for this text's walks alone
set_option linter.unusedVariables false
set_option linter.unusedSimpArgs false

/-! ### medlarlaw09_SteinerDown: function 12 -/
def medlarlaw09_SteinerDown.j0 : Nat → Int → List Int → Int → Int → Bool → Int → Bool → Option (Bool)
  | 0, _, _, _, _, _, _, _ => none
  | k + 1, x0, x1, x2, x3, x9, x10, x84 => if x84 = true then (some false) else ((leaf_With.f k x0 x1 x3).bind fun bt642 => (if bt642.2 = 0 then ((steiner_Down.f k x0 bt642.1 x2).bind fun bt646 => ((node_Above.f k x0 bt646.1 x10).bind fun bt648 => (if x9 = true then (if bt646.2 = 0 then (if bt648.2 = 0 then (some bt648.1) else (some false)) else (some false)) else (some false)))) else (some x9)))
def medlarlaw09_SteinerDown.f (k : Nat) (a0 : Int) (l1 : List Int) (a2 : Int) (a3 : Int) : Option (Bool) := (medlarlaw09_live.f k).bind fun t628 => (if (l1.length : Int) > 30 then (some t628) else ((steiner_Down.f k a0 l1 a2).bind fun bt629 => (if bt629.2 = 0 then ((steiner_Down.f k a0 l1 bt629.1).bind fun bt631 => ((leaf_Below.f k a0 l1 a2).bind fun bt633 => ((leaf_Below.f k a0 l1 bt629.1).bind fun bt637 => (if bt631.2 = 0 then (if bt631.1 = bt629.1 then (if bt633.2 = 0 then (if bt637.2 = 0 then ((medlarref02_Same.f k bt633.1 bt637.1).bind fun t641 => (medlarlaw09_SteinerDown.j0 k a0 l1 a2 a3 t628 bt629.1 (!t641))) else (medlarlaw09_SteinerDown.j0 k a0 l1 a2 a3 t628 bt629.1 true)) else (medlarlaw09_SteinerDown.j0 k a0 l1 a2 a3 t628 bt629.1 true)) else (medlarlaw09_SteinerDown.j0 k a0 l1 a2 a3 t628 bt629.1 true)) else (medlarlaw09_SteinerDown.j0 k a0 l1 a2 a3 t628 bt629.1 true))))) else (if t628 = true then (some (bt629.1 == 0)) else (some false)))))
theorem medlarlaw09_SteinerDown.mono_l : ∀ k, (∀ y0 y1 y2 y3 y4 y5 y6, LeO (medlarlaw09_SteinerDown.j0 k y0 y1 y2 y3 y4 y5 y6) (medlarlaw09_SteinerDown.j0 (k + 1) y0 y1 y2 y3 y4 y5 y6))
  | 0 => fun _ _ _ _ _ _ _ r h => by simp [medlarlaw09_SteinerDown.j0] at h
  | k + 1 => by
    have ih0 := medlarlaw09_SteinerDown.mono_l k
    · intro y0 y1 y2 y3 y4 y5 y6
      unfold medlarlaw09_SteinerDown.j0
      repeat' first
      | (with_reducible exact ih0 _ _ _ _ _ _ _)
      | (with_reducible exact leaf_Below.mono _ _ _ _)
      | (with_reducible exact leaf_With.mono _ _ _ _)
      | (with_reducible exact medlarlaw09_live.mono _)
      | (with_reducible exact medlarref02_Same.mono _ _ _)
      | (with_reducible exact node_Above.mono _ _ _ _)
      | (with_reducible exact steiner_Down.mono _ _ _ _)
      | (with_reducible exact LeO.refl _)
      | (with_reducible exact LeO.none _)
      | (with_reducible refine LeO.ite ?_ ?_)
      | (with_reducible refine LeO.bind ?_ (fun _ => ?_))
      | exact ih0 _ _ _ _ _ _ _
      | exact leaf_Below.mono _ _ _ _
      | exact leaf_With.mono _ _ _ _
      | exact medlarlaw09_live.mono _
      | exact medlarref02_Same.mono _ _ _
      | exact node_Above.mono _ _ _ _
      | exact steiner_Down.mono _ _ _ _
      | exact LeO.none _
      | refine LeO.ite ?_ ?_
      | refine LeO.bind ?_ (fun _ => ?_)
theorem medlarlaw09_SteinerDown.mono : ∀ a0 a1 a2 a3 k, LeO (medlarlaw09_SteinerDown.f k a0 a1 a2 a3) (medlarlaw09_SteinerDown.f (k + 1) a0 a1 a2 a3) := by
  intro a0 a1 a2 a3 k
  have ih0 := medlarlaw09_SteinerDown.mono_l k
  unfold medlarlaw09_SteinerDown.f
  repeat' first
      | (with_reducible exact ih0 _ _ _ _ _ _ _)
      | (with_reducible exact leaf_Below.mono _ _ _ _)
      | (with_reducible exact leaf_With.mono _ _ _ _)
      | (with_reducible exact medlarlaw09_live.mono _)
      | (with_reducible exact medlarref02_Same.mono _ _ _)
      | (with_reducible exact node_Above.mono _ _ _ _)
      | (with_reducible exact steiner_Down.mono _ _ _ _)
      | (with_reducible exact LeO.refl _)
      | (with_reducible exact LeO.none _)
      | (with_reducible refine LeO.ite ?_ ?_)
      | (with_reducible refine LeO.bind ?_ (fun _ => ?_))
      | exact ih0 _ _ _ _ _ _ _
      | exact leaf_Below.mono _ _ _ _
      | exact leaf_With.mono _ _ _ _
      | exact medlarlaw09_live.mono _
      | exact medlarref02_Same.mono _ _ _
      | exact node_Above.mono _ _ _ _
      | exact steiner_Down.mono _ _ _ _
      | exact LeO.none _
      | refine LeO.ite ?_ ?_
      | refine LeO.bind ?_ (fun _ => ?_)
set_option maxHeartbeats 8000000 in
set_option maxRecDepth 100000 in
theorem medlarlaw09_SteinerDown.calls (k : Nat) (a0 : Int) (A1 : Option Addr) (c1 : Nat) (l1 : List Int) (a2 : Int) (a3 : Int) (r : Bool) (w : World) (hr1 : Kd.C (Kd.int .u64) w A1 l1.length l1) (hc1 : l1.length ≤ c1) (h : medlarlaw09_SteinerDown.f k a0 l1 a2 a3 = some r) (hT : Aside0 (r = true)) :
    Calls Try.prog 12 #[.int .i64 a0, .slice A1 l1.length c1, .int .u64 a2, .int .u64 a3] w fun e w' => e = .returned (.bool r) ∧ Below w.heap.size w w' := by
  have HR1 := Aside0.mk hr1
  have HC1 := Aside0.mk hc1
  clear hr1 hc1
  have HB := Aside0.mk (Below.refl w.heap.size w)
  have H : ((medlarlaw09_live.f k).bind fun t628 => (if (l1.length : Int) > 30 then (some t628) else ((steiner_Down.f k a0 l1 a2).bind fun bt629 => (if bt629.2 = 0 then ((steiner_Down.f k a0 l1 bt629.1).bind fun bt631 => ((leaf_Below.f k a0 l1 a2).bind fun bt633 => ((leaf_Below.f k a0 l1 bt629.1).bind fun bt637 => (if bt631.2 = 0 then (if bt631.1 = bt629.1 then (if bt633.2 = 0 then (if bt637.2 = 0 then ((medlarref02_Same.f k bt633.1 bt637.1).bind fun t641 => (medlarlaw09_SteinerDown.j0 k a0 l1 a2 a3 t628 bt629.1 (!t641))) else (medlarlaw09_SteinerDown.j0 k a0 l1 a2 a3 t628 bt629.1 true)) else (medlarlaw09_SteinerDown.j0 k a0 l1 a2 a3 t628 bt629.1 true)) else (medlarlaw09_SteinerDown.j0 k a0 l1 a2 a3 t628 bt629.1 true)) else (medlarlaw09_SteinerDown.j0 k a0 l1 a2 a3 t628 bt629.1 true))))) else (if t628 = true then (some (bt629.1 == 0)) else (some false)))))) = some r := h
  clear h
  replace H := Option.bind_eq_some_iff.mp H
  obtain ⟨t628, A50, H⟩ := H
  replace H : (if (l1.length : Int) > 30 then (some t628) else ((steiner_Down.f k a0 l1 a2).bind fun bt629 => (if bt629.2 = 0 then ((steiner_Down.f k a0 l1 bt629.1).bind fun bt631 => ((leaf_Below.f k a0 l1 a2).bind fun bt633 => ((leaf_Below.f k a0 l1 bt629.1).bind fun bt637 => (if bt631.2 = 0 then (if bt631.1 = bt629.1 then (if bt633.2 = 0 then (if bt637.2 = 0 then ((medlarref02_Same.f k bt633.1 bt637.1).bind fun t641 => (medlarlaw09_SteinerDown.j0 k a0 l1 a2 a3 t628 bt629.1 (!t641))) else (medlarlaw09_SteinerDown.j0 k a0 l1 a2 a3 t628 bt629.1 true)) else (medlarlaw09_SteinerDown.j0 k a0 l1 a2 a3 t628 bt629.1 true)) else (medlarlaw09_SteinerDown.j0 k a0 l1 a2 a3 t628 bt629.1 true)) else (medlarlaw09_SteinerDown.j0 k a0 l1 a2 a3 t628 bt629.1 true))))) else (if t628 = true then (some (bt629.1 == 0)) else (some false))))) = some r := H
  have A5 := Aside0.mk A50
  clear A50
  by_cases c6 : (l1.length : Int) > 30
  · rw [if_pos c6] at H
    have c6b0 : decide (30 < (l1.length : Int)) = true := decide_eq_true c6
    have c6b1 : decide (30 < l1.length) = true := decide_eq_true (by omega)
    clear c6
    obtain rfl := Option.some.inj H
    go_enter Try.func12, Try.ntmps12
    go_wp2_with (first | ((with_reducible refine gate_callee (f := 14) rfl ?_); refine goesL_ (some 24) rfl rfl Try.func14 (by kernel_rfl) rfl #[] rfl (by (try simp only [List.map_toArray, List.map_cons, List.map_nil]); first | done | rfl | (simp only [List.length_drop, List.length_take]; rfl)) ?_; (with_reducible refine (medlarlaw09_live.calls k  t628 _ A5.out).mono ?_); rintro e w7 ⟨rfl, hb⟩; refine ⟨_, rfl, ?_⟩; have n0_ := Aside0.mk (below_step (by repeat (first | (with_reducible first | exact HB.out | apply below_alloc | apply pw_below_drewN | apply below_drew1) | exact HB.out)) hb); clear HB; have HB := n0_; clear n0_; (try clear hb); (try clear hb2); (try clear hk); (try clear hi)))
    go_ret
    exact ⟨by first | rfl | (simp [errW_none, errW_some] <;> rfl) | (simp [*, errW_none, errW_some] <;> rfl), by repeat (first | (with_reducible first | exact HB.out | apply below_alloc | apply pw_below_drewN | apply below_drew1) | exact HB.out)⟩
  · rw [if_neg c6] at H
    have c6b0 : decide (30 < (l1.length : Int)) = false := decide_eq_false c6
    have c6b1 : decide (30 < l1.length) = false := decide_eq_false (by omega)
    clear c6
    replace H := Option.bind_eq_some_iff.mp H
    obtain ⟨⟨t629, t630⟩, A80, H⟩ := H
    replace H : (if t630 = 0 then ((steiner_Down.f k a0 l1 t629).bind fun bt631 => ((leaf_Below.f k a0 l1 a2).bind fun bt633 => ((leaf_Below.f k a0 l1 t629).bind fun bt637 => (if bt631.2 = 0 then (if bt631.1 = t629 then (if bt633.2 = 0 then (if bt637.2 = 0 then ((medlarref02_Same.f k bt633.1 bt637.1).bind fun t641 => (medlarlaw09_SteinerDown.j0 k a0 l1 a2 a3 t628 t629 (!t641))) else (medlarlaw09_SteinerDown.j0 k a0 l1 a2 a3 t628 t629 true)) else (medlarlaw09_SteinerDown.j0 k a0 l1 a2 a3 t628 t629 true)) else (medlarlaw09_SteinerDown.j0 k a0 l1 a2 a3 t628 t629 true)) else (medlarlaw09_SteinerDown.j0 k a0 l1 a2 a3 t628 t629 true))))) else (if t628 = true then (some (t629 == 0)) else (some false))) = some r := H
    have A8 := Aside0.mk A80
    clear A80
    by_cases c9 : t630 = 0
    · rw [if_pos c9] at H
      have c9b0 : (t630 == 0) = true := beq_iff_eq.mpr c9
      have c9b1 : (t630 != 0) = false := bne_eq_false_iff_eq.mpr c9
      clear c9
      replace H := Option.bind_eq_some_iff.mp H
      obtain ⟨⟨t631, t632⟩, A100, H⟩ := H
      replace H : ((leaf_Below.f k a0 l1 a2).bind fun bt633 => ((leaf_Below.f k a0 l1 t629).bind fun bt637 => (if t632 = 0 then (if t631 = t629 then (if bt633.2 = 0 then (if bt637.2 = 0 then ((medlarref02_Same.f k bt633.1 bt637.1).bind fun t641 => (medlarlaw09_SteinerDown.j0 k a0 l1 a2 a3 t628 t629 (!t641))) else (medlarlaw09_SteinerDown.j0 k a0 l1 a2 a3 t628 t629 true)) else (medlarlaw09_SteinerDown.j0 k a0 l1 a2 a3 t628 t629 true)) else (medlarlaw09_SteinerDown.j0 k a0 l1 a2 a3 t628 t629 true)) else (medlarlaw09_SteinerDown.j0 k a0 l1 a2 a3 t628 t629 true)))) = some r := H
      have A10 := Aside0.mk A100
      clear A100
      replace H := Option.bind_eq_some_iff.mp H
      obtain ⟨⟨t633, t634⟩, A110, H⟩ := H
      replace H : ((leaf_Below.f k a0 l1 t629).bind fun bt637 => (if t632 = 0 then (if t631 = t629 then (if t634 = 0 then (if bt637.2 = 0 then ((medlarref02_Same.f k t633 bt637.1).bind fun t641 => (medlarlaw09_SteinerDown.j0 k a0 l1 a2 a3 t628 t629 (!t641))) else (medlarlaw09_SteinerDown.j0 k a0 l1 a2 a3 t628 t629 true)) else (medlarlaw09_SteinerDown.j0 k a0 l1 a2 a3 t628 t629 true)) else (medlarlaw09_SteinerDown.j0 k a0 l1 a2 a3 t628 t629 true)) else (medlarlaw09_SteinerDown.j0 k a0 l1 a2 a3 t628 t629 true))) = some r := H
      have A11 := Aside0.mk A110
      clear A110
      replace H := Option.bind_eq_some_iff.mp H
      obtain ⟨⟨t637, t638⟩, A120, H⟩ := H
      replace H : (if t632 = 0 then (if t631 = t629 then (if t634 = 0 then (if t638 = 0 then ((medlarref02_Same.f k t633 t637).bind fun t641 => (medlarlaw09_SteinerDown.j0 k a0 l1 a2 a3 t628 t629 (!t641))) else (medlarlaw09_SteinerDown.j0 k a0 l1 a2 a3 t628 t629 true)) else (medlarlaw09_SteinerDown.j0 k a0 l1 a2 a3 t628 t629 true)) else (medlarlaw09_SteinerDown.j0 k a0 l1 a2 a3 t628 t629 true)) else (medlarlaw09_SteinerDown.j0 k a0 l1 a2 a3 t628 t629 true)) = some r := H
      have A12 := Aside0.mk A120
      clear A120
      have HC13 := Aside0.mk H
      clear H
      go_enter Try.func12, Try.ntmps12
      go_upto_region 10 with (first | ((with_reducible refine gate_callee (f := 14) rfl ?_); refine goesL_ (some 24) rfl rfl Try.func14 (by kernel_rfl) rfl #[] rfl (by (try simp only [List.map_toArray, List.map_cons, List.map_nil]); first | done | rfl | (simp only [List.length_drop, List.length_take]; rfl)) ?_; (with_reducible refine (medlarlaw09_live.calls k  t628 _ A5.out).mono ?_); rintro e w14 ⟨rfl, hb⟩; refine ⟨_, rfl, ?_⟩; have n0_ := Aside0.mk (below_step (by repeat (first | (with_reducible first | exact HB.out | apply below_alloc | apply pw_below_drewN | apply below_drew1) | exact HB.out)) hb); clear HB; have HB := n0_; clear n0_; (try clear hb); (try clear hb2); (try clear hk); (try clear hi)) | ((with_reducible refine gate_callee (f := 31) rfl ?_); refine goesL_ (some 33) rfl rfl Try.func31 (by kernel_rfl) rfl #[.int .i64 a0, .slice A1 l1.length c1, .int .u64 a2] rfl (by (try simp only [List.map_toArray, List.map_cons, List.map_nil]); first | done | rfl | (simp only [List.length_drop, List.length_take]; rfl)) ?_; (with_reducible refine (steiner_Down.calls k a0 _ _ l1 a2 t629 t630 _ ?side1 ?side2 A8.out).mono ?_); (case side1 => repeat (first | exact (Kd.C_below HR1.out HB.out) | (with_reducible refine Kd.C_alloc ?_ _) | (with_reducible refine Kd.C_drewN ?_ _) | (with_reducible refine Kd.C_drew ?_))); (case side2 => exact HC1.out); rintro e w15 ⟨rfl, hb⟩; refine ⟨_, rfl, ?_⟩; have n0_ := Aside0.mk (below_step (by repeat (first | (with_reducible first | exact HB.out | apply below_alloc | apply pw_below_drewN | apply below_drew1) | exact HB.out)) hb); clear HB; have HB := n0_; clear n0_; (try clear hb); (try clear hb2); (try clear hk); (try clear hi)) | ((with_reducible refine gate_callee (f := 31) rfl ?_); refine goesL_ (some 47) rfl rfl Try.func31 (by kernel_rfl) rfl #[.int .i64 a0, .slice A1 l1.length c1, .int .u64 t629] rfl (by (try simp only [List.map_toArray, List.map_cons, List.map_nil]); first | done | rfl | (simp only [List.length_drop, List.length_take]; rfl)) ?_; (with_reducible refine (steiner_Down.calls k a0 _ _ l1 t629 t631 t632 _ ?side1 ?side2 A10.out).mono ?_); (case side1 => repeat (first | exact (Kd.C_below HR1.out HB.out) | (with_reducible refine Kd.C_alloc ?_ _) | (with_reducible refine Kd.C_drewN ?_ _) | (with_reducible refine Kd.C_drew ?_))); (case side2 => exact HC1.out); rintro e w16 ⟨rfl, hb⟩; refine ⟨_, rfl, ?_⟩; have n0_ := Aside0.mk (below_step (by repeat (first | (with_reducible first | exact HB.out | apply below_alloc | apply pw_below_drewN | apply below_drew1) | exact HB.out)) hb); clear HB; have HB := n0_; clear n0_; (try clear hb); (try clear hb2); (try clear hk); (try clear hi)) | ((with_reducible refine gate_callee (f := 20) rfl ?_); refine goesL_ (some 54) rfl rfl Try.func20 (by kernel_rfl) rfl #[.int .i64 a0, .slice A1 l1.length c1, .int .u64 a2] rfl (by (try simp only [List.map_toArray, List.map_cons, List.map_nil]); first | done | rfl | (simp only [List.length_drop, List.length_take]; rfl)) ?_; (with_reducible refine (leaf_Below.calls k a0 _ _ l1 a2 t633 t634 _ ?side1 ?side2 A11.out).mono ?_); (case side1 => repeat (first | exact (Kd.C_below HR1.out HB.out) | (with_reducible refine Kd.C_alloc ?_ _) | (with_reducible refine Kd.C_drewN ?_ _) | (with_reducible refine Kd.C_drew ?_))); (case side2 => exact HC1.out); rintro e w17 ⟨v635, rfl, ho0, hb⟩; refine ⟨_, rfl, ?_⟩; have n0_ := Aside0.mk (Kd.R_lower ho0 (below_size (by repeat (first | (with_reducible first | exact HB.out | apply below_alloc | apply pw_below_drewN | apply below_drew1) | exact HB.out)))); have n1_ := Aside0.mk (below_step (by repeat (first | (with_reducible first | exact HB.out | apply below_alloc | apply pw_below_drewN | apply below_drew1) | exact HB.out)) hb); clear HB; have HO636 := n0_; have HB := n1_; clear n0_ n1_; (try clear hb); (try clear hb2); (try clear hk); (try clear hi); (try clear ho0)) | ((with_reducible refine gate_callee (f := 20) rfl ?_); refine goesL_ (some 61) rfl rfl Try.func20 (by kernel_rfl) rfl #[.int .i64 a0, .slice A1 l1.length c1, .int .u64 t629] rfl (by (try simp only [List.map_toArray, List.map_cons, List.map_nil]); first | done | rfl | (simp only [List.length_drop, List.length_take]; rfl)) ?_; (with_reducible refine (leaf_Below.calls k a0 _ _ l1 t629 t637 t638 _ ?side1 ?side2 A12.out).mono ?_); (case side1 => repeat (first | exact (Kd.C_below HR1.out HB.out) | (with_reducible refine Kd.C_alloc ?_ _) | (with_reducible refine Kd.C_drewN ?_ _) | (with_reducible refine Kd.C_drew ?_))); (case side2 => exact HC1.out); rintro e w18 ⟨v639, rfl, ho0, hb⟩; refine ⟨_, rfl, ?_⟩; have n0_ := Aside0.mk (Kd.R_elder' (by (with_reducible repeat (first | apply Kd.R_alloc | apply Kd.R_drewN | apply Kd.R_drew)); exact HO636.out) (Kd.R_base ho0) hb); have n1_ := Aside0.mk (Kd.R_lower (Kd.R_new' ho0 (Kd.R_lt (by (with_reducible repeat (first | apply Kd.R_alloc | apply Kd.R_drewN | apply Kd.R_drew)); exact HO636.out))) (below_size (by repeat (first | (with_reducible first | exact HB.out | apply below_alloc | apply pw_below_drewN | apply below_drew1) | exact HB.out)))); have n2_ := Aside0.mk (below_step (by repeat (first | (with_reducible first | exact HB.out | apply below_alloc | apply pw_below_drewN | apply below_drew1) | exact HB.out)) hb); clear HO636; clear HB; have HO636 := n0_; have HO640 := n1_; have HB := n2_; clear n0_ n1_ n2_; (try clear hb); (try clear hb2); (try clear hk); (try clear hi); (try clear ho0)))
      (try simp only [Act.put, List.setIfInBounds_toArray, List.set_cons_zero, List.set_cons_succ])
      go_cut [84] (fun v84 wc => ∃ (kq : Nat) (x84_12 : Bool), v84 = .bool x84_12 ∧ Aside0 (medlarlaw09_SteinerDown.j0 kq a0 l1 a2 a3 t628 t629 x84_12 = some r) ∧ Aside0 (kq ≤ k) ∧ Aside0 (Below w.heap.size w wc))
      case first =>
        have H := HC13.out
        clear HC13
        by_cases c19 : t632 = 0
        · rw [if_pos c19] at H
          have c19b0 : (t632 == 0) = true := beq_iff_eq.mpr c19
          have c19b1 : (t632 != 0) = false := bne_eq_false_iff_eq.mpr c19
          clear c19
          (first | rw [c19b0] | (simp only [i64_w, i32_w]; rw [c19b0]) | skip)
          by_cases c20 : t631 = t629
          · rw [if_pos c20] at H
            have c20b0 : (t631 == t629) = true := beq_iff_eq.mpr c20
            have c20b1 : (t631 != t629) = false := bne_eq_false_iff_eq.mpr c20
            clear c20
            by_cases c21 : t634 = 0
            · rw [if_pos c21] at H
              have c21b0 : (t634 == 0) = true := beq_iff_eq.mpr c21
              have c21b1 : (t634 != 0) = false := bne_eq_false_iff_eq.mpr c21
              clear c21
              by_cases c22 : t638 = 0
              · rw [if_pos c22] at H
                have c22b0 : (t638 == 0) = true := beq_iff_eq.mpr c22
                have c22b1 : (t638 != 0) = false := bne_eq_false_iff_eq.mpr c22
                clear c22
                replace H := Option.bind_eq_some_iff.mp H
                obtain ⟨t641, A230, H⟩ := H
                replace H : (medlarlaw09_SteinerDown.j0 k a0 l1 a2 a3 t628 t629 (!t641)) = some r := H
                have A23 := Aside0.mk A230
                clear A230
                have H' := Aside0.mk H
                clear H
                obtain ⟨Ao24, co24, eo24⟩ := Kd.R_slice HO636.out
                subst eo24
                obtain ⟨Ao25, co25, eo25⟩ := Kd.R_slice HO640.out
                subst eo25
                go_wp2_with (first | (go_at_call 35; (with_reducible refine (medlarref02_Same.calls k _ _ t633 _ _ t637 t641 _ ?side1 ?side2 ?side3 ?side4 A23.out).mono ?_); (case side1 => repeat (first | exact (Kd.R_reads' HO636.out).2.2 | (with_reducible refine Kd.C_alloc ?_ _) | (with_reducible refine Kd.C_drewN ?_ _) | (with_reducible refine Kd.C_drew ?_))); (case side2 => exact (Kd.R_reads' HO636.out).2.1); (case side3 => repeat (first | exact (Kd.R_reads' HO640.out).2.2 | (with_reducible refine Kd.C_alloc ?_ _) | (with_reducible refine Kd.C_drewN ?_ _) | (with_reducible refine Kd.C_drew ?_))); (case side4 => exact (Kd.R_reads' HO640.out).2.1); rintro e w' ⟨rfl, ⟨nd, rfl⟩⟩))
                go_meet
                case rel => exact ⟨_, (!t641), (by first | rfl | (simp; done) | (simp [*]; done)), H', ⟨by first | omega | exact Nat.le_refl _⟩, ⟨by repeat (first | (with_reducible first | exact HB.out | apply below_alloc | apply pw_below_drewN | apply below_drew1) | exact HB.out)⟩⟩
              · rw [if_neg c22] at H
                have c22b0 : (t638 == 0) = false := beq_eq_false_iff_ne.mpr c22
                have c22b1 : (t638 != 0) = true := bne_iff_ne.mpr c22
                have H' := Aside0.mk H
                clear H
                go_wp2
                go_meet
                case rel => exact ⟨_, (true), (by first | rfl | (simp; done) | (simp [*]; done)), H', ⟨by first | omega | exact Nat.le_refl _⟩, ⟨by repeat (first | (with_reducible first | exact HB.out | apply below_alloc | apply pw_below_drewN | apply below_drew1) | exact HB.out)⟩⟩
            · rw [if_neg c21] at H
              have c21b0 : (t634 == 0) = false := beq_eq_false_iff_ne.mpr c21
              have c21b1 : (t634 != 0) = true := bne_iff_ne.mpr c21
              have H' := Aside0.mk H
              clear H
              go_wp2
              go_meet
              case rel => exact ⟨_, (true), (by first | rfl | (simp; done) | (simp [*]; done)), H', ⟨by first | omega | exact Nat.le_refl _⟩, ⟨by repeat (first | (with_reducible first | exact HB.out | apply below_alloc | apply pw_below_drewN | apply below_drew1) | exact HB.out)⟩⟩
          · rw [if_neg c20] at H
            have c20b0 : (t631 == t629) = false := beq_eq_false_iff_ne.mpr c20
            have c20b1 : (t631 != t629) = true := bne_iff_ne.mpr c20
            have H' := Aside0.mk H
            clear H
            go_wp2
            go_meet
            case rel => exact ⟨_, (true), (by first | rfl | (simp; done) | (simp [*]; done)), H', ⟨by first | omega | exact Nat.le_refl _⟩, ⟨by repeat (first | (with_reducible first | exact HB.out | apply below_alloc | apply pw_below_drewN | apply below_drew1) | exact HB.out)⟩⟩
        · rw [if_neg c19] at H
          have c19b0 : (t632 == 0) = false := beq_eq_false_iff_ne.mpr c19
          have c19b1 : (t632 != 0) = true := bne_iff_ne.mpr c19
          (first | rw [c19b0] | (simp only [i64_w, i32_w]; rw [c19b0]) | skip)
          have H' := Aside0.mk H
          clear H
          go_wp2
          go_meet
          case rel => exact ⟨_, (true), (by first | rfl | (simp; done) | (simp [*]; done)), H', ⟨by first | omega | exact Nat.le_refl _⟩, ⟨by repeat (first | (with_reducible first | exact HB.out | apply below_alloc | apply pw_below_drewN | apply below_drew1) | exact HB.out)⟩⟩
      case rest =>
        clear HC13
        try clear c1
        try clear c2
        try clear p2
        try clear c3
        try clear c6
        try clear c6b0
        try clear c6b1
        try clear c9
        try clear c9b0
        try clear c9b1
        try clear c12
        try clear c14
        try clear c19
        try clear c19b0
        try clear c19b1
        try clear c20
        try clear c20b0
        try clear c20b1
        try clear c21
        try clear c21b0
        try clear c21b1
        try clear c22
        try clear c22b0
        try clear c22b1
        obtain ⟨kq, x84_12, rfl, HA, HJ12, HB⟩ := hcut
        cases kq with
        | zero => exact absurd HA.out (by simp [medlarlaw09_SteinerDown.j0])
        | succ kj12 =>
          have H := HA.out
          clear HA
          simp only [medlarlaw09_SteinerDown.j0] at H
          by_cases c26 : x84_12 = true
          · subst c26
            have H1 : (some false) = some r := by rw [if_pos rfl] at H; exact H
            clear H
            have H := H1
            clear H1
            exact absurd ((Option.some.inj H).trans hT.out) Bool.false_ne_true
          · replace c26 := Bool.eq_false_iff.mpr c26
            subst c26
            have H1 : ((leaf_With.f kj12 a0 l1 a3).bind fun bt642 => (if bt642.2 = 0 then ((steiner_Down.f kj12 a0 bt642.1 a2).bind fun bt646 => ((node_Above.f kj12 a0 bt646.1 t629).bind fun bt648 => (if t628 = true then (if bt646.2 = 0 then (if bt648.2 = 0 then (some bt648.1) else (some false)) else (some false)) else (some false)))) else (some t628))) = some r := by rw [if_neg (show ¬ (false = true) by decide)] at H; exact H
            clear H
            have H := H1
            clear H1
            replace H := Option.bind_eq_some_iff.mp H
            obtain ⟨⟨t642, t643⟩, A270, H⟩ := H
            replace H : (if t643 = 0 then ((steiner_Down.f kj12 a0 t642 a2).bind fun bt646 => ((node_Above.f kj12 a0 bt646.1 t629).bind fun bt648 => (if t628 = true then (if bt646.2 = 0 then (if bt648.2 = 0 then (some bt648.1) else (some false)) else (some false)) else (some false)))) else (some t628)) = some r := H
            have A27 := Aside0.mk A270
            clear A270
            by_cases c28 : t643 = 0
            · rw [if_pos c28] at H
              have c28b0 : (t643 == 0) = true := beq_iff_eq.mpr c28
              have c28b1 : (t643 != 0) = false := bne_eq_false_iff_eq.mpr c28
              clear c28
              replace H := Option.bind_eq_some_iff.mp H
              obtain ⟨⟨t646, t647⟩, A290, H⟩ := H
              replace H : ((node_Above.f kj12 a0 t646 t629).bind fun bt648 => (if t628 = true then (if t647 = 0 then (if bt648.2 = 0 then (some bt648.1) else (some false)) else (some false)) else (some false))) = some r := H
              have A29 := Aside0.mk A290
              clear A290
              replace H := Option.bind_eq_some_iff.mp H
              obtain ⟨⟨t648, t649⟩, A300, H⟩ := H
              replace H : (if t628 = true then (if t647 = 0 then (if t649 = 0 then (some t648) else (some false)) else (some false)) else (some false)) = some r := H
              have A30 := Aside0.mk A300
              clear A300
              by_cases c31 : t628 = true
              · subst c31
                have H1 : (if t647 = 0 then (if t649 = 0 then (some t648) else (some false)) else (some false)) = some r := by rw [if_pos rfl] at H; exact H
                clear H
                have H := H1
                clear H1
                by_cases c32 : t647 = 0
                · rw [if_pos c32] at H
                  have c32b0 : (t647 == 0) = true := beq_iff_eq.mpr c32
                  have c32b1 : (t647 != 0) = false := bne_eq_false_iff_eq.mpr c32
                  clear c32
                  by_cases c33 : t649 = 0
                  · rw [if_pos c33] at H
                    have c33b0 : (t649 == 0) = true := beq_iff_eq.mpr c33
                    have c33b1 : (t649 != 0) = false := bne_eq_false_iff_eq.mpr c33
                    clear c33
                    obtain rfl := Option.some.inj H
                    go_wp2_with (first | ((with_reducible refine gate_callee (f := 44) rfl ?_); refine goesL_ (some 89) rfl rfl Try.func44 (by kernel_rfl) rfl #[.int .i64 a0, .slice A1 l1.length c1, .int .u64 a3] rfl (by (try simp only [List.map_toArray, List.map_cons, List.map_nil]); first | done | rfl | (simp only [List.length_drop, List.length_take]; rfl)) ?_; (with_reducible refine (leaf_With.calls kj12 a0 _ _ l1 a3 t642 t643 _ ?side1 ?side2 A27.out).mono ?_); (case side1 => repeat (first | exact (Kd.C_below HR1.out HB.out) | (with_reducible refine Kd.C_alloc ?_ _) | (with_reducible refine Kd.C_drewN ?_ _) | (with_reducible refine Kd.C_drew ?_))); (case side2 => exact HC1.out); rintro e w34 ⟨v644, rfl, ho0, hb⟩; refine ⟨_, rfl, ?_⟩; have n0_ := Aside0.mk (Kd.R_lower ho0 (below_size (by repeat (first | (with_reducible first | exact HB.out | apply below_alloc | apply pw_below_drewN | apply below_drew1) | exact HB.out)))); have n1_ := Aside0.mk (below_step (by repeat (first | (with_reducible first | exact HB.out | apply below_alloc | apply pw_below_drewN | apply below_drew1) | exact HB.out)) hb); clear HB; have HO645 := n0_; have HB := n1_; clear n0_ n1_; (try clear hb); (try clear hb2); (try clear hk); (try clear hi); (try clear ho0); obtain ⟨Ao35, co35, eo35⟩ := Kd.R_slice HO645.out; subst eo35) | ((with_reducible refine gate_callee (f := 31) rfl ?_); refine goesL_ (some 99) rfl rfl Try.func31 (by kernel_rfl) rfl #[.int .i64 a0, .slice Ao35 t642.length co35, .int .u64 a2] rfl (by (try simp only [List.map_toArray, List.map_cons, List.map_nil]); first | done | rfl | (simp only [List.length_drop, List.length_take]; rfl)) ?_; (with_reducible refine (steiner_Down.calls kj12 a0 _ _ t642 a2 t646 t647 _ ?side1 ?side2 A29.out).mono ?_); (case side1 => repeat (first | exact (Kd.R_reads' HO645.out).2.2 | (with_reducible refine Kd.C_alloc ?_ _) | (with_reducible refine Kd.C_drewN ?_ _) | (with_reducible refine Kd.C_drew ?_))); (case side2 => exact (Kd.R_reads' HO645.out).2.1); rintro e w36 ⟨rfl, hb⟩; refine ⟨_, rfl, ?_⟩; have n0_ := Aside0.mk (Kd.R_below (by (with_reducible repeat (first | apply Kd.R_alloc | apply Kd.R_drewN | apply Kd.R_drew)); exact HO645.out) hb); have n1_ := Aside0.mk (below_step (by repeat (first | (with_reducible first | exact HB.out | apply below_alloc | apply pw_below_drewN | apply below_drew1) | exact HB.out)) hb); clear HO645; clear HB; have HO645 := n0_; have HB := n1_; clear n0_ n1_; (try clear hb); (try clear hb2); (try clear hk); (try clear hi)) | ((with_reducible refine gate_callee (f := 28) rfl ?_); refine goesL_ (some 106) rfl rfl Try.func28 (by kernel_rfl) rfl #[.int .i64 a0, .int .u64 t646, .int .u64 t629] rfl (by (try simp only [List.map_toArray, List.map_cons, List.map_nil]); first | done | rfl | (simp only [List.length_drop, List.length_take]; rfl)) ?_; (with_reducible refine (node_Above.calls kj12 a0 t646 t629 t648 t649 _ A30.out).mono ?_); rintro e w' ⟨rfl, ⟨nd, rfl⟩⟩; refine ⟨_, rfl, ?_⟩))
                    go_ret
                    exact ⟨by first | rfl | (simp [errW_none, errW_some] <;> rfl) | (simp [*, errW_none, errW_some] <;> rfl), by repeat (first | (with_reducible first | exact HB.out | apply below_alloc | apply pw_below_drewN | apply below_drew1) | exact HB.out)⟩
                  · rw [if_neg c33] at H
                    have c33b0 : (t649 == 0) = false := beq_eq_false_iff_ne.mpr c33
                    have c33b1 : (t649 != 0) = true := bne_iff_ne.mpr c33
                    exact absurd ((Option.some.inj H).trans hT.out) Bool.false_ne_true
                · rw [if_neg c32] at H
                  have c32b0 : (t647 == 0) = false := beq_eq_false_iff_ne.mpr c32
                  have c32b1 : (t647 != 0) = true := bne_iff_ne.mpr c32
                  exact absurd ((Option.some.inj H).trans hT.out) Bool.false_ne_true
              · replace c31 := Bool.eq_false_iff.mpr c31
                subst c31
                have H1 : (some false) = some r := by rw [if_neg (show ¬ (false = true) by decide)] at H; exact H
                clear H
                have H := H1
                clear H1
                exact absurd ((Option.some.inj H).trans hT.out) Bool.false_ne_true
            · rw [if_neg c28] at H
              have c28b0 : (t643 == 0) = false := beq_eq_false_iff_ne.mpr c28
              have c28b1 : (t643 != 0) = true := bne_iff_ne.mpr c28
              obtain rfl := Option.some.inj H
              go_wp2_with (first | ((with_reducible refine gate_callee (f := 44) rfl ?_); refine goesL_ (some 89) rfl rfl Try.func44 (by kernel_rfl) rfl #[.int .i64 a0, .slice A1 l1.length c1, .int .u64 a3] rfl (by (try simp only [List.map_toArray, List.map_cons, List.map_nil]); first | done | rfl | (simp only [List.length_drop, List.length_take]; rfl)) ?_; (with_reducible refine (leaf_With.calls kj12 a0 _ _ l1 a3 t642 t643 _ ?side1 ?side2 A27.out).mono ?_); (case side1 => repeat (first | exact (Kd.C_below HR1.out HB.out) | (with_reducible refine Kd.C_alloc ?_ _) | (with_reducible refine Kd.C_drewN ?_ _) | (with_reducible refine Kd.C_drew ?_))); (case side2 => exact HC1.out); rintro e w37 ⟨v644, rfl, ho0, hb⟩; refine ⟨_, rfl, ?_⟩; have n0_ := Aside0.mk (Kd.R_lower ho0 (below_size (by repeat (first | (with_reducible first | exact HB.out | apply below_alloc | apply pw_below_drewN | apply below_drew1) | exact HB.out)))); have n1_ := Aside0.mk (below_step (by repeat (first | (with_reducible first | exact HB.out | apply below_alloc | apply pw_below_drewN | apply below_drew1) | exact HB.out)) hb); clear HB; have HO645 := n0_; have HB := n1_; clear n0_ n1_; (try clear hb); (try clear hb2); (try clear hk); (try clear hi); (try clear ho0)))
              go_ret
              exact ⟨by first | rfl | (simp [errW_none, errW_some] <;> rfl) | (simp [*, errW_none, errW_some] <;> rfl), by repeat (first | (with_reducible first | exact HB.out | apply below_alloc | apply pw_below_drewN | apply below_drew1) | exact HB.out)⟩
    · rw [if_neg c9] at H
      have c9b0 : (t630 == 0) = false := beq_eq_false_iff_ne.mpr c9
      have c9b1 : (t630 != 0) = true := bne_iff_ne.mpr c9
      by_cases c38 : t628 = true
      · subst c38
        have H1 : (some (t629 == 0)) = some r := by rw [if_pos rfl] at H; exact H
        clear H
        have H := H1
        clear H1
        obtain rfl := Option.some.inj H
        go_enter Try.func12, Try.ntmps12
        go_wp2_with (first | ((with_reducible refine gate_callee (f := 14) rfl ?_); refine goesL_ (some 24) rfl rfl Try.func14 (by kernel_rfl) rfl #[] rfl (by (try simp only [List.map_toArray, List.map_cons, List.map_nil]); first | done | rfl | (simp only [List.length_drop, List.length_take]; rfl)) ?_; (with_reducible refine (medlarlaw09_live.calls k  true _ A5.out).mono ?_); rintro e w39 ⟨rfl, hb⟩; refine ⟨_, rfl, ?_⟩; have n0_ := Aside0.mk (below_step (by repeat (first | (with_reducible first | exact HB.out | apply below_alloc | apply pw_below_drewN | apply below_drew1) | exact HB.out)) hb); clear HB; have HB := n0_; clear n0_; (try clear hb); (try clear hb2); (try clear hk); (try clear hi)) | ((with_reducible refine gate_callee (f := 31) rfl ?_); refine goesL_ (some 33) rfl rfl Try.func31 (by kernel_rfl) rfl #[.int .i64 a0, .slice A1 l1.length c1, .int .u64 a2] rfl (by (try simp only [List.map_toArray, List.map_cons, List.map_nil]); first | done | rfl | (simp only [List.length_drop, List.length_take]; rfl)) ?_; (with_reducible refine (steiner_Down.calls k a0 _ _ l1 a2 t629 t630 _ ?side1 ?side2 A8.out).mono ?_); (case side1 => repeat (first | exact (Kd.C_below HR1.out HB.out) | (with_reducible refine Kd.C_alloc ?_ _) | (with_reducible refine Kd.C_drewN ?_ _) | (with_reducible refine Kd.C_drew ?_))); (case side2 => exact HC1.out); rintro e w40 ⟨rfl, hb⟩; refine ⟨_, rfl, ?_⟩; have n0_ := Aside0.mk (below_step (by repeat (first | (with_reducible first | exact HB.out | apply below_alloc | apply pw_below_drewN | apply below_drew1) | exact HB.out)) hb); clear HB; have HB := n0_; clear n0_; (try clear hb); (try clear hb2); (try clear hk); (try clear hi)))
        go_ret
        exact ⟨by first | rfl | (simp [errW_none, errW_some] <;> rfl) | (simp [*, errW_none, errW_some] <;> rfl), by repeat (first | (with_reducible first | exact HB.out | apply below_alloc | apply pw_below_drewN | apply below_drew1) | exact HB.out)⟩
      · replace c38 := Bool.eq_false_iff.mpr c38
        subst c38
        have H1 : (some false) = some r := by rw [if_neg (show ¬ (false = true) by decide)] at H; exact H
        clear H
        have H := H1
        clear H1
        exact absurd ((Option.some.inj H).trans hT.out) Bool.false_ne_true

/-- THE ONE PURE STATEMENT of medlarlaw09_SteinerDown: yours. -/
def medlarlaw09_SteinerDown.Pure : Prop := ∀ (a0 : Int) (l1 : List Int) (a2 : Int) (a3 : Int), (Lit.int .i64 a0).wf = true → l1.length ≤ maxLen → l1.length * 8 ≤ 140737488351232 → (∀ x ∈ l1, (Lit.int .u64 x).wf = true) → (Lit.int .u64 a2).wf = true → (Lit.int .u64 a3).wf = true → ∃ k, medlarlaw09_SteinerDown.f k a0 l1 a2 a3 = some true
theorem medlarlaw09_SteinerDown.walk (P : medlarlaw09_SteinerDown.Pure) (a0 : Int) (a1 : Option Addr) (len1 cap1 : Nat) (z1 : List Int) (a2 : Int) (a3 : Int) (w : World) (w0 : (Lit.int .i64 a0).wf = true) (w1 : (a1 = none ∧ len1 = 0 ∧ cap1 = 0 ∧ z1 = []) ∨ ∃ x, a1 = some x ∧ len1 ≤ cap1 ∧ cap1 ≤ maxLen ∧ z1.length = cap1 ∧ (∀ i, i < z1.length → w.cell? (x.add i) = some (.int .u64 (z1.getD i 0))) ∧ ∀ n ∈ z1, (Lit.int .u64 n).wf = true) (y1 : len1 * 8 ≤ 140737488351232) (w2 : (Lit.int .u64 a2).wf = true) (w3 : (Lit.int .u64 a3).wf = true) :
    Calls Try.prog 12 #[.int .i64 a0, .slice a1 len1 cap1, .int .u64 a2, .int .u64 a3] w fun e w' => e = .returned (.bool true) ∧ Below w.heap.size w w' := by
  obtain ⟨l1, rfl, hr1, hm1, hw1, hc1⟩ := ReadsInt.ofRowC w1
  obtain ⟨k, h⟩ := P a0 l1 a2 a3 w0 hm1 y1 hw1 w2 w3
  refine (medlarlaw09_SteinerDown.calls k a0 _ _ l1 a2 a3 true w (Kd.C_of_reads (d := (0 : Int)) (h1 := fun _ => rfl) hr1) hc1 h ⟨rfl⟩).mono ?_
  rintro e w' ⟨rfl, hd⟩
  exact ⟨rfl, hd⟩

end Go.Proofs.Ytoikjfcdpiikbaa.MP
