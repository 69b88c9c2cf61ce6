-- written by a program of this session (wip/tools/mprint.sh) for this seat
import Derived.Test.YtmffkfakcbopcaaMPx0
import Derived.Test.YtmffkfakcbopcaaMPx1
import Derived.Test.YtmffkfakcbopcaaMPx4
import Derived.Test.YtmffkfakcbopcaaMPx16
import Derived.Test.YtmffkfakcbopcaaMPx23
import Derived.Test.YtmffkfakcbopcaaMPx24
namespace Go.Proofs.Ytmffkfakcbopcaa.MP
open Go.RowKit Go.Proofs.YtmffkfakcbopcaaW.PrintWords Go.Proofs.YtmffkfakcbopcaaW.PrintLast Go.Proofs.YtmffkfakcbopcaaW.PrintMore
attribute [local go_sem] max2_int min2_int max_two min_two max_three min_three max_four min_four   -- for this text's walks alone
set_option linter.unusedVariables false
set_option linter.unusedSimpArgs false

attribute [local go_sem high] eqA34
/-! ### medlarlaw12_LayerOrder: function 8 -/
mutual
def medlarlaw12_LayerOrder.l0 : Nat → List (S34) → Bool → List (S34) → List (S34) → Int → Int → Option (Bool)
  | 0, _, _, _, _, _, _ => none
  | k + 1, x0, x3, x4, x5, x21, x22 => if x22 < x21 then (if 0 ≤ (wrap64 ((wrap64 ((x0.length : Int) - 1)) - x22)) then (if (wrap64 ((wrap64 ((x0.length : Int) - 1)) - x22)) < (x0.length : Int) then (if x5.length < 8796093022208 then (medlarlaw12_LayerOrder.l0 k x0 x3 x4 (x5 ++ [(⟨(rd_T34 x0 (wrap64 ((wrap64 ((x0.length : Int) - 1)) - x22))).f0, (rd_T34 x0 (wrap64 ((wrap64 ((x0.length : Int) - 1)) - x22))).f1⟩ : S34)]) x21 (wrap64 (x22 + 1))) else (none)) else (none)) else (none)) else ((layer_Order.f k x5).bind fun t661 => (if (x4.length : Int) = (x0.length : Int) then ((medlarref08_Same.f k x4 t661).bind fun t664 => (medlarlaw12_LayerOrder.j1 k x0 x3 x4 (!t664))) else (medlarlaw12_LayerOrder.j1 k x0 x3 x4 true)))
def medlarlaw12_LayerOrder.j1 : Nat → List (S34) → Bool → List (S34) → Bool → Option (Bool)
  | 0, _, _, _, _ => none
  | k + 1, x0, x3, x4, x49 => if x49 = true then (some false) else (medlarlaw12_LayerOrder.l1 k x0 x3 x4 x4 (x4.length : Int) 0)
def medlarlaw12_LayerOrder.l1 : Nat → List (S34) → Bool → List (S34) → List (S34) → Int → Int → Option (Bool)
  | 0, _, _, _, _, _, _ => none
  | k + 1, x0, x3, x4, x50, x51, x52 => if x52 < x51 then (if 0 ≤ x52 then (if x52 < (x50.length : Int) then (if x52 > 0 then (if 0 ≤ (wrap64 (x52 - 1)) then (if (wrap64 (x52 - 1)) < (x4.length : Int) then ((sub_Less.f k ((rd_T34 x50 x52).f0) ((rd_T34 x50 x52).f1) ((rd_T34 x4 (wrap64 (x52 - 1))).f0) ((rd_T34 x4 (wrap64 (x52 - 1))).f1)).bind fun t668 => (medlarlaw12_LayerOrder.j3 k x0 x3 x4 x50 x51 x52 t668 ((rd_T34 x50 x52).f0) ((rd_T34 x50 x52).f1))) else (none)) else (none)) else (medlarlaw12_LayerOrder.j3 k x0 x3 x4 x50 x51 x52 false ((rd_T34 x50 x52).f0) ((rd_T34 x50 x52).f1))) else (none)) else (none)) else (some x3)
def medlarlaw12_LayerOrder.j3 : Nat → List (S34) → Bool → List (S34) → List (S34) → Int → Int → Bool → Int → Int → Option (Bool)
  | 0, _, _, _, _, _, _, _, _, _ => none
  | k + 1, x0, x3, x4, x50, x51, x52, x67, x667000, x667001 => if x67 = true then (some false) else (medlarlaw12_LayerOrder.l2 k x0 x3 x4 0 0 x50 x51 x52 (x0.length : Int) 0 x667000 x667001)
def medlarlaw12_LayerOrder.l2 : Nat → List (S34) → Bool → List (S34) → Int → Int → List (S34) → Int → Int → Int → Int → Int → Int → Option (Bool)
  | 0, _, _, _, _, _, _, _, _, _, _, _, _ => none
  | k + 1, x0, x3, x4, x10, x11, x50, x51, x52, x69, x70, x667000, x667001 => if x70 < x69 then (if 0 ≤ x70 then (if x70 < (x0.length : Int) then (if (((rd_T34 x0 x70).f0) == x667000 && (((rd_T34 x0 x70).f1) == x667001)) = true then (if x70 < (x4.length : Int) then (if (((rd_T34 x4 x70).f0) == x667000 && (((rd_T34 x4 x70).f1) == x667001)) = true then (medlarlaw12_LayerOrder.l2 k x0 x3 x4 (wrap64 (x10 + 1)) (wrap64 (x11 + 1)) x50 x51 x52 x69 (wrap64 (x70 + 1)) x667000 x667001) else (medlarlaw12_LayerOrder.l2 k x0 x3 x4 (wrap64 (x10 + 1)) x11 x50 x51 x52 x69 (wrap64 (x70 + 1)) x667000 x667001)) else (none)) else (if x70 < (x4.length : Int) then (if (((rd_T34 x4 x70).f0) == x667000 && (((rd_T34 x4 x70).f1) == x667001)) = true then (medlarlaw12_LayerOrder.l2 k x0 x3 x4 x10 (wrap64 (x11 + 1)) x50 x51 x52 x69 (wrap64 (x70 + 1)) x667000 x667001) else (medlarlaw12_LayerOrder.l2 k x0 x3 x4 x10 x11 x50 x51 x52 x69 (wrap64 (x70 + 1)) x667000 x667001)) else (none))) else (none)) else (none)) else (if x10 = x11 then (medlarlaw12_LayerOrder.l1 k x0 x3 x4 x50 x51 (wrap64 (x52 + 1))) else (some false))
end
def medlarlaw12_LayerOrder.f (k : Nat) (l0 : List (S34)) : Option (Bool) := (medlarlaw12_live.f k).bind fun t653 => (if (l0.length : Int) > 100 then (some t653) else ((layer_Order.f k l0).bind fun t654 => (medlarlaw12_LayerOrder.l0 k l0 t653 t654 ([] : List (S34)) (l0.length : Int) 0)))
theorem medlarlaw12_LayerOrder.mono_l : ∀ k, (∀ y0 y1 y2 y3 y4 y5, LeO (medlarlaw12_LayerOrder.l0 k y0 y1 y2 y3 y4 y5) (medlarlaw12_LayerOrder.l0 (k + 1) y0 y1 y2 y3 y4 y5)) ∧ (∀ y0 y1 y2 y3, LeO (medlarlaw12_LayerOrder.j1 k y0 y1 y2 y3) (medlarlaw12_LayerOrder.j1 (k + 1) y0 y1 y2 y3)) ∧ (∀ y0 y1 y2 y3 y4 y5, LeO (medlarlaw12_LayerOrder.l1 k y0 y1 y2 y3 y4 y5) (medlarlaw12_LayerOrder.l1 (k + 1) y0 y1 y2 y3 y4 y5)) ∧ (∀ y0 y1 y2 y3 y4 y5 y6 y7 y8, LeO (medlarlaw12_LayerOrder.j3 k y0 y1 y2 y3 y4 y5 y6 y7 y8) (medlarlaw12_LayerOrder.j3 (k + 1) y0 y1 y2 y3 y4 y5 y6 y7 y8)) ∧ (∀ y0 y1 y2 y3 y4 y5 y6 y7 y8 y9 y10 y11, LeO (medlarlaw12_LayerOrder.l2 k y0 y1 y2 y3 y4 y5 y6 y7 y8 y9 y10 y11) (medlarlaw12_LayerOrder.l2 (k + 1) y0 y1 y2 y3 y4 y5 y6 y7 y8 y9 y10 y11))
  | 0 => ⟨fun _ _ _ _ _ _ r h => by simp [medlarlaw12_LayerOrder.l0] at h, fun _ _ _ _ r h => by simp [medlarlaw12_LayerOrder.j1] at h, fun _ _ _ _ _ _ r h => by simp [medlarlaw12_LayerOrder.l1] at h, fun _ _ _ _ _ _ _ _ _ r h => by simp [medlarlaw12_LayerOrder.j3] at h, fun _ _ _ _ _ _ _ _ _ _ _ _ r h => by simp [medlarlaw12_LayerOrder.l2] at h⟩
  | k + 1 => by
    obtain ⟨ih0, ih1, ih2, ih3, ih4⟩ := medlarlaw12_LayerOrder.mono_l k
    refine ⟨?_, ?_, ?_, ?_, ?_⟩
    · intro y0 y1 y2 y3 y4 y5
      unfold medlarlaw12_LayerOrder.l0
      repeat' first
      | (with_reducible exact ih0 _ _ _ _ _ _)
      | (with_reducible exact ih1 _ _ _ _)
      | (with_reducible exact ih2 _ _ _ _ _ _)
      | (with_reducible exact ih3 _ _ _ _ _ _ _ _ _)
      | (with_reducible exact ih4 _ _ _ _ _ _ _ _ _ _ _ _)
      | (with_reducible exact layer_Order.mono _ _)
      | (with_reducible exact medlarlaw12_live.mono _)
      | (with_reducible exact medlarref08_Same.mono _ _ _)
      | (with_reducible exact sub_Less.mono _ _ _ _ _)
      | (with_reducible exact LeO.refl _)
      | (with_reducible exact LeO.none _)
      | (with_reducible refine LeO.ite ?_ ?_)
      | (with_reducible refine LeO.bind ?_ (fun _ => ?_))
      | exact ih0 _ _ _ _ _ _
      | exact ih1 _ _ _ _
      | exact ih2 _ _ _ _ _ _
      | exact ih3 _ _ _ _ _ _ _ _ _
      | exact ih4 _ _ _ _ _ _ _ _ _ _ _ _
      | exact layer_Order.mono _ _
      | exact medlarlaw12_live.mono _
      | exact medlarref08_Same.mono _ _ _
      | exact sub_Less.mono _ _ _ _ _
      | exact LeO.none _
      | refine LeO.ite ?_ ?_
      | refine LeO.bind ?_ (fun _ => ?_)
    · intro y0 y1 y2 y3
      unfold medlarlaw12_LayerOrder.j1
      repeat' first
      | (with_reducible exact ih0 _ _ _ _ _ _)
      | (with_reducible exact ih1 _ _ _ _)
      | (with_reducible exact ih2 _ _ _ _ _ _)
      | (with_reducible exact ih3 _ _ _ _ _ _ _ _ _)
      | (with_reducible exact ih4 _ _ _ _ _ _ _ _ _ _ _ _)
      | (with_reducible exact layer_Order.mono _ _)
      | (with_reducible exact medlarlaw12_live.mono _)
      | (with_reducible exact medlarref08_Same.mono _ _ _)
      | (with_reducible exact sub_Less.mono _ _ _ _ _)
      | (with_reducible exact LeO.refl _)
      | (with_reducible exact LeO.none _)
      | (with_reducible refine LeO.ite ?_ ?_)
      | (with_reducible refine LeO.bind ?_ (fun _ => ?_))
      | exact ih0 _ _ _ _ _ _
      | exact ih1 _ _ _ _
      | exact ih2 _ _ _ _ _ _
      | exact ih3 _ _ _ _ _ _ _ _ _
      | exact ih4 _ _ _ _ _ _ _ _ _ _ _ _
      | exact layer_Order.mono _ _
      | exact medlarlaw12_live.mono _
      | exact medlarref08_Same.mono _ _ _
      | exact sub_Less.mono _ _ _ _ _
      | exact LeO.none _
      | refine LeO.ite ?_ ?_
      | refine LeO.bind ?_ (fun _ => ?_)
    · intro y0 y1 y2 y3 y4 y5
      unfold medlarlaw12_LayerOrder.l1
      repeat' first
      | (with_reducible exact ih0 _ _ _ _ _ _)
      | (with_reducible exact ih1 _ _ _ _)
      | (with_reducible exact ih2 _ _ _ _ _ _)
      | (with_reducible exact ih3 _ _ _ _ _ _ _ _ _)
      | (with_reducible exact ih4 _ _ _ _ _ _ _ _ _ _ _ _)
      | (with_reducible exact layer_Order.mono _ _)
      | (with_reducible exact medlarlaw12_live.mono _)
      | (with_reducible exact medlarref08_Same.mono _ _ _)
      | (with_reducible exact sub_Less.mono _ _ _ _ _)
      | (with_reducible exact LeO.refl _)
      | (with_reducible exact LeO.none _)
      | (with_reducible refine LeO.ite ?_ ?_)
      | (with_reducible refine LeO.bind ?_ (fun _ => ?_))
      | exact ih0 _ _ _ _ _ _
      | exact ih1 _ _ _ _
      | exact ih2 _ _ _ _ _ _
      | exact ih3 _ _ _ _ _ _ _ _ _
      | exact ih4 _ _ _ _ _ _ _ _ _ _ _ _
      | exact layer_Order.mono _ _
      | exact medlarlaw12_live.mono _
      | exact medlarref08_Same.mono _ _ _
      | exact sub_Less.mono _ _ _ _ _
      | exact LeO.none _
      | refine LeO.ite ?_ ?_
      | refine LeO.bind ?_ (fun _ => ?_)
    · intro y0 y1 y2 y3 y4 y5 y6 y7 y8
      unfold medlarlaw12_LayerOrder.j3
      repeat' first
      | (with_reducible exact ih0 _ _ _ _ _ _)
      | (with_reducible exact ih1 _ _ _ _)
      | (with_reducible exact ih2 _ _ _ _ _ _)
      | (with_reducible exact ih3 _ _ _ _ _ _ _ _ _)
      | (with_reducible exact ih4 _ _ _ _ _ _ _ _ _ _ _ _)
      | (with_reducible exact layer_Order.mono _ _)
      | (with_reducible exact medlarlaw12_live.mono _)
      | (with_reducible exact medlarref08_Same.mono _ _ _)
      | (with_reducible exact sub_Less.mono _ _ _ _ _)
      | (with_reducible exact LeO.refl _)
      | (with_reducible exact LeO.none _)
      | (with_reducible refine LeO.ite ?_ ?_)
      | (with_reducible refine LeO.bind ?_ (fun _ => ?_))
      | exact ih0 _ _ _ _ _ _
      | exact ih1 _ _ _ _
      | exact ih2 _ _ _ _ _ _
      | exact ih3 _ _ _ _ _ _ _ _ _
      | exact ih4 _ _ _ _ _ _ _ _ _ _ _ _
      | exact layer_Order.mono _ _
      | exact medlarlaw12_live.mono _
      | exact medlarref08_Same.mono _ _ _
      | exact sub_Less.mono _ _ _ _ _
      | exact LeO.none _
      | refine LeO.ite ?_ ?_
      | refine LeO.bind ?_ (fun _ => ?_)
    · intro y0 y1 y2 y3 y4 y5 y6 y7 y8 y9 y10 y11
      unfold medlarlaw12_LayerOrder.l2
      repeat' first
      | (with_reducible exact ih0 _ _ _ _ _ _)
      | (with_reducible exact ih1 _ _ _ _)
      | (with_reducible exact ih2 _ _ _ _ _ _)
      | (with_reducible exact ih3 _ _ _ _ _ _ _ _ _)
      | (with_reducible exact ih4 _ _ _ _ _ _ _ _ _ _ _ _)
      | (with_reducible exact layer_Order.mono _ _)
      | (with_reducible exact medlarlaw12_live.mono _)
      | (with_reducible exact medlarref08_Same.mono _ _ _)
      | (with_reducible exact sub_Less.mono _ _ _ _ _)
      | (with_reducible exact LeO.refl _)
      | (with_reducible exact LeO.none _)
      | (with_reducible refine LeO.ite ?_ ?_)
      | (with_reducible refine LeO.bind ?_ (fun _ => ?_))
      | exact ih0 _ _ _ _ _ _
      | exact ih1 _ _ _ _
      | exact ih2 _ _ _ _ _ _
      | exact ih3 _ _ _ _ _ _ _ _ _
      | exact ih4 _ _ _ _ _ _ _ _ _ _ _ _
      | exact layer_Order.mono _ _
      | exact medlarlaw12_live.mono _
      | exact medlarref08_Same.mono _ _ _
      | exact sub_Less.mono _ _ _ _ _
      | exact LeO.none _
      | refine LeO.ite ?_ ?_
      | refine LeO.bind ?_ (fun _ => ?_)
theorem medlarlaw12_LayerOrder.mono : ∀ a0 k, LeO (medlarlaw12_LayerOrder.f k a0) (medlarlaw12_LayerOrder.f (k + 1) a0) := by
  intro a0 k
  obtain ⟨ih0, ih1, ih2, ih3, ih4⟩ := medlarlaw12_LayerOrder.mono_l k
  unfold medlarlaw12_LayerOrder.f
  repeat' first
      | (with_reducible exact ih0 _ _ _ _ _ _)
      | (with_reducible exact ih1 _ _ _ _)
      | (with_reducible exact ih2 _ _ _ _ _ _)
      | (with_reducible exact ih3 _ _ _ _ _ _ _ _ _)
      | (with_reducible exact ih4 _ _ _ _ _ _ _ _ _ _ _ _)
      | (with_reducible exact layer_Order.mono _ _)
      | (with_reducible exact medlarlaw12_live.mono _)
      | (with_reducible exact medlarref08_Same.mono _ _ _)
      | (with_reducible exact sub_Less.mono _ _ _ _ _)
      | (with_reducible exact LeO.refl _)
      | (with_reducible exact LeO.none _)
      | (with_reducible refine LeO.ite ?_ ?_)
      | (with_reducible refine LeO.bind ?_ (fun _ => ?_))
      | exact ih0 _ _ _ _ _ _
      | exact ih1 _ _ _ _
      | exact ih2 _ _ _ _ _ _
      | exact ih3 _ _ _ _ _ _ _ _ _
      | exact ih4 _ _ _ _ _ _ _ _ _ _ _ _
      | exact layer_Order.mono _ _
      | exact medlarlaw12_live.mono _
      | exact medlarref08_Same.mono _ _ _
      | exact sub_Less.mono _ _ _ _ _
      | exact LeO.none _
      | refine LeO.ite ?_ ?_
      | refine LeO.bind ?_ (fun _ => ?_)
def medlarlaw12_LayerOrder.T17 : Bool × List (List Nat × List Nat) := (true, [([], []), ([0], [0]), ([1], [1]), ([2], [2]), ([2], [2]), ([2], [2]), ([5, 2], [2, 5]), ([4, 6, 2], [2, 4, 6]), ([7, 2], [2, 7]), ([3, 8, 2, 2], [2, 3, 8]), ([2, 9], [2, 9])])
def medlarlaw12_LayerOrder.B17 : List Nat := [0, 1, 3, 7, 7, 7, 39, 119, 247, 511, 1023]
theorem medlarlaw12_LayerOrder.tab17 : rtab .any (opsOf Try.f8 17) = medlarlaw12_LayerOrder.T17 := by kernel_rfl
theorem medlarlaw12_LayerOrder.bits17 : waitsOk medlarlaw12_LayerOrder.T17.2 medlarlaw12_LayerOrder.B17 = true := by kernel_rfl
set_option maxHeartbeats 8000000 in
set_option maxRecDepth 100000 in
theorem medlarlaw12_LayerOrder.calls (k : Nat) (A0 : Option Addr) (c0 : Nat) (l0 : List (S34)) (r : Bool) (w : World) (hr0 : Kd.C k34 w A0 l0.length l0) (hc0 : l0.length ≤ c0) (h : medlarlaw12_LayerOrder.f k l0 = some r) (hT : Aside0 (r = true)) :
    Calls Try.prog 8 #[.slice A0 l0.length c0] w fun e w' => e = .returned (.bool r) ∧ Below w.heap.size w w' := by
  have hu34 := Try.underlying34
  have HR0 := Aside0.mk hr0
  have HC0 := Aside0.mk hc0
  clear hr0 hc0
  have HB := Aside0.mk (Below.refl w.heap.size w)
  have H : ((medlarlaw12_live.f k).bind fun t653 => (if (l0.length : Int) > 100 then (some t653) else ((layer_Order.f k l0).bind fun t654 => (medlarlaw12_LayerOrder.l0 k l0 t653 t654 ([] : List (S34)) (l0.length : Int) 0)))) = some r := h
  clear h
  replace H := Option.bind_eq_some_iff.mp H
  obtain ⟨t653, A20, H⟩ := H
  replace H : (if (l0.length : Int) > 100 then (some t653) else ((layer_Order.f k l0).bind fun t654 => (medlarlaw12_LayerOrder.l0 k l0 t653 t654 ([] : List (S34)) (l0.length : Int) 0))) = some r := H
  have A2 := Aside0.mk A20
  clear A20
  by_cases c3 : (l0.length : Int) > 100
  · rw [if_pos c3] at H
    have c3b0 : decide (100 < (l0.length : Int)) = true := decide_eq_true c3
    have c3b1 : decide (100 < l0.length) = true := decide_eq_true (by omega)
    clear c3
    obtain rfl := Option.some.inj H
    go_enter Try.func8, Try.ntmps8
    go_wp2_with (first | ((with_reducible refine gate_callee (f := 30) rfl ?_); refine goesL_ (some 13) rfl rfl Try.func30 (by kernel_rfl) rfl #[] rfl (by (try simp only [List.map_toArray, List.map_cons, List.map_nil]); first | done | rfl | (simp only [List.length_drop, List.length_take]; rfl)) ?_; (with_reducible refine (medlarlaw12_live.calls k  t653 _ A2.out).mono ?_); rintro e w4 ⟨rfl, hb⟩; refine ⟨_, rfl, ?_⟩; have n0_ := Aside0.mk (below_step (by repeat (first | (with_reducible first | exact HB.out | apply below_alloc | apply pw_below_drewN | apply below_drew1) | exact HB.out)) hb); clear HB; have HB := n0_; clear n0_; (try clear hb); (try clear hb2); (try clear hk); (try clear hi)))
    go_ret
    exact ⟨by first | rfl | (simp [errW_none, errW_some] <;> rfl) | (simp [*, errW_none, errW_some] <;> rfl), by repeat (first | (with_reducible first | exact HB.out | apply below_alloc | apply pw_below_drewN | apply below_drew1) | exact HB.out)⟩
  · rw [if_neg c3] at H
    have c3b0 : decide (100 < (l0.length : Int)) = false := decide_eq_false c3
    have c3b1 : decide (100 < l0.length) = false := decide_eq_false (by omega)
    clear c3
    replace H := Option.bind_eq_some_iff.mp H
    obtain ⟨t654, A50, H⟩ := H
    replace H : (medlarlaw12_LayerOrder.l0 k l0 t653 t654 ([] : List (S34)) (l0.length : Int) 0) = some r := H
    have A5 := Aside0.mk A50
    clear A50
    have H' := Aside0.mk H
    clear H
    go_enter Try.func8, Try.ntmps8
    go_wp2_with (first | ((with_reducible refine gate_callee (f := 30) rfl ?_); refine goesL_ (some 13) rfl rfl Try.func30 (by kernel_rfl) rfl #[] rfl (by (try simp only [List.map_toArray, List.map_cons, List.map_nil]); first | done | rfl | (simp only [List.length_drop, List.length_take]; rfl)) ?_; (with_reducible refine (medlarlaw12_live.calls k  t653 _ A2.out).mono ?_); rintro e w6 ⟨rfl, hb⟩; refine ⟨_, rfl, ?_⟩; have n0_ := Aside0.mk (below_step (by repeat (first | (with_reducible first | exact HB.out | apply below_alloc | apply pw_below_drewN | apply below_drew1) | exact HB.out)) hb); clear HB; have HB := n0_; clear n0_; (try clear hb); (try clear hb2); (try clear hk); (try clear hi)) | ((with_reducible refine gate_callee (f := 31) rfl ?_); refine goesL_ (some 19) rfl rfl Try.func31 (by kernel_rfl) rfl #[.slice A0 l0.length c0] rfl (by (try simp only [List.map_toArray, List.map_cons, List.map_nil]); first | done | rfl | (simp only [List.length_drop, List.length_take]; rfl)) ?_; (with_reducible refine (layer_Order.calls k _ _ l0 t654 _ ?side1 ?side2 A5.out).mono ?_); (case side1 => repeat (first | exact (Kd.C_below HR0.out HB.out) | (with_reducible refine Kd.C_alloc ?_ _) | (with_reducible refine Kd.C_drewN ?_ _) | (with_reducible refine Kd.C_drew ?_))); (case side2 => exact HC0.out); rintro e w7 ⟨v655, rfl, ho0, hb⟩; refine ⟨_, rfl, ?_⟩; have n0_ := Aside0.mk (Kd.R_lower ho0 (below_size (by repeat (first | (with_reducible first | exact HB.out | apply below_alloc | apply pw_below_drewN | apply below_drew1) | exact HB.out)))); have n1_ := Aside0.mk (below_step (by repeat (first | (with_reducible first | exact HB.out | apply below_alloc | apply pw_below_drewN | apply below_drew1) | exact HB.out)) hb); clear HB; have HO656 := n0_; have HB := n1_; clear n0_ n1_; (try clear hb); (try clear hb2); (try clear hk); (try clear hi); (try clear ho0)))
    go_loopg [5, 22] k (fun kq v5 v22 w' => ∃ (x5_1 : List (S34)) (x22_1 : Int), v22 = .int .i64 x22_1 ∧ Aside0 (medlarlaw12_LayerOrder.l0 kq l0 t653 t654 x5_1 (l0.length : Int) x22_1 = some r) ∧ Aside0 (kq ≤ k) ∧ Aside0 (Kd.R k34 34 w' w.heap.size (fun k_ => some k_ ≠ (v5 : Value).ownBlock) v655 t654) ∧ Aside0 (Kd.R k34 34 w' w.heap.size (fun k_ => some k_ ≠ (v655 : Value).ownBlock) v5 x5_1) ∧ Aside0 (Below w.heap.size w w'))
    case atStart => exact ⟨(([] : List (S34))), (0), (by first | rfl | (simp; done) | (simp [*]; done)), H', ⟨Nat.le_refl _⟩, ⟨by (with_reducible repeat (first | apply Kd.R_alloc | apply Kd.R_drewN | apply Kd.R_drew)); exact Kd.R_mono HO656.out (fun _ hk => (by simp [Value.ownBlock]))⟩, ⟨by first | exact Kd.R_nil _ _ _ _ _ | exact Kd.N_nil _ _ _ _ _ | exact Kd.V_nil _ _ _ _ _ | exact Kd.Q_nil _ _ _ _ _ | exact Kd.S_nil _ _ _ _ _⟩, ⟨by repeat (first | (with_reducible first | exact HB.out | apply below_alloc | apply pw_below_drewN | apply below_drew1) | exact HB.out)⟩⟩
    case round =>
      clear H'
      try clear p2
      try clear c3
      try clear c3b0
      try clear c3b1
      obtain ⟨x5_1, x22_1, rfl, HA, HK1, HO_4, HO_5, HB⟩ := hrel
      cases gk with
      | zero => exact absurd HA.out (by simp [medlarlaw12_LayerOrder.l0])
      | succ k1 =>
        have H := HA.out
        clear HA
        simp only [medlarlaw12_LayerOrder.l0] at H
        by_cases c8 : x22_1 < (l0.length : Int)
        · rw [if_pos c8] at H
          have c8b0 : decide (x22_1 < (l0.length : Int)) = true := decide_eq_true c8
          clear c8
          obtain ⟨ji9, hji9⟩ : ∃ j_ : Int, (wrap64 ((wrap64 ((l0.length : Int) - 1)) - x22_1)) = j_ := ⟨_, rfl⟩
          replace H : (if 0 ≤ (ji9) then (if (ji9) < (l0.length : Int) then (if x5_1.length < 8796093022208 then (medlarlaw12_LayerOrder.l0 k1 l0 t653 t654 (x5_1 ++ [(⟨(rd_T34 l0 (ji9)).f0, (rd_T34 l0 (ji9)).f1⟩ : S34)]) (l0.length : Int) (wrap64 (x22_1 + 1))) else (none)) else (none)) else (none)) = some r := by first | (rw [hji9] at H; exact H) | (simp only [hji9] at H ⊢; exact H)
          have hji9w : (IntKind.i64.wrap ((wrap64 ((l0.length : Int) - 1)) - x22_1)) = ji9 := (i64_w _).trans hji9
          by_cases c10 : 0 ≤ (ji9)
          · rw [if_pos c10] at H
            have c10b0 : decide (0 ≤ (ji9)) = true := decide_eq_true c10
            clear c10
            by_cases c11 : (ji9) < (l0.length : Int)
            · rw [if_pos c11] at H
              have c11b0 : decide ((ji9) < (l0.length : Int)) = true := decide_eq_true c11
              clear c11
              by_cases c12 : x5_1.length < 8796093022208
              · rw [if_pos c12] at H
                have LMc12 := Aside0.mk c12
                clear c12
                obtain ⟨y658, hy658⟩ : ∃ y_ : List (S34), y_ = (x5_1 ++ [(⟨(rd_T34 l0 (ji9)).f0, (rd_T34 l0 (ji9)).f1⟩ : S34)]) := ⟨_, rfl⟩
                replace H : (medlarlaw12_LayerOrder.l0 k1 l0 t653 t654 y658 (l0.length : Int) (wrap64 (x22_1 + 1))) = some r := by first | (rw [hy658]; with_reducible exact H) | (have H2_ := (Option.bind_some _ _).symm.trans H; rw [hy658]; with_reducible exact H2_) | (have H2_ := (Option.bind_some _ _).symm.trans H; with_reducible exact H2_) | with_reducible exact H | (rw [hy658]; exact H) | exact H
                have Ny658 := Aside0.mk hy658
                clear hy658
                have H' := Aside0.mk H
                clear H
                have p657 : 0 ≤ ((ji9) : Int) := of_decide_eq_true (by first | (with_reducible assumption) | assumption)
                have q657 : (ji9) < (l0.length : Int) := of_decide_eq_true (by first | (with_reducible assumption) | assumption)
                obtain ⟨ad657, e657, hx657_0, hx657_1⟩ := at_T34 HR0.out (ji9) p657 q657
                cases e657
                replace hx657_0 := (HB.out.cell (World.block_lt_of_cell? w _ hx657_0)).trans hx657_0
                replace hx657_1 := (HB.out.cell (World.block_lt_of_cell? w _ hx657_1)).trans hx657_1
                replace p657 := eq_true p657
                replace q657 := eq_true q657
                go_wp2_with (first | ((with_reducible refine gate_builtin (b := .append) (xs := #[.tmp 25, .tmp 34]) rfl ?_); at_builtin; refine Kd.R_append k34 (w0 := w) w.heap.size rfl (.tmp 25) (.tmp 34) 24 34 (.agg #[(.int .u64 0), (.int .u64 0)]) 16 rfl Try.underlying24 info34 rfl (by decide) (by omega) u5 x5_1 (⟨(rd_T34 l0 (ji9)).f0, (rd_T34 l0 (ji9)).f1⟩ : S34) [.int .u64 ((rd_T34 l0 (ji9)).f0), .int .u64 ((rd_T34 l0 (ji9)).f1)] (fun k_ => some k_ ≠ (v655 : Value).ownBlock) (fun _ => False) rfl rfl ?aP (fun _ hk => hk.elim) ?aF ?aO ?aB ?aS ?aL ?_; (case aP => exact k34_mkM _ _ _ (⟨(rd_T34 l0 (ji9)).f0, (rd_T34 l0 (ji9)).f1⟩ : S34)); (case aB => exact (by repeat (first | (with_reducible first | exact HB.out | apply below_alloc | apply pw_below_drewN | apply below_drew1) | exact HB.out))); (case aF => exact (fun k_ hk => Kd.fresh' (Kd.R_lt (by (with_reducible repeat (first | apply Kd.R_alloc | apply Kd.R_drewN | apply Kd.R_drew)); exact HO_4.out)) k_ hk)); (case aO => exact (by (with_reducible repeat (first | apply Kd.R_alloc | apply Kd.R_drewN | apply Kd.R_drew)); exact HO_5.out)); (case aS => exact (below_size (by repeat (first | (with_reducible first | exact HB.out | apply below_alloc | apply pw_below_drewN | apply below_drew1) | exact HB.out)))); (case aL => have := LMc12.out; omega); intro v659 w13 ho hb hg hat; rw [← Ny658.out] at ho; have n0_ := Aside0.mk (Kd.R_after (ok := (fun _ => True)) (by (with_reducible repeat (first | apply Kd.R_alloc | apply Kd.R_drewN | apply Kd.R_drew)); exact Kd.R_mono HO_4.out (fun _ hk => ⟨trivial, hk⟩)) hg hat); have n1_ := Aside0.mk (hb); have n2_ := Aside0.mk (ho); clear HO_4; clear HB; clear HO_5; have HO_4 := n0_; have HB := n1_; have HO660 := n2_; clear n0_ n1_ n2_; clear ho hb hg hat))
                go_roundg k1
                case measure => have := HK1.out; omega
                case rel => exact ⟨(y658), (wrap64 (x22_1 + 1)), (by first | rfl | (simp; done) | (simp [*]; done)), H', ⟨by have := HK1.out; omega⟩, ⟨by (with_reducible repeat (first | apply Kd.R_alloc | apply Kd.R_drewN | apply Kd.R_drew)); exact Kd.R_mono HO_4.out (fun _ hk => hk.2)⟩, ⟨by (with_reducible repeat (first | apply Kd.R_alloc | apply Kd.R_drewN | apply Kd.R_drew)); exact HO660.out⟩, ⟨by repeat (first | (with_reducible first | exact HB.out | apply below_alloc | apply pw_below_drewN | apply below_drew1) | exact HB.out)⟩⟩
              · rw [if_neg c12] at H
                exact absurd H (by simp)
            · rw [if_neg c11] at H
              exact absurd H (by simp)
          · rw [if_neg c10] at H
            exact absurd H (by simp)
        · rw [if_neg c8] at H
          have c8b0 : decide (x22_1 < (l0.length : Int)) = false := decide_eq_false c8
          clear c8
          replace H := Option.bind_eq_some_iff.mp H
          obtain ⟨t661, A140, H⟩ := H
          replace H : (if (t654.length : Int) = (l0.length : Int) then ((medlarref08_Same.f k1 t654 t661).bind fun t664 => (medlarlaw12_LayerOrder.j1 k1 l0 t653 t654 (!t664))) else (medlarlaw12_LayerOrder.j1 k1 l0 t653 t654 true)) = some r := H
          have A14 := Aside0.mk A140
          clear A140
          have HC15 := Aside0.mk H
          clear H
          obtain ⟨Ao16, co16, eo16⟩ := Kd.R_slice HO_5.out
          subst eo16
          go_upto_region 12 with (first | ((with_reducible refine gate_callee (f := 31) rfl ?_); refine goesL_ (some 38) rfl rfl Try.func31 (by kernel_rfl) rfl #[.slice Ao16 x5_1.length co16] rfl (by (try simp only [List.map_toArray, List.map_cons, List.map_nil]); first | done | rfl | (simp only [List.length_drop, List.length_take]; rfl)) ?_; (with_reducible refine (layer_Order.calls k1 _ _ x5_1 t661 _ ?side1 ?side2 A14.out).mono ?_); (case side1 => repeat (first | exact (Kd.R_reads' HO_5.out).2.2 | (with_reducible refine Kd.C_alloc ?_ _) | (with_reducible refine Kd.C_drewN ?_ _) | (with_reducible refine Kd.C_drew ?_))); (case side2 => exact (Kd.R_reads' HO_5.out).2.1); rintro e w17 ⟨v662, rfl, ho0, hb⟩; refine ⟨_, rfl, ?_⟩; have n0_ := Aside0.mk (Kd.R_elder' (by (with_reducible repeat (first | apply Kd.R_alloc | apply Kd.R_drewN | apply Kd.R_drew)); exact HO_4.out) (Kd.R_base ho0) hb); have n1_ := Aside0.mk (Kd.R_elder' (by (with_reducible repeat (first | apply Kd.R_alloc | apply Kd.R_drewN | apply Kd.R_drew)); exact HO_5.out) (Kd.R_base ho0) hb); have n2_ := Aside0.mk (Kd.R_lower (Kd.R_new' (Kd.R_new' ho0 (Kd.R_lt (by (with_reducible repeat (first | apply Kd.R_alloc | apply Kd.R_drewN | apply Kd.R_drew)); exact HO_4.out))) (Kd.R_lt (by (with_reducible repeat (first | apply Kd.R_alloc | apply Kd.R_drewN | apply Kd.R_drew)); exact HO_5.out))) (below_size (by repeat (first | (with_reducible first | exact HB.out | apply below_alloc | apply pw_below_drewN | apply below_drew1) | exact HB.out)))); have n3_ := Aside0.mk (below_step (by repeat (first | (with_reducible first | exact HB.out | apply below_alloc | apply pw_below_drewN | apply below_drew1) | exact HB.out)) hb); clear HO_4; clear HO_5; clear HB; have HO_4 := n0_; have HO_5 := n1_; have HO663 := n2_; have HB := n3_; clear n0_ n1_ n2_ n3_; (try clear hb); (try clear hb2); (try clear hk); (try clear hi); (try clear ho0)))
          (try simp only [Act.put, List.setIfInBounds_toArray, List.set_cons_zero, List.set_cons_succ])
          go_cut [49] (fun v49 wc => ∃ (kq : Nat) (x49_14 : Bool), v49 = .bool x49_14 ∧ Aside0 (medlarlaw12_LayerOrder.j1 kq l0 t653 t654 x49_14 = some r) ∧ Aside0 (kq ≤ k1) ∧ Aside0 (Kd.R k34 34 wc w.heap.size (fun _ => True) v655 t654) ∧ Aside0 (Below w.heap.size w wc))
          case first =>
            have H := HC15.out
            clear HC15
            by_cases c18 : (t654.length : Int) = (l0.length : Int)
            · rw [if_pos c18] at H
              have c18b0 : ((t654.length : Int) == (l0.length : Int)) = true := beq_iff_eq.mpr c18
              have c18b1 : ((t654.length : Int) != (l0.length : Int)) = false := bne_eq_false_iff_eq.mpr c18
              have c18b2 : (t654.length == l0.length) = true := by first | simpa using c18 | (simp at c18 ⊢; omega)
              clear c18
              (first | rw [c18b0] | (simp only [i64_w, i32_w]; rw [c18b0]) | skip)
              replace H := Option.bind_eq_some_iff.mp H
              obtain ⟨t664, A190, H⟩ := H
              replace H : (medlarlaw12_LayerOrder.j1 k1 l0 t653 t654 (!t664)) = some r := H
              have A19 := Aside0.mk A190
              clear A190
              have H' := Aside0.mk H
              clear H
              obtain ⟨Ao20, co20, eo20⟩ := Kd.R_slice HO_4.out
              subst eo20
              obtain ⟨Ao21, co21, eo21⟩ := Kd.R_slice HO663.out
              subst eo21
              go_wp2_with (first | (go_at_call 19; (with_reducible refine (medlarref08_Same.calls k1 _ _ t654 _ _ t661 t664 _ ?side1 ?side2 ?side3 ?side4 A19.out).mono ?_); (case side1 => repeat (first | exact (Kd.R_reads' HO_4.out).2.2 | (with_reducible refine Kd.C_alloc ?_ _) | (with_reducible refine Kd.C_drewN ?_ _) | (with_reducible refine Kd.C_drew ?_))); (case side2 => exact (Kd.R_reads' HO_4.out).2.1); (case side3 => repeat (first | exact (Kd.R_reads' HO663.out).2.2 | (with_reducible refine Kd.C_alloc ?_ _) | (with_reducible refine Kd.C_drewN ?_ _) | (with_reducible refine Kd.C_drew ?_))); (case side4 => exact (Kd.R_reads' HO663.out).2.1); rintro e w' ⟨rfl, ⟨nd, rfl⟩⟩))
              go_meet
              case rel => exact ⟨_, (!t664), (by first | rfl | (simp; done) | (simp [*]; done)), H', ⟨by have := HK1.out; first | omega | exact Nat.le_refl _⟩, ⟨by (with_reducible repeat (first | apply Kd.R_alloc | apply Kd.R_drewN | apply Kd.R_drew)); exact Kd.R_mono HO_4.out (fun _ hk => trivial)⟩, ⟨by repeat (first | (with_reducible first | exact HB.out | apply below_alloc | apply pw_below_drewN | apply below_drew1) | exact HB.out)⟩⟩
            · rw [if_neg c18] at H
              have c18b0 : ((t654.length : Int) == (l0.length : Int)) = false := beq_eq_false_iff_ne.mpr c18
              have c18b1 : ((t654.length : Int) != (l0.length : Int)) = true := bne_iff_ne.mpr c18
              have c18b2 : (t654.length == l0.length) = false := by first | simpa using c18 | (simp at c18 ⊢; omega)
              (first | rw [c18b0] | (simp only [i64_w, i32_w]; rw [c18b0]) | skip)
              have H' := Aside0.mk H
              clear H
              obtain ⟨Ao22, co22, eo22⟩ := Kd.R_slice HO_4.out
              subst eo22
              go_wp2
              go_meet
              case rel => exact ⟨_, (true), (by first | rfl | (simp; done) | (simp [*]; done)), H', ⟨by have := HK1.out; first | omega | exact Nat.le_refl _⟩, ⟨by (with_reducible repeat (first | apply Kd.R_alloc | apply Kd.R_drewN | apply Kd.R_drew)); exact Kd.R_mono HO_4.out (fun _ hk => trivial)⟩, ⟨by repeat (first | (with_reducible first | exact HB.out | apply below_alloc | apply pw_below_drewN | apply below_drew1) | exact HB.out)⟩⟩
          case rest =>
            clear HC15
            try clear c1
            try clear p2
            try clear c3
            try clear c3b0
            try clear c3b1
            try clear p6
            try clear q6
            try clear hx6
            try clear c8
            try clear c8b0
            try clear c10
            try clear c10b0
            try clear c11
            try clear c11b0
            try clear c12
            try clear c18
            try clear c18b0
            try clear c18b1
            try clear c18b2
            try clear hx657_0
            try clear hx657_1
            try clear p2
            try clear p657
            try clear q657
            obtain ⟨kq, x49_14, rfl, HA, HJ14, HO_4, HB⟩ := hcut
            cases kq with
            | zero => exact absurd HA.out (by simp [medlarlaw12_LayerOrder.j1])
            | succ kj14 =>
              have H := HA.out
              clear HA
              simp only [medlarlaw12_LayerOrder.j1] at H
              by_cases c23 : x49_14 = true
              · subst c23
                have H1 : (some false) = some r := by rw [if_pos rfl] at H; exact H
                clear H
                have H := H1
                clear H1
                exact absurd ((Option.some.inj H).trans hT.out) Bool.false_ne_true
              · replace c23 := Bool.eq_false_iff.mpr c23
                subst c23
                have H1 : (medlarlaw12_LayerOrder.l1 kj14 l0 t653 t654 t654 (t654.length : Int) 0) = some r := by rw [if_neg (show ¬ (false = true) by decide)] at H; exact H
                clear H
                have H := H1
                clear H1
                have H' := Aside0.mk H
                clear H
                obtain ⟨Ao24, co24, eo24⟩ := Kd.R_slice HO_4.out
                subst eo24
                go_wp2
                go_loopg [52] kj14 (fun kq v52 w' => ∃ (x52_3 : Int), v52 = .int .i64 x52_3 ∧ Aside0 (medlarlaw12_LayerOrder.l1 kq l0 t653 t654 t654 (t654.length : Int) x52_3 = some r) ∧ Aside0 (kq ≤ kj14) ∧ Aside0 (Kd.R k34 34 w' w.heap.size (fun _ => True) (.slice Ao24 t654.length co24) t654) ∧ Aside0 (Kd.R k34 34 w' w.heap.size (fun _ => True) (.slice Ao24 t654.length co24) t654) ∧ Aside0 (Below w.heap.size w w'))
                case atStart => exact ⟨(0), (by first | rfl | (simp; done) | (simp [*]; done)), H', ⟨Nat.le_refl _⟩, ⟨by (with_reducible repeat (first | apply Kd.R_alloc | apply Kd.R_drewN | apply Kd.R_drew)); exact HO_4.out⟩, ⟨by (with_reducible repeat (first | apply Kd.R_alloc | apply Kd.R_drewN | apply Kd.R_drew)); exact HO_4.out⟩, ⟨by repeat (first | (with_reducible first | exact HB.out | apply below_alloc | apply pw_below_drewN | apply below_drew1) | exact HB.out)⟩⟩
                case round =>
                  clear H'
                  try clear c1
                  try clear c2
                  try clear p2
                  try clear c3
                  try clear c3b0
                  try clear c3b1
                  try clear p6
                  try clear q6
                  try clear hx6
                  try clear c8
                  try clear c8b0
                  try clear c10
                  try clear c10b0
                  try clear c11
                  try clear c11b0
                  try clear c12
                  try clear c18
                  try clear c18b0
                  try clear c18b1
                  try clear c18b2
                  try clear c23
                  try clear hx657_0
                  try clear hx657_1
                  try clear p2
                  try clear p6
                  try clear p657
                  try clear q6
                  try clear q657
                  obtain ⟨x52_3, rfl, HA, HK3, HO_4, HO_50, HB⟩ := hrel
                  cases gk with
                  | zero => exact absurd HA.out (by simp [medlarlaw12_LayerOrder.l1])
                  | succ k3 =>
                    have H := HA.out
                    clear HA
                    simp only [medlarlaw12_LayerOrder.l1] at H
                    by_cases c25 : x52_3 < (t654.length : Int)
                    · rw [if_pos c25] at H
                      have c25b0 : decide (x52_3 < (t654.length : Int)) = true := decide_eq_true c25
                      clear c25
                      by_cases c26 : 0 ≤ x52_3
                      · rw [if_pos c26] at H
                        have c26b0 : decide (0 ≤ x52_3) = true := decide_eq_true c26
                        clear c26
                        by_cases c27 : x52_3 < (t654.length : Int)
                        · rw [if_pos c27] at H
                          have c27b0 : decide (x52_3 < (t654.length : Int)) = true := decide_eq_true c27
                          clear c27
                          have HC28 := Aside0.mk H
                          clear H
                          have p665 : 0 ≤ (x52_3 : Int) := of_decide_eq_true (by first | (with_reducible assumption) | assumption)
                          have q665 : x52_3 < (t654.length : Int) := of_decide_eq_true (by first | (with_reducible assumption) | assumption)
                          obtain ⟨ad665, e665, hx665_0, hx665_1⟩ := at_T34 (Kd.R_reads' HO_50.out).2.2 x52_3 p665 q665
                          cases e665
                          replace p665 := eq_true p665
                          replace q665 := eq_true q665
                          go_upto_region 17 with (first | ((with_reducible refine gate_dst (N := 9) rfl ?_); refine box_event ?hg (N := 9) ?hd (cs := #[.int .u64 0, .int .u64 0]) (t := 34) ?hr ?_; (case hd => rfl); (case hg => rfl); (case hr => first | (go_simp; done) | (go_simp; rfl)); intro gb666 hg w29 hbox hb; have n0_ := Aside0.mk (Kd.R_below (Kd.R_elderB (by (with_reducible repeat (first | apply Kd.R_alloc | apply Kd.R_drewN | apply Kd.R_drew)); exact HO_4.out) gb666 (Nat.le_of_eq hg.symm)) hb); have n1_ := Aside0.mk (Kd.R_below (Kd.R_elderB (by (with_reducible repeat (first | apply Kd.R_alloc | apply Kd.R_drewN | apply Kd.R_drew)); exact HO_50.out) gb666 (Nat.le_of_eq hg.symm)) hb); have n2_ := Aside0.mk (below_step (by repeat (first | (with_reducible first | exact HB.out | apply below_alloc | apply pw_below_drewN | apply below_drew1) | exact HB.out)) hb); have n3_ := Aside0.mk (hbox); have n4_ := Aside0.mk ((by rw [hg]; exact (below_size (by repeat (first | (with_reducible first | exact HB.out | apply below_alloc | apply pw_below_drewN | apply below_drew1) | exact HB.out))) : w.heap.size ≤ gb666)); have n5_ := Aside0.mk ((by rw [hg]; exact (below_size (by repeat (first | (with_reducible first | exact HB.out | apply below_alloc | apply pw_below_drewN | apply below_drew1) | exact HB.out))) : w.heap.size ≤ gb666)); clear HO_4; clear HO_50; clear HB; have HO_4 := n0_; have HO_50 := n1_; have HB := n2_; have BK666 := n3_; have GW666 := n4_; have GE666 := n5_; clear n0_ n1_ n2_ n3_ n4_ n5_; clear hb hbox hg; have hcz30_0 : w29.cell? ⟨gb666, 0, none⟩ = some (.int .u64 0) := (blk_cell BK666.out 0).trans rfl; have hcz30_1 : w29.cell? ⟨gb666, 1, none⟩ = some (.int .u64 0) := (blk_cell BK666.out 1).trans rfl; have hfz30_0 := blk_frozen BK666.out 0; have hfz30_1 := blk_frozen BK666.out 1))
                          (try simp only [Act.put, List.setIfInBounds_toArray, List.set_cons_zero, List.set_cons_succ])
                          go_cut [67] (fun v67 wc => ∃ (kq : Nat) (x67_27 : Bool), v67 = .bool x67_27 ∧ Aside0 (medlarlaw12_LayerOrder.j3 kq l0 t653 t654 t654 (t654.length : Int) x52_3 x67_27 ((rd_T34 t654 x52_3).f0) ((rd_T34 t654 x52_3).f1) = some r) ∧ Aside0 (kq ≤ k3) ∧ Aside0 (Kd.R k34 34 wc w.heap.size (fun k_ => k_ ≠ gb666) (.slice (some ad665) t654.length co24) t654) ∧ Aside0 (Kd.R k34 34 wc w.heap.size (fun k_ => k_ ≠ gb666) (.slice (some ad665) t654.length co24) t654) ∧ Aside0 (wc.heap[gb666]? = some (.cells #[.int .u64 ((rd_T34 t654 x52_3).f0), .int .u64 ((rd_T34 t654 x52_3).f1)] 34 (0, 0))) ∧ Aside0 (Below w.heap.size w wc))
                          case first =>
                            have H := HC28.out
                            clear HC28
                            by_cases c31 : x52_3 > 0
                            · rw [if_pos c31] at H
                              have c31b0 : decide (0 < x52_3) = true := decide_eq_true c31
                              clear c31
                              (first | rw [c31b0] | (simp only [i64_w, i32_w]; rw [c31b0]) | skip)
                              obtain ⟨ji32, hji32⟩ : ∃ j_ : Int, (wrap64 (x52_3 - 1)) = j_ := ⟨_, rfl⟩
                              replace H : (if 0 ≤ (ji32) then (if (ji32) < (t654.length : Int) then ((sub_Less.f k3 ((rd_T34 t654 x52_3).f0) ((rd_T34 t654 x52_3).f1) ((rd_T34 t654 (ji32)).f0) ((rd_T34 t654 (ji32)).f1)).bind fun t668 => (medlarlaw12_LayerOrder.j3 k3 l0 t653 t654 t654 (t654.length : Int) x52_3 t668 ((rd_T34 t654 x52_3).f0) ((rd_T34 t654 x52_3).f1))) else (none)) else (none)) = some r := by first | (rw [hji32] at H; exact H) | (simp only [hji32] at H ⊢; exact H)
                              have hji32w : (IntKind.i64.wrap (x52_3 - 1)) = ji32 := (i64_w _).trans hji32
                              by_cases c33 : 0 ≤ (ji32)
                              · rw [if_pos c33] at H
                                have c33b0 : decide (0 ≤ (ji32)) = true := decide_eq_true c33
                                clear c33
                                by_cases c34 : (ji32) < (t654.length : Int)
                                · rw [if_pos c34] at H
                                  have c34b0 : decide ((ji32) < (t654.length : Int)) = true := decide_eq_true c34
                                  clear c34
                                  replace H := Option.bind_eq_some_iff.mp H
                                  obtain ⟨t668, A350, H⟩ := H
                                  replace H : (medlarlaw12_LayerOrder.j3 k3 l0 t653 t654 t654 (t654.length : Int) x52_3 t668 ((rd_T34 t654 x52_3).f0) ((rd_T34 t654 x52_3).f1)) = some r := H
                                  have A35 := Aside0.mk A350
                                  clear A350
                                  have H' := Aside0.mk H
                                  clear H
                                  try go_wp2
                                  have n0_ : Aside0 (Kd.R k34 34 ((w29.setCell ⟨gb666, 0, none⟩ (.int .u64 ((rd_T34 t654 x52_3).f0))).setCell ⟨gb666, 1, none⟩ (.int .u64 ((rd_T34 t654 x52_3).f1))) w.heap.size (fun k_ => k_ ≠ gb666) (.slice (some ad665) t654.length co24) t654) := ⟨by (with_reducible repeat (first | apply Kd.R_alloc | apply Kd.R_drewN | apply Kd.R_drew)); exact Kd.R_mono (Kd.R_far (p := ⟨gb666, 1, none⟩) (Kd.R_far (p := ⟨gb666, 0, none⟩) (Kd.R_mono HO_4.out (fun k_ hk => (⟨hk, hk.2⟩ : _ ∧ k_ ≠ gb666))) (fun _ hk => hk.2) (.int .u64 ((rd_T34 t654 x52_3).f0))) (fun _ hk => hk.2) (.int .u64 ((rd_T34 t654 x52_3).f1))) (fun _ hk => hk.1.2)⟩
                                  have n1_ : Aside0 (Kd.R k34 34 ((w29.setCell ⟨gb666, 0, none⟩ (.int .u64 ((rd_T34 t654 x52_3).f0))).setCell ⟨gb666, 1, none⟩ (.int .u64 ((rd_T34 t654 x52_3).f1))) w.heap.size (fun k_ => k_ ≠ gb666) (.slice (some ad665) t654.length co24) t654) := ⟨by (with_reducible repeat (first | apply Kd.R_alloc | apply Kd.R_drewN | apply Kd.R_drew)); exact Kd.R_mono (Kd.R_far (p := ⟨gb666, 1, none⟩) (Kd.R_far (p := ⟨gb666, 0, none⟩) (Kd.R_mono HO_50.out (fun k_ hk => (⟨hk, hk.2⟩ : _ ∧ k_ ≠ gb666))) (fun _ hk => hk.2) (.int .u64 ((rd_T34 t654 x52_3).f0))) (fun _ hk => hk.2) (.int .u64 ((rd_T34 t654 x52_3).f1))) (fun _ hk => hk.1.2)⟩
                                  have n2_ : Aside0 (((w29.setCell ⟨gb666, 0, none⟩ (.int .u64 ((rd_T34 t654 x52_3).f0))).setCell ⟨gb666, 1, none⟩ (.int .u64 ((rd_T34 t654 x52_3).f1))).heap[gb666]? = some (.cells #[.int .u64 ((rd_T34 t654 x52_3).f0), .int .u64 ((rd_T34 t654 x52_3).f1)] 34 (0, 0))) := ⟨by (with_reducible repeat (first | refine blk_drewN ?_ _ | refine blk_drew ?_ | refine blk_alloc ?_ _)); refine blk_put (cs := #[.int .u64 ((rd_T34 t654 x52_3).f0), .int .u64 0]) ?_ 1 _ rfl; (with_reducible repeat (first | refine blk_drewN ?_ _ | refine blk_drew ?_ | refine blk_alloc ?_ _)); refine blk_put (cs := #[.int .u64 0, .int .u64 0]) ?_ 0 _ rfl; (with_reducible repeat (first | refine blk_drewN ?_ _ | refine blk_drew ?_ | refine blk_alloc ?_ _)); exact BK666.out⟩
                                  have n3_ : Aside0 (Below w.heap.size w ((w29.setCell ⟨gb666, 0, none⟩ (.int .u64 ((rd_T34 t654 x52_3).f0))).setCell ⟨gb666, 1, none⟩ (.int .u64 ((rd_T34 t654 x52_3).f1)))) := ⟨by repeat (first | (with_reducible first | exact HB.out | apply below_alloc | apply pw_below_drewN | apply below_drew1 | refine below_set ?_ GE666.out) | exact HB.out)⟩
                                  (try clear HO_4)
                                  (try clear HO_50)
                                  (try clear BK666)
                                  (try clear HB)
                                  generalize ((w29.setCell ⟨gb666, 0, none⟩ (.int .u64 ((rd_T34 t654 x52_3).f0))).setCell ⟨gb666, 1, none⟩ (.int .u64 ((rd_T34 t654 x52_3).f1))) = w36 at n0_ n1_ n2_ n3_ ⊢
                                  have HO_4 := n0_
                                  have HO_50 := n1_
                                  have BK666 := n2_
                                  have HB := n3_
                                  clear n0_ n1_ n2_ n3_
                                  have n0_ := Aside0.mk (Kd.R_drew HO_4.out)
                                  have n1_ := Aside0.mk (Kd.R_drew HO_50.out)
                                  have n2_ := Aside0.mk (blk_drew BK666.out)
                                  have n3_ := Aside0.mk (below_drew1 HB.out)
                                  clear HO_4
                                  clear HO_50
                                  clear BK666
                                  clear HB
                                  have HO_4 := n0_
                                  have HO_50 := n1_
                                  have BK666 := n2_
                                  have HB := n3_
                                  clear n0_ n1_ n2_ n3_
                                  have p667 : 0 ≤ ((ji32) : Int) := of_decide_eq_true (by first | (with_reducible assumption) | assumption)
                                  have q667 : (ji32) < (t654.length : Int) := of_decide_eq_true (by first | (with_reducible assumption) | assumption)
                                  obtain ⟨ad667, e667, hx667_0, hx667_1⟩ := at_T34 (Kd.R_reads' HO_4.out).2.2 (ji32) p667 q667
                                  obtain rfl : ad665 = ad667 := (by injection e667)
                                  replace p667 := eq_true p667
                                  replace q667 := eq_true q667
                                  refine start_ (n := 11) (S := fun w' => w'.cell? ⟨gb666, 0, none⟩ = some (.int .u64 ((rd_T34 t654 x52_3).f0)) ∧ w'.cell? ⟨gb666, 1, none⟩ = some (.int .u64 ((rd_T34 t654 x52_3).f1)) ∧ w'.cell? (ad665.add (((ji32)).toNat * 2)) = some (.int .u64 ((rd_T34 t654 (ji32)).f0)) ∧ w'.cell? ⟨(ad665.add (((ji32)).toNat * 2)).block, (ad665.add (((ji32)).toNat * 2)).off + 1, none⟩ = some (.int .u64 ((rd_T34 t654 (ji32)).f1))) (ds := []) #[false, false, false, false, false, false, false, false, false, false, false] (by kernel_rfl) rfl rfl ⟨(blk_cell BK666.out 0).trans rfl, (blk_cell BK666.out 1).trans rfl, hx667_0, hx667_1⟩ (fun hHeld => ?_); refine with_tabW medlarlaw12_LayerOrder.tab17 medlarlaw12_LayerOrder.bits17 (fun HT_ HW_ => ?_)
                                  generalize w36.drew = w37 at HO_4 HO_50 BK666 HB hx667_0 hx667_1 hHeld ⊢
                                  refine pure_ (i := 0) (N := some 57) (v := ?_) (a' := ?_) #[true, false, false, false, false, false, false, false, false, false, false] rfl rfl (any_of HT_.out (by kernel_rfl)) (fun _ _ _ h => h) (Or.inl ⟨by rfl, ?_⟩) ?_ ?_
                                  rotate_left
                                  · intro w'
                                    go_simp
                                    with_reducible rfl
                                  rotate_left
                                  · simp only [Act.put, List.setIfInBounds_toArray, List.set_cons_zero, List.set_cons_succ, i64_w, i32_w]
                                    rfl
                                  refine pure_ (i := 1) (N := some 58) (v := ?_) (a' := ?_) #[true, true, false, false, false, false, false, false, false, false, false] rfl rfl (any_of HT_.out (by kernel_rfl)) (fun _ _ _ h => h) (Or.inl ⟨by rfl, ?_⟩) ?_ ?_
                                  rotate_left
                                  · intro w'
                                    go_simp
                                    with_reducible rfl
                                  rotate_left
                                  · simp only [Act.put, List.setIfInBounds_toArray, List.set_cons_zero, List.set_cons_succ, i64_w, i32_w]
                                    rfl
                                  refine pure_ (i := 2) (N := some 59) (v := ?_) (a' := ?_) #[true, true, true, false, false, false, false, false, false, false, false] rfl rfl (any_of HT_.out (by kernel_rfl)) (fun _ _ _ h => h) (Or.inl ⟨by rfl, ?_⟩) ?_ ?_
                                  rotate_left
                                  · intro w'
                                    go_simp
                                    with_reducible rfl
                                  rotate_left
                                  · simp only [Act.put, List.setIfInBounds_toArray, List.set_cons_zero, List.set_cons_succ, i64_w, i32_w]
                                    rfl
                                  refine pure_ (i := 4) (N := some 61) (v := ?_) (a' := ?_) #[true, true, true, false, true, false, false, false, false, false, false] rfl rfl (any_of HT_.out (by kernel_rfl)) (fun _ _ _ h => h) (Or.inl ⟨by rfl, ?_⟩) ?_ ?_
                                  rotate_left
                                  · intro w'
                                    go_simp
                                    with_reducible rfl
                                  rotate_left
                                  · simp only [Act.put, List.setIfInBounds_toArray, List.set_cons_zero, List.set_cons_succ, i64_w, i32_w]
                                    rfl
                                  refine pure_ (i := 5) (N := some 62) (v := ?_) (a' := ?_) #[true, true, true, false, true, true, false, false, false, false, false] rfl rfl (any_of HT_.out (by kernel_rfl)) (fun _ _ _ h => h) (Or.inl ⟨by rfl, ?_⟩) ?_ ?_
                                  rotate_left
                                  · intro w'
                                    go_simp
                                    with_reducible rfl
                                  rotate_left
                                  · simp only [Act.put, List.setIfInBounds_toArray, List.set_cons_zero, List.set_cons_succ, i64_w, i32_w]
                                    rfl
                                  refine pure_ (i := 6) (N := some 63) (v := ?_) (a' := ?_) #[true, true, true, false, true, true, true, false, false, false, false] rfl rfl (any_of HT_.out (by kernel_rfl)) (fun _ _ _ h => h) (Or.inl ⟨by rfl, ?_⟩) ?_ ?_
                                  rotate_left
                                  · intro w'
                                    go_simp
                                    with_reducible rfl
                                  rotate_left
                                  · simp only [Act.put, List.setIfInBounds_toArray, List.set_cons_zero, List.set_cons_succ, i64_w, i32_w]
                                    rfl
                                  refine pure_ (i := 7) (N := some 64) (v := ?_) (a' := ?_) #[true, true, true, false, true, true, true, true, false, false, false] rfl rfl (any_of HT_.out (by kernel_rfl)) (fun _ _ _ h => h) (Or.inl ⟨by rfl, ?_⟩) ?_ ?_
                                  rotate_left
                                  · intro w'
                                    go_simp
                                    with_reducible rfl
                                  rotate_left
                                  · simp only [Act.put, List.setIfInBounds_toArray, List.set_cons_zero, List.set_cons_succ, i64_w, i32_w]
                                    rfl
                                  refine take_ (i := 3) (N := some 60) (v := ?_) (a' := ?_) #[true, true, true, true, true, true, true, true, false, false, false] rfl rfl (take_ofW HT_.out HW_.out (by kernel_rfl)) (fun _ _ _ h => h) (Or.inl ⟨by rfl, ?_⟩) hHeld ?_ ?_
                                  rotate_left
                                  · rintro w' ⟨s0, s1, s2, s3⟩
                                    go_simp
                                    with_reducible rfl
                                  rotate_left
                                  · simp only [Act.put, List.setIfInBounds_toArray, List.set_cons_zero, List.set_cons_succ, i64_w, i32_w]
                                    rfl
                                  refine take_ (i := 8) (N := some 65) (v := ?_) (a' := ?_) #[true, true, true, true, true, true, true, true, true, false, false] rfl rfl (take_ofW HT_.out HW_.out (by kernel_rfl)) (fun _ _ _ h => h) (Or.inl ⟨by rfl, ?_⟩) hHeld ?_ ?_
                                  rotate_left
                                  · rintro w' ⟨s0, s1, s2, s3⟩
                                    go_simp
                                    with_reducible rfl
                                  rotate_left
                                  · simp only [Act.put, List.setIfInBounds_toArray, List.set_cons_zero, List.set_cons_succ, i64_w, i32_w]
                                    rfl
                                  refine one_ (i := 9) (N := some 66) #[true, true, true, true, true, true, true, true, true, true, false] rfl rfl (one_of HT_.out (by kernel_rfl)) (by decide) (fun K hK => ?_)
                                  refine goes_ Try.func24 (by kernel_rfl) rfl #[.agg #[.int .u64 ((rd_T34 t654 x52_3).f0), .int .u64 ((rd_T34 t654 x52_3).f1)], .agg #[.int .u64 ((rd_T34 t654 (ji32)).f0), .int .u64 ((rd_T34 t654 (ji32)).f1)]] (by rfl) rfl rfl (by (try simp only [List.map_toArray, List.map_cons, List.map_nil]); first | done | (simp only [hji32]; rfl) | rfl | (simp only [List.length_drop, List.length_take]; rfl)) ?_
                                  with_reducible refine (sub_Less.calls k3 ((rd_T34 t654 x52_3).f0) ((rd_T34 t654 x52_3).f1) ((rd_T34 t654 (ji32)).f0) ((rd_T34 t654 (ji32)).f1) t668 _ A35.out).mono ?_
                                  rintro e w38 ⟨rfl, hb⟩
                                  have HS2_ := (hb.cell (World.block_lt_of_cell? _ _ (hHeld.2.2.1))).trans (hHeld.2.2.1)
                                  have HS3_ := (hb.cell (World.block_lt_of_cell? _ _ (hHeld.2.2.2))).trans (hHeld.2.2.2)
                                  refine ⟨_, rfl, ?_⟩
                                  have n0_ := Aside0.mk (Kd.R_below (by (with_reducible repeat (first | apply Kd.R_alloc | apply Kd.R_drewN | apply Kd.R_drew)); exact HO_4.out) hb)
                                  have n1_ := Aside0.mk (Kd.R_below (by (with_reducible repeat (first | apply Kd.R_alloc | apply Kd.R_drewN | apply Kd.R_drew)); exact HO_50.out) hb)
                                  have n2_ := Aside0.mk (blk_below (g := gb666) (o := .cells #[.int .u64 ((rd_T34 t654 x52_3).f0), .int .u64 ((rd_T34 t654 x52_3).f1)] 34 (0, 0)) (by (with_reducible repeat (first | refine blk_drewN ?_ _ | refine blk_drew ?_ | refine blk_alloc ?_ _)); exact BK666.out) hb)
                                  have n3_ := Aside0.mk (below_step (by repeat (first | (with_reducible first | exact HB.out | apply below_alloc | apply pw_below_drewN | apply below_drew1 | refine below_set ?_ GE666.out) | exact HB.out)) hb)
                                  clear HO_4
                                  clear HO_50
                                  clear BK666
                                  clear HB
                                  have HO_4 := n0_
                                  have HO_50 := n1_
                                  have BK666 := n2_
                                  have HB := n3_
                                  clear n0_ n1_ n2_ n3_
                                  (try clear hb)
                                  (try clear hb2)
                                  (try clear hk)
                                  (try clear hi)
                                  refine hK.out _ _ ⟨(blk_cell BK666.out 0).trans rfl, (blk_cell BK666.out 1).trans rfl, HS2_, HS3_⟩ (fun hHeld => ?_)
                                  clear hK K
                                  refine norm_ (a' := ?_) ?_ ?_
                                  rotate_left
                                  · show Act.put _ (some 66) _ = _
                                    simp only [Act.put, List.setIfInBounds_toArray, List.set_cons_zero, List.set_cons_succ, i64_w, i32_w]
                                    rfl
                                  refine pure_ (i := 10) (N := some 67) (v := ?_) (a' := ?_) #[true, true, true, true, true, true, true, true, true, true, true] rfl rfl (any_of HT_.out (by kernel_rfl)) (fun _ _ _ h => h) (Or.inl ⟨by rfl, ?_⟩) ?_ ?_
                                  rotate_left
                                  · intro w'
                                    go_simp
                                    with_reducible rfl
                                  rotate_left
                                  · simp only [Act.put, List.setIfInBounds_toArray, List.set_cons_zero, List.set_cons_succ, i64_w, i32_w]
                                    rfl
                                  refine done_ (done_of HT_.out (by kernel_rfl)) ?_
                                  try go_wp2
                                  go_meet
                                  case rel => exact ⟨_, (t668), (by first | rfl | (simp; done) | (simp [*]; done)), H', ⟨by have := HK1.out; have := HJ14.out; have := HK3.out; first | omega | exact Nat.le_refl _⟩, ⟨by (with_reducible repeat (first | apply Kd.R_alloc | apply Kd.R_drewN | apply Kd.R_drew)); exact HO_4.out⟩, ⟨by (with_reducible repeat (first | apply Kd.R_alloc | apply Kd.R_drewN | apply Kd.R_drew)); exact HO_50.out⟩, ⟨by (with_reducible repeat (first | refine blk_drewN ?_ _ | refine blk_drew ?_ | refine blk_alloc ?_ _)); exact BK666.out⟩, ⟨by repeat (first | (with_reducible first | exact HB.out | apply below_alloc | apply pw_below_drewN | apply below_drew1 | refine below_set ?_ GE666.out) | exact HB.out)⟩⟩
                                · rw [if_neg c34] at H
                                  exact absurd H (by simp)
                              · rw [if_neg c33] at H
                                exact absurd H (by simp)
                            · rw [if_neg c31] at H
                              have c31b0 : decide (0 < x52_3) = false := decide_eq_false c31
                              clear c31
                              (first | rw [c31b0] | (simp only [i64_w, i32_w]; rw [c31b0]) | skip)
                              have H' := Aside0.mk H
                              clear H
                              try go_wp2
                              have n0_ : Aside0 (Kd.R k34 34 ((w29.setCell ⟨gb666, 0, none⟩ (.int .u64 ((rd_T34 t654 x52_3).f0))).setCell ⟨gb666, 1, none⟩ (.int .u64 ((rd_T34 t654 x52_3).f1))) w.heap.size (fun k_ => k_ ≠ gb666) (.slice (some ad665) t654.length co24) t654) := ⟨by (with_reducible repeat (first | apply Kd.R_alloc | apply Kd.R_drewN | apply Kd.R_drew)); exact Kd.R_mono (Kd.R_far (p := ⟨gb666, 1, none⟩) (Kd.R_far (p := ⟨gb666, 0, none⟩) (Kd.R_mono HO_4.out (fun k_ hk => (⟨hk, hk.2⟩ : _ ∧ k_ ≠ gb666))) (fun _ hk => hk.2) (.int .u64 ((rd_T34 t654 x52_3).f0))) (fun _ hk => hk.2) (.int .u64 ((rd_T34 t654 x52_3).f1))) (fun _ hk => hk.1.2)⟩
                              have n1_ : Aside0 (Kd.R k34 34 ((w29.setCell ⟨gb666, 0, none⟩ (.int .u64 ((rd_T34 t654 x52_3).f0))).setCell ⟨gb666, 1, none⟩ (.int .u64 ((rd_T34 t654 x52_3).f1))) w.heap.size (fun k_ => k_ ≠ gb666) (.slice (some ad665) t654.length co24) t654) := ⟨by (with_reducible repeat (first | apply Kd.R_alloc | apply Kd.R_drewN | apply Kd.R_drew)); exact Kd.R_mono (Kd.R_far (p := ⟨gb666, 1, none⟩) (Kd.R_far (p := ⟨gb666, 0, none⟩) (Kd.R_mono HO_50.out (fun k_ hk => (⟨hk, hk.2⟩ : _ ∧ k_ ≠ gb666))) (fun _ hk => hk.2) (.int .u64 ((rd_T34 t654 x52_3).f0))) (fun _ hk => hk.2) (.int .u64 ((rd_T34 t654 x52_3).f1))) (fun _ hk => hk.1.2)⟩
                              have n2_ : Aside0 (((w29.setCell ⟨gb666, 0, none⟩ (.int .u64 ((rd_T34 t654 x52_3).f0))).setCell ⟨gb666, 1, none⟩ (.int .u64 ((rd_T34 t654 x52_3).f1))).heap[gb666]? = some (.cells #[.int .u64 ((rd_T34 t654 x52_3).f0), .int .u64 ((rd_T34 t654 x52_3).f1)] 34 (0, 0))) := ⟨by (with_reducible repeat (first | refine blk_drewN ?_ _ | refine blk_drew ?_ | refine blk_alloc ?_ _)); refine blk_put (cs := #[.int .u64 ((rd_T34 t654 x52_3).f0), .int .u64 0]) ?_ 1 _ rfl; (with_reducible repeat (first | refine blk_drewN ?_ _ | refine blk_drew ?_ | refine blk_alloc ?_ _)); refine blk_put (cs := #[.int .u64 0, .int .u64 0]) ?_ 0 _ rfl; (with_reducible repeat (first | refine blk_drewN ?_ _ | refine blk_drew ?_ | refine blk_alloc ?_ _)); exact BK666.out⟩
                              have n3_ : Aside0 (Below w.heap.size w ((w29.setCell ⟨gb666, 0, none⟩ (.int .u64 ((rd_T34 t654 x52_3).f0))).setCell ⟨gb666, 1, none⟩ (.int .u64 ((rd_T34 t654 x52_3).f1)))) := ⟨by repeat (first | (with_reducible first | exact HB.out | apply below_alloc | apply pw_below_drewN | apply below_drew1 | refine below_set ?_ GE666.out) | exact HB.out)⟩
                              (try clear HO_4)
                              (try clear HO_50)
                              (try clear BK666)
                              (try clear HB)
                              generalize ((w29.setCell ⟨gb666, 0, none⟩ (.int .u64 ((rd_T34 t654 x52_3).f0))).setCell ⟨gb666, 1, none⟩ (.int .u64 ((rd_T34 t654 x52_3).f1))) = w39 at n0_ n1_ n2_ n3_ ⊢
                              have HO_4 := n0_
                              have HO_50 := n1_
                              have BK666 := n2_
                              have HB := n3_
                              clear n0_ n1_ n2_ n3_
                              have n0_ := Aside0.mk (Kd.R_drew HO_4.out)
                              have n1_ := Aside0.mk (Kd.R_drew HO_50.out)
                              have n2_ := Aside0.mk (blk_drew BK666.out)
                              have n3_ := Aside0.mk (below_drew1 HB.out)
                              clear HO_4
                              clear HO_50
                              clear BK666
                              clear HB
                              have HO_4 := n0_
                              have HO_50 := n1_
                              have BK666 := n2_
                              have HB := n3_
                              clear n0_ n1_ n2_ n3_
                              refine start_ (n := 11) (S := fun w' => True) (ds := []) #[false, false, false, false, false, false, false, false, false, false, false] (by kernel_rfl) rfl rfl trivial (fun hHeld => ?_); refine with_tabW medlarlaw12_LayerOrder.tab17 medlarlaw12_LayerOrder.bits17 (fun HT_ HW_ => ?_)
                              generalize w39.drew = w40 at HO_4 HO_50 BK666 HB hHeld ⊢
                              refine pure_ (i := 0) (N := some 57) (v := ?_) (a' := ?_) #[true, false, false, false, false, false, false, false, false, false, false] rfl rfl (any_of HT_.out (by kernel_rfl)) (fun _ _ _ h => h) (Or.inl ⟨by rfl, ?_⟩) ?_ ?_
                              rotate_left
                              · intro w'
                                go_simp
                                with_reducible rfl
                              rotate_left
                              · simp only [Act.put, List.setIfInBounds_toArray, List.set_cons_zero, List.set_cons_succ, i64_w, i32_w]
                                rfl
                              refine pure_ (i := 1) (N := some 58) (v := ?_) (a' := ?_) #[true, true, false, false, false, false, false, false, false, false, false] rfl rfl (any_of HT_.out (by kernel_rfl)) (fun _ _ _ h => h) (Or.inl ⟨by rfl, ?_⟩) ?_ ?_
                              rotate_left
                              · intro w'
                                go_simp
                                with_reducible rfl
                              rotate_left
                              · simp only [Act.put, List.setIfInBounds_toArray, List.set_cons_zero, List.set_cons_succ, i64_w, i32_w]
                                rfl
                              refine pure_ (i := 2) (N := some 59) (v := ?_) (a' := ?_) #[true, true, true, false, false, false, false, false, false, false, false] rfl rfl (any_of HT_.out (by kernel_rfl)) (fun _ _ _ h => h) (Or.inl ⟨by rfl, ?_⟩) ?_ ?_
                              rotate_left
                              · intro w'
                                go_simp
                                with_reducible rfl
                              rotate_left
                              · simp only [Act.put, List.setIfInBounds_toArray, List.set_cons_zero, List.set_cons_succ, i64_w, i32_w]
                                rfl
                              refine pure_ (i := 3) (N := some 60) (v := undef) (a' := ?_) #[true, true, true, true, false, false, false, false, false, false, false] rfl rfl (any_of HT_.out (by kernel_rfl)) (fun _ _ _ h => h) (Or.inr ⟨by rfl, rfl⟩) ?_ ?_
                              rotate_left
                              · simp only [Act.put, List.setIfInBounds_toArray, List.set_cons_zero, List.set_cons_succ, i64_w, i32_w]
                                rfl
                              refine pure_ (i := 4) (N := some 61) (v := undef) (a' := ?_) #[true, true, true, true, true, false, false, false, false, false, false] rfl rfl (any_of HT_.out (by kernel_rfl)) (fun _ _ _ h => h) (Or.inr ⟨by rfl, rfl⟩) ?_ ?_
                              rotate_left
                              · simp only [Act.put, List.setIfInBounds_toArray, List.set_cons_zero, List.set_cons_succ, i64_w, i32_w]
                                rfl
                              refine pure_ (i := 5) (N := some 62) (v := undef) (a' := ?_) #[true, true, true, true, true, true, false, false, false, false, false] rfl rfl (any_of HT_.out (by kernel_rfl)) (fun _ _ _ h => h) (Or.inr ⟨by rfl, rfl⟩) ?_ ?_
                              rotate_left
                              · simp only [Act.put, List.setIfInBounds_toArray, List.set_cons_zero, List.set_cons_succ, i64_w, i32_w]
                                rfl
                              refine pure_ (i := 6) (N := some 63) (v := undef) (a' := ?_) #[true, true, true, true, true, true, true, false, false, false, false] rfl rfl (any_of HT_.out (by kernel_rfl)) (fun _ _ _ h => h) (Or.inr ⟨by rfl, rfl⟩) ?_ ?_
                              rotate_left
                              · simp only [Act.put, List.setIfInBounds_toArray, List.set_cons_zero, List.set_cons_succ, i64_w, i32_w]
                                rfl
                              refine pure_ (i := 7) (N := some 64) (v := undef) (a' := ?_) #[true, true, true, true, true, true, true, true, false, false, false] rfl rfl (any_of HT_.out (by kernel_rfl)) (fun _ _ _ h => h) (Or.inr ⟨by rfl, rfl⟩) ?_ ?_
                              rotate_left
                              · simp only [Act.put, List.setIfInBounds_toArray, List.set_cons_zero, List.set_cons_succ, i64_w, i32_w]
                                rfl
                              refine pure_ (i := 8) (N := some 65) (v := undef) (a' := ?_) #[true, true, true, true, true, true, true, true, true, false, false] rfl rfl (any_of HT_.out (by kernel_rfl)) (fun _ _ _ h => h) (Or.inr ⟨by rfl, rfl⟩) ?_ ?_
                              rotate_left
                              · simp only [Act.put, List.setIfInBounds_toArray, List.set_cons_zero, List.set_cons_succ, i64_w, i32_w]
                                rfl
                              refine pure_ (i := 9) (N := some 66) (v := undef) (a' := ?_) #[true, true, true, true, true, true, true, true, true, true, false] rfl rfl (any_of HT_.out (by kernel_rfl)) (fun _ _ _ h => h) (Or.inr ⟨by rfl, rfl⟩) ?_ ?_
                              rotate_left
                              · simp only [Act.put, List.setIfInBounds_toArray, List.set_cons_zero, List.set_cons_succ, i64_w, i32_w]
                                rfl
                              refine pure_ (i := 10) (N := some 67) (v := ?_) (a' := ?_) #[true, true, true, true, true, true, true, true, true, true, true] rfl rfl (any_of HT_.out (by kernel_rfl)) (fun _ _ _ h => h) (Or.inl ⟨by rfl, ?_⟩) ?_ ?_
                              rotate_left
                              · intro w'
                                go_simp
                                with_reducible rfl
                              rotate_left
                              · simp only [Act.put, List.setIfInBounds_toArray, List.set_cons_zero, List.set_cons_succ, i64_w, i32_w]
                                rfl
                              refine done_ (done_of HT_.out (by kernel_rfl)) ?_
                              try go_wp2
                              go_meet
                              case rel => exact ⟨_, (false), (by first | rfl | (simp; done) | (simp [*]; done)), H', ⟨by have := HK1.out; have := HJ14.out; have := HK3.out; first | omega | exact Nat.le_refl _⟩, ⟨by (with_reducible repeat (first | apply Kd.R_alloc | apply Kd.R_drewN | apply Kd.R_drew)); exact HO_4.out⟩, ⟨by (with_reducible repeat (first | apply Kd.R_alloc | apply Kd.R_drewN | apply Kd.R_drew)); exact HO_50.out⟩, ⟨by (with_reducible repeat (first | refine blk_drewN ?_ _ | refine blk_drew ?_ | refine blk_alloc ?_ _)); exact BK666.out⟩, ⟨by repeat (first | (with_reducible first | exact HB.out | apply below_alloc | apply pw_below_drewN | apply below_drew1 | refine below_set ?_ GE666.out) | exact HB.out)⟩⟩
                          case rest =>
                            clear HC28
                            try clear c1
                            try clear c2
                            try clear p2
                            try clear c3
                            try clear c3b0
                            try clear c3b1
                            try clear p6
                            try clear q6
                            try clear hx6
                            try clear c8
                            try clear c8b0
                            try clear c10
                            try clear c10b0
                            try clear c11
                            try clear c11b0
                            try clear c12
                            try clear c18
                            try clear c18b0
                            try clear c18b1
                            try clear c18b2
                            try clear c23
                            try clear c24
                            try clear c25
                            try clear c25b0
                            try clear c26
                            try clear c26b0
                            try clear c27
                            try clear c27b0
                            try clear c30
                            try clear c31
                            try clear c31b0
                            try clear c33
                            try clear c33b0
                            try clear c34
                            try clear c34b0
                            try clear hcz30_0
                            try clear hcz30_1
                            try clear hfz30_0
                            try clear hfz30_1
                            try clear hx657_0
                            try clear hx657_1
                            try clear hx665_0
                            try clear hx665_1
                            try clear hx667_0
                            try clear hx667_1
                            try clear p2
                            try clear p6
                            try clear p657
                            try clear p665
                            try clear p667
                            try clear q6
                            try clear q657
                            try clear q665
                            try clear q667
                            obtain ⟨kq, x67_27, rfl, HA, HJ27, HO_4, HO_50, BK666, HB⟩ := hcut
                            cases kq with
                            | zero => exact absurd HA.out (by simp [medlarlaw12_LayerOrder.j3])
                            | succ kj27 =>
                              have H := HA.out
                              clear HA
                              simp only [medlarlaw12_LayerOrder.j3] at H
                              by_cases c41 : x67_27 = true
                              · subst c41
                                have H1 : (some false) = some r := by rw [if_pos rfl] at H; exact H
                                clear H
                                have H := H1
                                clear H1
                                exact absurd ((Option.some.inj H).trans hT.out) Bool.false_ne_true
                              · replace c41 := Bool.eq_false_iff.mpr c41
                                subst c41
                                have H1 : (medlarlaw12_LayerOrder.l2 kj27 l0 t653 t654 0 0 t654 (t654.length : Int) x52_3 (l0.length : Int) 0 ((rd_T34 t654 x52_3).f0) ((rd_T34 t654 x52_3).f1)) = some r := by rw [if_neg (show ¬ (false = true) by decide)] at H; exact H
                                clear H
                                have H := H1
                                clear H1
                                have H' := Aside0.mk H
                                clear H
                                go_wp2
                                go_loopg [10, 11, 70] kj27 (fun kq v10 v11 v70 w' => ∃ (x10_5 : Int) (x11_5 : Int) (x70_5 : Int), v10 = .int .i64 x10_5 ∧ v11 = .int .i64 x11_5 ∧ v70 = .int .i64 x70_5 ∧ Aside0 (medlarlaw12_LayerOrder.l2 kq l0 t653 t654 x10_5 x11_5 t654 (t654.length : Int) x52_3 (l0.length : Int) x70_5 ((rd_T34 t654 x52_3).f0) ((rd_T34 t654 x52_3).f1) = some r) ∧ Aside0 (kq ≤ kj27) ∧ Aside0 (Kd.R k34 34 w' w.heap.size (fun k_ => k_ ≠ gb666) (.slice (some ad665) t654.length co24) t654) ∧ Aside0 (Kd.R k34 34 w' w.heap.size (fun k_ => k_ ≠ gb666) (.slice (some ad665) t654.length co24) t654) ∧ Aside0 (w'.heap[gb666]? = some (.cells #[.int .u64 ((rd_T34 t654 x52_3).f0), .int .u64 ((rd_T34 t654 x52_3).f1)] 34 (0, 0))) ∧ Aside0 (Below w.heap.size w w'))
                                case atStart => exact ⟨(0), (0), (0), (by first | rfl | (simp; done) | (simp [*]; done)), (by first | rfl | (simp; done) | (simp [*]; done)), (by first | rfl | (simp; done) | (simp [*]; done)), H', ⟨Nat.le_refl _⟩, ⟨by (with_reducible repeat (first | apply Kd.R_alloc | apply Kd.R_drewN | apply Kd.R_drew)); exact HO_4.out⟩, ⟨by (with_reducible repeat (first | apply Kd.R_alloc | apply Kd.R_drewN | apply Kd.R_drew)); exact HO_50.out⟩, ⟨by (with_reducible repeat (first | refine blk_drewN ?_ _ | refine blk_drew ?_ | refine blk_alloc ?_ _)); exact BK666.out⟩, ⟨by repeat (first | (with_reducible first | exact HB.out | apply below_alloc | apply pw_below_drewN | apply below_drew1 | refine below_set ?_ GE666.out) | exact HB.out)⟩⟩
                                case round =>
                                  clear H'
                                  try clear c1
                                  try clear c2
                                  try clear p2
                                  try clear c3
                                  try clear c3b0
                                  try clear c3b1
                                  try clear c4
                                  try clear p6
                                  try clear q6
                                  try clear hx6
                                  try clear c8
                                  try clear c8b0
                                  try clear c10
                                  try clear c10b0
                                  try clear c11
                                  try clear c11b0
                                  try clear c12
                                  try clear c18
                                  try clear c18b0
                                  try clear c18b1
                                  try clear c18b2
                                  try clear c23
                                  try clear c24
                                  try clear c25
                                  try clear c25b0
                                  try clear c26
                                  try clear c26b0
                                  try clear c27
                                  try clear c27b0
                                  try clear c30
                                  try clear c31
                                  try clear c31b0
                                  try clear c33
                                  try clear c33b0
                                  try clear c34
                                  try clear c34b0
                                  try clear c41
                                  try clear hcz30_0
                                  try clear hcz30_1
                                  try clear hfz30_0
                                  try clear hfz30_1
                                  try clear hx657_0
                                  try clear hx657_1
                                  try clear hx665_0
                                  try clear hx665_1
                                  try clear hx667_0
                                  try clear hx667_1
                                  try clear p2
                                  try clear p6
                                  try clear p657
                                  try clear p665
                                  try clear p667
                                  try clear q6
                                  try clear q657
                                  try clear q665
                                  try clear q667
                                  obtain ⟨x10_5, x11_5, x70_5, rfl, rfl, rfl, HA, HK5, HO_4, HO_50, BK666, HB⟩ := hrel
                                  cases gk with
                                  | zero => exact absurd HA.out (by simp [medlarlaw12_LayerOrder.l2])
                                  | succ k5 =>
                                    have H := HA.out
                                    clear HA
                                    simp only [medlarlaw12_LayerOrder.l2] at H
                                    by_cases c42 : x70_5 < (l0.length : Int)
                                    · rw [if_pos c42] at H
                                      have c42b0 : decide (x70_5 < (l0.length : Int)) = true := decide_eq_true c42
                                      clear c42
                                      by_cases c43 : 0 ≤ x70_5
                                      · rw [if_pos c43] at H
                                        have c43b0 : decide (0 ≤ x70_5) = true := decide_eq_true c43
                                        clear c43
                                        by_cases c44 : x70_5 < (l0.length : Int)
                                        · rw [if_pos c44] at H
                                          have c44b0 : decide (x70_5 < (l0.length : Int)) = true := decide_eq_true c44
                                          clear c44
                                          by_cases c45 : (((rd_T34 l0 x70_5).f0) == ((rd_T34 t654 x52_3).f0) && (((rd_T34 l0 x70_5).f1) == ((rd_T34 t654 x52_3).f1))) = true
                                          · rw [if_pos c45] at H
                                            have c45b0 : (((rd_T34 l0 x70_5).f0) == ((rd_T34 t654 x52_3).f0) && (((rd_T34 l0 x70_5).f1) == ((rd_T34 t654 x52_3).f1))) = true := c45
                                            (try (have c45b1 : decide (((rd_T34 l0 x70_5).f0) = ((rd_T34 t654 x52_3).f0) && (((rd_T34 l0 x70_5).f1) == ((rd_T34 t654 x52_3).f1))) = true := by simpa using c45))
                                            (try (have c45b2 : (((rd_T34 l0 x70_5).f0) == ((rd_T34 t654 x52_3).f0) && (((rd_T34 l0 x70_5).f1) == ((rd_T34 t654 x52_3).f1))) = true := by simpa using c45))
                                            clear c45
                                            by_cases c46 : x70_5 < (t654.length : Int)
                                            · rw [if_pos c46] at H
                                              have c46b0 : decide (x70_5 < (t654.length : Int)) = true := decide_eq_true c46
                                              clear c46
                                              by_cases c47 : (((rd_T34 t654 x70_5).f0) == ((rd_T34 t654 x52_3).f0) && (((rd_T34 t654 x70_5).f1) == ((rd_T34 t654 x52_3).f1))) = true
                                              · rw [if_pos c47] at H
                                                have c47b0 : (((rd_T34 t654 x70_5).f0) == ((rd_T34 t654 x52_3).f0) && (((rd_T34 t654 x70_5).f1) == ((rd_T34 t654 x52_3).f1))) = true := c47
                                                (try (have c47b1 : decide (((rd_T34 t654 x70_5).f0) = ((rd_T34 t654 x52_3).f0) && (((rd_T34 t654 x70_5).f1) == ((rd_T34 t654 x52_3).f1))) = true := by simpa using c47))
                                                (try (have c47b2 : (((rd_T34 t654 x70_5).f0) == ((rd_T34 t654 x52_3).f0) && (((rd_T34 t654 x70_5).f1) == ((rd_T34 t654 x52_3).f1))) = true := by simpa using c47))
                                                clear c47
                                                have H' := Aside0.mk H
                                                clear H
                                                try go_wp2
                                                have n0_ := Aside0.mk (Kd.R_drew HO_4.out)
                                                have n1_ := Aside0.mk (Kd.R_drew HO_50.out)
                                                have n2_ := Aside0.mk (blk_drew BK666.out)
                                                have n3_ := Aside0.mk (below_drew1 HB.out)
                                                clear HO_4
                                                clear HO_50
                                                clear BK666
                                                clear HB
                                                have HO_4 := n0_
                                                have HO_50 := n1_
                                                have BK666 := n2_
                                                have HB := n3_
                                                clear n0_ n1_ n2_ n3_
                                                have p669 : 0 ≤ (x70_5 : Int) := of_decide_eq_true (by first | (with_reducible assumption) | assumption)
                                                have q669 : x70_5 < (l0.length : Int) := of_decide_eq_true (by first | (with_reducible assumption) | assumption)
                                                obtain ⟨ad669, e669, hx669_0, hx669_1⟩ := at_T34 HR0.out x70_5 p669 q669
                                                have hw669_1 := hx669_1
                                                have hw669_0 := hx669_0
                                                cases e669
                                                replace hx669_0 := (HB.out.cell (World.block_lt_of_cell? w _ hx669_0)).trans hx669_0
                                                replace hx669_1 := (HB.out.cell (World.block_lt_of_cell? w _ hx669_1)).trans hx669_1
                                                replace p669 := eq_true p669
                                                replace q669 := eq_true q669
                                                refine start_ (n := 6) (S := fun w' => w'.cell? ⟨gb666, 0, none⟩ = some (.int .u64 ((rd_T34 t654 x52_3).f0)) ∧ w'.cell? ⟨gb666, 1, none⟩ = some (.int .u64 ((rd_T34 t654 x52_3).f1)) ∧ w'.cell? (ad669.add ((x70_5).toNat * 2)) = some (.int .u64 ((rd_T34 l0 x70_5).f0)) ∧ w'.cell? ⟨(ad669.add ((x70_5).toNat * 2)).block, (ad669.add ((x70_5).toNat * 2)).off + 1, none⟩ = some (.int .u64 ((rd_T34 l0 x70_5).f1))) (ds := []) #[false, false, false, false, false, false] (by kernel_rfl) rfl rfl ⟨(blk_cell BK666.out 0).trans rfl, (blk_cell BK666.out 1).trans rfl, ((HB.out.cell (World.block_lt_of_cell? w _ hw669_0)).trans hw669_0), ((HB.out.cell (World.block_lt_of_cell? w _ hw669_1)).trans hw669_1)⟩ (fun hHeld => ?_)
                                                generalize wr.drew = w48 at HO_4 HO_50 BK666 HB hx669_0 hx669_1 hHeld ⊢
                                                refine pure_ (i := 0) (N := some 73) (v := ?_) (a' := ?_) #[true, false, false, false, false, false] rfl rfl (by kernel_rfl) (fun _ _ _ h => h) (Or.inl ⟨by rfl, ?_⟩) ?_ ?_
                                                rotate_left
                                                · intro w'
                                                  go_simp
                                                  with_reducible rfl
                                                rotate_left
                                                · simp only [Act.put, List.setIfInBounds_toArray, List.set_cons_zero, List.set_cons_succ, i64_w, i32_w]
                                                  rfl
                                                refine pure_ (i := 1) (N := some 74) (v := ?_) (a' := ?_) #[true, true, false, false, false, false] rfl rfl (by kernel_rfl) (fun _ _ _ h => h) (Or.inl ⟨by rfl, ?_⟩) ?_ ?_
                                                rotate_left
                                                · intro w'
                                                  go_simp
                                                  with_reducible rfl
                                                rotate_left
                                                · simp only [Act.put, List.setIfInBounds_toArray, List.set_cons_zero, List.set_cons_succ, i64_w, i32_w]
                                                  rfl
                                                refine pure_ (i := 2) (N := some 75) (v := ?_) (a' := ?_) #[true, true, true, false, false, false] rfl rfl (by kernel_rfl) (fun _ _ _ h => h) (Or.inl ⟨by rfl, ?_⟩) ?_ ?_
                                                rotate_left
                                                · intro w'
                                                  go_simp
                                                  with_reducible rfl
                                                rotate_left
                                                · simp only [Act.put, List.setIfInBounds_toArray, List.set_cons_zero, List.set_cons_succ, i64_w, i32_w]
                                                  rfl
                                                refine take_ (i := 3) (N := some 76) (v := ?_) (a' := ?_) #[true, true, true, true, false, false] rfl rfl (by kernel_rfl) (fun _ _ _ h => h) (Or.inl ⟨by rfl, ?_⟩) hHeld ?_ ?_
                                                rotate_left
                                                · rintro w' ⟨s0, s1, s2, s3⟩
                                                  go_simp
                                                  with_reducible rfl
                                                rotate_left
                                                · simp only [Act.put, List.setIfInBounds_toArray, List.set_cons_zero, List.set_cons_succ, i64_w, i32_w]
                                                  rfl
                                                refine take_ (i := 4) (N := some 77) (v := ?_) (a' := ?_) #[true, true, true, true, true, false] rfl rfl (by kernel_rfl) (fun _ _ _ h => h) (Or.inl ⟨by rfl, ?_⟩) hHeld ?_ ?_
                                                rotate_left
                                                · rintro w' ⟨s0, s1, s2, s3⟩
                                                  go_simp
                                                  with_reducible rfl
                                                rotate_left
                                                · simp only [Act.put, List.setIfInBounds_toArray, List.set_cons_zero, List.set_cons_succ, i64_w, i32_w]
                                                  rfl
                                                refine pure_ (i := 5) (N := some 78) (v := ?_) (a' := ?_) #[true, true, true, true, true, true] rfl rfl (by kernel_rfl) (fun _ _ _ h => h) (Or.inl ⟨by rfl, ?_⟩) ?_ ?_
                                                rotate_left
                                                · intro w'
                                                  go_simp
                                                  with_reducible rfl
                                                rotate_left
                                                · simp only [Act.put, List.setIfInBounds_toArray, List.set_cons_zero, List.set_cons_succ, i64_w, i32_w]
                                                  rfl
                                                refine done_ (by kernel_rfl) ?_
                                                try go_wp2
                                                have n0_ := Aside0.mk (Kd.R_drew HO_4.out)
                                                have n1_ := Aside0.mk (Kd.R_drew HO_50.out)
                                                have n2_ := Aside0.mk (blk_drew BK666.out)
                                                have n3_ := Aside0.mk (below_drew1 HB.out)
                                                clear HO_4
                                                clear HO_50
                                                clear BK666
                                                clear HB
                                                have HO_4 := n0_
                                                have HO_50 := n1_
                                                have BK666 := n2_
                                                have HB := n3_
                                                clear n0_ n1_ n2_ n3_
                                                have p670 : 0 ≤ (x70_5 : Int) := of_decide_eq_true (by first | (with_reducible assumption) | assumption)
                                                have q670 : x70_5 < (t654.length : Int) := of_decide_eq_true (by first | (with_reducible assumption) | assumption)
                                                obtain ⟨ad670, e670, hx670_0, hx670_1⟩ := at_T34 (Kd.R_reads' HO_4.out).2.2 x70_5 p670 q670
                                                obtain rfl : ad665 = ad670 := (by injection e670)
                                                replace p670 := eq_true p670
                                                replace q670 := eq_true q670
                                                refine start_ (n := 6) (S := fun w' => w'.cell? ⟨gb666, 0, none⟩ = some (.int .u64 ((rd_T34 t654 x52_3).f0)) ∧ w'.cell? ⟨gb666, 1, none⟩ = some (.int .u64 ((rd_T34 t654 x52_3).f1)) ∧ w'.cell? (ad665.add ((x70_5).toNat * 2)) = some (.int .u64 ((rd_T34 t654 x70_5).f0)) ∧ w'.cell? ⟨(ad665.add ((x70_5).toNat * 2)).block, (ad665.add ((x70_5).toNat * 2)).off + 1, none⟩ = some (.int .u64 ((rd_T34 t654 x70_5).f1))) (ds := []) #[false, false, false, false, false, false] (by kernel_rfl) rfl rfl ⟨(blk_cell BK666.out 0).trans rfl, (blk_cell BK666.out 1).trans rfl, hx670_0, hx670_1⟩ (fun hHeld => ?_)
                                                generalize w48.drew = w49 at HO_4 HO_50 BK666 HB hx670_0 hx670_1 hHeld ⊢
                                                refine pure_ (i := 0) (N := some 81) (v := ?_) (a' := ?_) #[true, false, false, false, false, false] rfl rfl (by kernel_rfl) (fun _ _ _ h => h) (Or.inl ⟨by rfl, ?_⟩) ?_ ?_
                                                rotate_left
                                                · intro w'
                                                  go_simp
                                                  with_reducible rfl
                                                rotate_left
                                                · simp only [Act.put, List.setIfInBounds_toArray, List.set_cons_zero, List.set_cons_succ, i64_w, i32_w]
                                                  rfl
                                                refine pure_ (i := 1) (N := some 82) (v := ?_) (a' := ?_) #[true, true, false, false, false, false] rfl rfl (by kernel_rfl) (fun _ _ _ h => h) (Or.inl ⟨by rfl, ?_⟩) ?_ ?_
                                                rotate_left
                                                · intro w'
                                                  go_simp
                                                  with_reducible rfl
                                                rotate_left
                                                · simp only [Act.put, List.setIfInBounds_toArray, List.set_cons_zero, List.set_cons_succ, i64_w, i32_w]
                                                  rfl
                                                refine pure_ (i := 2) (N := some 83) (v := ?_) (a' := ?_) #[true, true, true, false, false, false] rfl rfl (by kernel_rfl) (fun _ _ _ h => h) (Or.inl ⟨by rfl, ?_⟩) ?_ ?_
                                                rotate_left
                                                · intro w'
                                                  go_simp
                                                  with_reducible rfl
                                                rotate_left
                                                · simp only [Act.put, List.setIfInBounds_toArray, List.set_cons_zero, List.set_cons_succ, i64_w, i32_w]
                                                  rfl
                                                refine take_ (i := 3) (N := some 84) (v := ?_) (a' := ?_) #[true, true, true, true, false, false] rfl rfl (by kernel_rfl) (fun _ _ _ h => h) (Or.inl ⟨by rfl, ?_⟩) hHeld ?_ ?_
                                                rotate_left
                                                · rintro w' ⟨s0, s1, s2, s3⟩
                                                  go_simp
                                                  with_reducible rfl
                                                rotate_left
                                                · simp only [Act.put, List.setIfInBounds_toArray, List.set_cons_zero, List.set_cons_succ, i64_w, i32_w]
                                                  rfl
                                                refine take_ (i := 4) (N := some 85) (v := ?_) (a' := ?_) #[true, true, true, true, true, false] rfl rfl (by kernel_rfl) (fun _ _ _ h => h) (Or.inl ⟨by rfl, ?_⟩) hHeld ?_ ?_
                                                rotate_left
                                                · rintro w' ⟨s0, s1, s2, s3⟩
                                                  go_simp
                                                  with_reducible rfl
                                                rotate_left
                                                · simp only [Act.put, List.setIfInBounds_toArray, List.set_cons_zero, List.set_cons_succ, i64_w, i32_w]
                                                  rfl
                                                refine pure_ (i := 5) (N := some 86) (v := ?_) (a' := ?_) #[true, true, true, true, true, true] rfl rfl (by kernel_rfl) (fun _ _ _ h => h) (Or.inl ⟨by rfl, ?_⟩) ?_ ?_
                                                rotate_left
                                                · intro w'
                                                  go_simp
                                                  with_reducible rfl
                                                rotate_left
                                                · simp only [Act.put, List.setIfInBounds_toArray, List.set_cons_zero, List.set_cons_succ, i64_w, i32_w]
                                                  rfl
                                                refine done_ (by kernel_rfl) ?_
                                                try go_wp2
                                                go_roundg k5
                                                case measure => have := HK1.out; have := HJ14.out; have := HK3.out; have := HJ27.out; have := HK5.out; omega
                                                case rel => exact ⟨(wrap64 (x10_5 + 1)), (wrap64 (x11_5 + 1)), (wrap64 (x70_5 + 1)), (by first | rfl | (simp; done) | (simp [*]; done)), (by first | rfl | (simp; done) | (simp [*]; done)), (by first | rfl | (simp; done) | (simp [*]; done)), H', ⟨by have := HK1.out; have := HJ14.out; have := HK3.out; have := HJ27.out; have := HK5.out; omega⟩, ⟨by (with_reducible repeat (first | apply Kd.R_alloc | apply Kd.R_drewN | apply Kd.R_drew)); exact HO_4.out⟩, ⟨by (with_reducible repeat (first | apply Kd.R_alloc | apply Kd.R_drewN | apply Kd.R_drew)); exact HO_50.out⟩, ⟨by (with_reducible repeat (first | refine blk_drewN ?_ _ | refine blk_drew ?_ | refine blk_alloc ?_ _)); exact BK666.out⟩, ⟨by repeat (first | (with_reducible first | exact HB.out | apply below_alloc | apply pw_below_drewN | apply below_drew1 | refine below_set ?_ GE666.out) | exact HB.out)⟩⟩
                                              · rw [if_neg c47] at H
                                                have c47b0 : (((rd_T34 t654 x70_5).f0) == ((rd_T34 t654 x52_3).f0) && (((rd_T34 t654 x70_5).f1) == ((rd_T34 t654 x52_3).f1))) = false := by simpa using c47
                                                (try (have c47b1 : decide (((rd_T34 t654 x70_5).f0) = ((rd_T34 t654 x52_3).f0) && (((rd_T34 t654 x70_5).f1) == ((rd_T34 t654 x52_3).f1))) = false := by simpa using c47))
                                                (try (have c47b2 : (((rd_T34 t654 x70_5).f0) == ((rd_T34 t654 x52_3).f0) && (((rd_T34 t654 x70_5).f1) == ((rd_T34 t654 x52_3).f1))) = false := by simpa using c47))
                                                (try (have c47b3 : ¬ (((rd_T34 t654 x70_5).f0) = ((rd_T34 t654 x52_3).f0) && (((rd_T34 t654 x70_5).f1) == ((rd_T34 t654 x52_3).f1))) := by simpa using c47))
                                                clear c47
                                                have H' := Aside0.mk H
                                                clear H
                                                try go_wp2
                                                have n0_ := Aside0.mk (Kd.R_drew HO_4.out)
                                                have n1_ := Aside0.mk (Kd.R_drew HO_50.out)
                                                have n2_ := Aside0.mk (blk_drew BK666.out)
                                                have n3_ := Aside0.mk (below_drew1 HB.out)
                                                clear HO_4
                                                clear HO_50
                                                clear BK666
                                                clear HB
                                                have HO_4 := n0_
                                                have HO_50 := n1_
                                                have BK666 := n2_
                                                have HB := n3_
                                                clear n0_ n1_ n2_ n3_
                                                have p669 : 0 ≤ (x70_5 : Int) := of_decide_eq_true (by first | (with_reducible assumption) | assumption)
                                                have q669 : x70_5 < (l0.length : Int) := of_decide_eq_true (by first | (with_reducible assumption) | assumption)
                                                obtain ⟨ad669, e669, hx669_0, hx669_1⟩ := at_T34 HR0.out x70_5 p669 q669
                                                have hw669_1 := hx669_1
                                                have hw669_0 := hx669_0
                                                cases e669
                                                replace hx669_0 := (HB.out.cell (World.block_lt_of_cell? w _ hx669_0)).trans hx669_0
                                                replace hx669_1 := (HB.out.cell (World.block_lt_of_cell? w _ hx669_1)).trans hx669_1
                                                replace p669 := eq_true p669
                                                replace q669 := eq_true q669
                                                refine start_ (n := 6) (S := fun w' => w'.cell? ⟨gb666, 0, none⟩ = some (.int .u64 ((rd_T34 t654 x52_3).f0)) ∧ w'.cell? ⟨gb666, 1, none⟩ = some (.int .u64 ((rd_T34 t654 x52_3).f1)) ∧ w'.cell? (ad669.add ((x70_5).toNat * 2)) = some (.int .u64 ((rd_T34 l0 x70_5).f0)) ∧ w'.cell? ⟨(ad669.add ((x70_5).toNat * 2)).block, (ad669.add ((x70_5).toNat * 2)).off + 1, none⟩ = some (.int .u64 ((rd_T34 l0 x70_5).f1))) (ds := []) #[false, false, false, false, false, false] (by kernel_rfl) rfl rfl ⟨(blk_cell BK666.out 0).trans rfl, (blk_cell BK666.out 1).trans rfl, ((HB.out.cell (World.block_lt_of_cell? w _ hw669_0)).trans hw669_0), ((HB.out.cell (World.block_lt_of_cell? w _ hw669_1)).trans hw669_1)⟩ (fun hHeld => ?_)
                                                generalize wr.drew = w50 at HO_4 HO_50 BK666 HB hx669_0 hx669_1 hHeld ⊢
                                                refine pure_ (i := 0) (N := some 73) (v := ?_) (a' := ?_) #[true, false, false, false, false, false] rfl rfl (by kernel_rfl) (fun _ _ _ h => h) (Or.inl ⟨by rfl, ?_⟩) ?_ ?_
                                                rotate_left
                                                · intro w'
                                                  go_simp
                                                  with_reducible rfl
                                                rotate_left
                                                · simp only [Act.put, List.setIfInBounds_toArray, List.set_cons_zero, List.set_cons_succ, i64_w, i32_w]
                                                  rfl
                                                refine pure_ (i := 1) (N := some 74) (v := ?_) (a' := ?_) #[true, true, false, false, false, false] rfl rfl (by kernel_rfl) (fun _ _ _ h => h) (Or.inl ⟨by rfl, ?_⟩) ?_ ?_
                                                rotate_left
                                                · intro w'
                                                  go_simp
                                                  with_reducible rfl
                                                rotate_left
                                                · simp only [Act.put, List.setIfInBounds_toArray, List.set_cons_zero, List.set_cons_succ, i64_w, i32_w]
                                                  rfl
                                                refine pure_ (i := 2) (N := some 75) (v := ?_) (a' := ?_) #[true, true, true, false, false, false] rfl rfl (by kernel_rfl) (fun _ _ _ h => h) (Or.inl ⟨by rfl, ?_⟩) ?_ ?_
                                                rotate_left
                                                · intro w'
                                                  go_simp
                                                  with_reducible rfl
                                                rotate_left
                                                · simp only [Act.put, List.setIfInBounds_toArray, List.set_cons_zero, List.set_cons_succ, i64_w, i32_w]
                                                  rfl
                                                refine take_ (i := 3) (N := some 76) (v := ?_) (a' := ?_) #[true, true, true, true, false, false] rfl rfl (by kernel_rfl) (fun _ _ _ h => h) (Or.inl ⟨by rfl, ?_⟩) hHeld ?_ ?_
                                                rotate_left
                                                · rintro w' ⟨s0, s1, s2, s3⟩
                                                  go_simp
                                                  with_reducible rfl
                                                rotate_left
                                                · simp only [Act.put, List.setIfInBounds_toArray, List.set_cons_zero, List.set_cons_succ, i64_w, i32_w]
                                                  rfl
                                                refine take_ (i := 4) (N := some 77) (v := ?_) (a' := ?_) #[true, true, true, true, true, false] rfl rfl (by kernel_rfl) (fun _ _ _ h => h) (Or.inl ⟨by rfl, ?_⟩) hHeld ?_ ?_
                                                rotate_left
                                                · rintro w' ⟨s0, s1, s2, s3⟩
                                                  go_simp
                                                  with_reducible rfl
                                                rotate_left
                                                · simp only [Act.put, List.setIfInBounds_toArray, List.set_cons_zero, List.set_cons_succ, i64_w, i32_w]
                                                  rfl
                                                refine pure_ (i := 5) (N := some 78) (v := ?_) (a' := ?_) #[true, true, true, true, true, true] rfl rfl (by kernel_rfl) (fun _ _ _ h => h) (Or.inl ⟨by rfl, ?_⟩) ?_ ?_
                                                rotate_left
                                                · intro w'
                                                  go_simp
                                                  with_reducible rfl
                                                rotate_left
                                                · simp only [Act.put, List.setIfInBounds_toArray, List.set_cons_zero, List.set_cons_succ, i64_w, i32_w]
                                                  rfl
                                                refine done_ (by kernel_rfl) ?_
                                                try go_wp2
                                                have n0_ := Aside0.mk (Kd.R_drew HO_4.out)
                                                have n1_ := Aside0.mk (Kd.R_drew HO_50.out)
                                                have n2_ := Aside0.mk (blk_drew BK666.out)
                                                have n3_ := Aside0.mk (below_drew1 HB.out)
                                                clear HO_4
                                                clear HO_50
                                                clear BK666
                                                clear HB
                                                have HO_4 := n0_
                                                have HO_50 := n1_
                                                have BK666 := n2_
                                                have HB := n3_
                                                clear n0_ n1_ n2_ n3_
                                                have p670 : 0 ≤ (x70_5 : Int) := of_decide_eq_true (by first | (with_reducible assumption) | assumption)
                                                have q670 : x70_5 < (t654.length : Int) := of_decide_eq_true (by first | (with_reducible assumption) | assumption)
                                                obtain ⟨ad670, e670, hx670_0, hx670_1⟩ := at_T34 (Kd.R_reads' HO_4.out).2.2 x70_5 p670 q670
                                                obtain rfl : ad665 = ad670 := (by injection e670)
                                                replace p670 := eq_true p670
                                                replace q670 := eq_true q670
                                                refine start_ (n := 6) (S := fun w' => w'.cell? ⟨gb666, 0, none⟩ = some (.int .u64 ((rd_T34 t654 x52_3).f0)) ∧ w'.cell? ⟨gb666, 1, none⟩ = some (.int .u64 ((rd_T34 t654 x52_3).f1)) ∧ w'.cell? (ad665.add ((x70_5).toNat * 2)) = some (.int .u64 ((rd_T34 t654 x70_5).f0)) ∧ w'.cell? ⟨(ad665.add ((x70_5).toNat * 2)).block, (ad665.add ((x70_5).toNat * 2)).off + 1, none⟩ = some (.int .u64 ((rd_T34 t654 x70_5).f1))) (ds := []) #[false, false, false, false, false, false] (by kernel_rfl) rfl rfl ⟨(blk_cell BK666.out 0).trans rfl, (blk_cell BK666.out 1).trans rfl, hx670_0, hx670_1⟩ (fun hHeld => ?_)
                                                generalize w50.drew = w51 at HO_4 HO_50 BK666 HB hx670_0 hx670_1 hHeld ⊢
                                                refine pure_ (i := 0) (N := some 81) (v := ?_) (a' := ?_) #[true, false, false, false, false, false] rfl rfl (by kernel_rfl) (fun _ _ _ h => h) (Or.inl ⟨by rfl, ?_⟩) ?_ ?_
                                                rotate_left
                                                · intro w'
                                                  go_simp
                                                  with_reducible rfl
                                                rotate_left
                                                · simp only [Act.put, List.setIfInBounds_toArray, List.set_cons_zero, List.set_cons_succ, i64_w, i32_w]
                                                  rfl
                                                refine pure_ (i := 1) (N := some 82) (v := ?_) (a' := ?_) #[true, true, false, false, false, false] rfl rfl (by kernel_rfl) (fun _ _ _ h => h) (Or.inl ⟨by rfl, ?_⟩) ?_ ?_
                                                rotate_left
                                                · intro w'
                                                  go_simp
                                                  with_reducible rfl
                                                rotate_left
                                                · simp only [Act.put, List.setIfInBounds_toArray, List.set_cons_zero, List.set_cons_succ, i64_w, i32_w]
                                                  rfl
                                                refine pure_ (i := 2) (N := some 83) (v := ?_) (a' := ?_) #[true, true, true, false, false, false] rfl rfl (by kernel_rfl) (fun _ _ _ h => h) (Or.inl ⟨by rfl, ?_⟩) ?_ ?_
                                                rotate_left
                                                · intro w'
                                                  go_simp
                                                  with_reducible rfl
                                                rotate_left
                                                · simp only [Act.put, List.setIfInBounds_toArray, List.set_cons_zero, List.set_cons_succ, i64_w, i32_w]
                                                  rfl
                                                refine take_ (i := 3) (N := some 84) (v := ?_) (a' := ?_) #[true, true, true, true, false, false] rfl rfl (by kernel_rfl) (fun _ _ _ h => h) (Or.inl ⟨by rfl, ?_⟩) hHeld ?_ ?_
                                                rotate_left
                                                · rintro w' ⟨s0, s1, s2, s3⟩
                                                  go_simp
                                                  with_reducible rfl
                                                rotate_left
                                                · simp only [Act.put, List.setIfInBounds_toArray, List.set_cons_zero, List.set_cons_succ, i64_w, i32_w]
                                                  rfl
                                                refine take_ (i := 4) (N := some 85) (v := ?_) (a' := ?_) #[true, true, true, true, true, false] rfl rfl (by kernel_rfl) (fun _ _ _ h => h) (Or.inl ⟨by rfl, ?_⟩) hHeld ?_ ?_
                                                rotate_left
                                                · rintro w' ⟨s0, s1, s2, s3⟩
                                                  go_simp
                                                  with_reducible rfl
                                                rotate_left
                                                · simp only [Act.put, List.setIfInBounds_toArray, List.set_cons_zero, List.set_cons_succ, i64_w, i32_w]
                                                  rfl
                                                refine pure_ (i := 5) (N := some 86) (v := ?_) (a' := ?_) #[true, true, true, true, true, true] rfl rfl (by kernel_rfl) (fun _ _ _ h => h) (Or.inl ⟨by rfl, ?_⟩) ?_ ?_
                                                rotate_left
                                                · intro w'
                                                  go_simp
                                                  with_reducible rfl
                                                rotate_left
                                                · simp only [Act.put, List.setIfInBounds_toArray, List.set_cons_zero, List.set_cons_succ, i64_w, i32_w]
                                                  rfl
                                                refine done_ (by kernel_rfl) ?_
                                                try go_wp2
                                                go_roundg k5
                                                case measure => have := HK1.out; have := HJ14.out; have := HK3.out; have := HJ27.out; have := HK5.out; omega
                                                case rel => exact ⟨(wrap64 (x10_5 + 1)), (x11_5), (wrap64 (x70_5 + 1)), (by first | rfl | (simp; done) | (simp [*]; done)), (by first | rfl | (simp; done) | (simp [*]; done)), (by first | rfl | (simp; done) | (simp [*]; done)), H', ⟨by have := HK1.out; have := HJ14.out; have := HK3.out; have := HJ27.out; have := HK5.out; omega⟩, ⟨by (with_reducible repeat (first | apply Kd.R_alloc | apply Kd.R_drewN | apply Kd.R_drew)); exact HO_4.out⟩, ⟨by (with_reducible repeat (first | apply Kd.R_alloc | apply Kd.R_drewN | apply Kd.R_drew)); exact HO_50.out⟩, ⟨by (with_reducible repeat (first | refine blk_drewN ?_ _ | refine blk_drew ?_ | refine blk_alloc ?_ _)); exact BK666.out⟩, ⟨by repeat (first | (with_reducible first | exact HB.out | apply below_alloc | apply pw_below_drewN | apply below_drew1 | refine below_set ?_ GE666.out) | exact HB.out)⟩⟩
                                            · rw [if_neg c46] at H
                                              exact absurd H (by simp)
                                          · rw [if_neg c45] at H
                                            have c45b0 : (((rd_T34 l0 x70_5).f0) == ((rd_T34 t654 x52_3).f0) && (((rd_T34 l0 x70_5).f1) == ((rd_T34 t654 x52_3).f1))) = false := by simpa using c45
                                            (try (have c45b1 : decide (((rd_T34 l0 x70_5).f0) = ((rd_T34 t654 x52_3).f0) && (((rd_T34 l0 x70_5).f1) == ((rd_T34 t654 x52_3).f1))) = false := by simpa using c45))
                                            (try (have c45b2 : (((rd_T34 l0 x70_5).f0) == ((rd_T34 t654 x52_3).f0) && (((rd_T34 l0 x70_5).f1) == ((rd_T34 t654 x52_3).f1))) = false := by simpa using c45))
                                            (try (have c45b3 : ¬ (((rd_T34 l0 x70_5).f0) = ((rd_T34 t654 x52_3).f0) && (((rd_T34 l0 x70_5).f1) == ((rd_T34 t654 x52_3).f1))) := by simpa using c45))
                                            clear c45
                                            by_cases c52 : x70_5 < (t654.length : Int)
                                            · rw [if_pos c52] at H
                                              have c52b0 : decide (x70_5 < (t654.length : Int)) = true := decide_eq_true c52
                                              clear c52
                                              by_cases c53 : (((rd_T34 t654 x70_5).f0) == ((rd_T34 t654 x52_3).f0) && (((rd_T34 t654 x70_5).f1) == ((rd_T34 t654 x52_3).f1))) = true
                                              · rw [if_pos c53] at H
                                                have c53b0 : (((rd_T34 t654 x70_5).f0) == ((rd_T34 t654 x52_3).f0) && (((rd_T34 t654 x70_5).f1) == ((rd_T34 t654 x52_3).f1))) = true := c53
                                                (try (have c53b1 : decide (((rd_T34 t654 x70_5).f0) = ((rd_T34 t654 x52_3).f0) && (((rd_T34 t654 x70_5).f1) == ((rd_T34 t654 x52_3).f1))) = true := by simpa using c53))
                                                (try (have c53b2 : (((rd_T34 t654 x70_5).f0) == ((rd_T34 t654 x52_3).f0) && (((rd_T34 t654 x70_5).f1) == ((rd_T34 t654 x52_3).f1))) = true := by simpa using c53))
                                                clear c53
                                                have H' := Aside0.mk H
                                                clear H
                                                try go_wp2
                                                have n0_ := Aside0.mk (Kd.R_drew HO_4.out)
                                                have n1_ := Aside0.mk (Kd.R_drew HO_50.out)
                                                have n2_ := Aside0.mk (blk_drew BK666.out)
                                                have n3_ := Aside0.mk (below_drew1 HB.out)
                                                clear HO_4
                                                clear HO_50
                                                clear BK666
                                                clear HB
                                                have HO_4 := n0_
                                                have HO_50 := n1_
                                                have BK666 := n2_
                                                have HB := n3_
                                                clear n0_ n1_ n2_ n3_
                                                have p669 : 0 ≤ (x70_5 : Int) := of_decide_eq_true (by first | (with_reducible assumption) | assumption)
                                                have q669 : x70_5 < (l0.length : Int) := of_decide_eq_true (by first | (with_reducible assumption) | assumption)
                                                obtain ⟨ad669, e669, hx669_0, hx669_1⟩ := at_T34 HR0.out x70_5 p669 q669
                                                have hw669_1 := hx669_1
                                                have hw669_0 := hx669_0
                                                cases e669
                                                replace hx669_0 := (HB.out.cell (World.block_lt_of_cell? w _ hx669_0)).trans hx669_0
                                                replace hx669_1 := (HB.out.cell (World.block_lt_of_cell? w _ hx669_1)).trans hx669_1
                                                replace p669 := eq_true p669
                                                replace q669 := eq_true q669
                                                refine start_ (n := 6) (S := fun w' => w'.cell? ⟨gb666, 0, none⟩ = some (.int .u64 ((rd_T34 t654 x52_3).f0)) ∧ w'.cell? ⟨gb666, 1, none⟩ = some (.int .u64 ((rd_T34 t654 x52_3).f1)) ∧ w'.cell? (ad669.add ((x70_5).toNat * 2)) = some (.int .u64 ((rd_T34 l0 x70_5).f0)) ∧ w'.cell? ⟨(ad669.add ((x70_5).toNat * 2)).block, (ad669.add ((x70_5).toNat * 2)).off + 1, none⟩ = some (.int .u64 ((rd_T34 l0 x70_5).f1))) (ds := []) #[false, false, false, false, false, false] (by kernel_rfl) rfl rfl ⟨(blk_cell BK666.out 0).trans rfl, (blk_cell BK666.out 1).trans rfl, ((HB.out.cell (World.block_lt_of_cell? w _ hw669_0)).trans hw669_0), ((HB.out.cell (World.block_lt_of_cell? w _ hw669_1)).trans hw669_1)⟩ (fun hHeld => ?_)
                                                generalize wr.drew = w54 at HO_4 HO_50 BK666 HB hx669_0 hx669_1 hHeld ⊢
                                                refine pure_ (i := 0) (N := some 73) (v := ?_) (a' := ?_) #[true, false, false, false, false, false] rfl rfl (by kernel_rfl) (fun _ _ _ h => h) (Or.inl ⟨by rfl, ?_⟩) ?_ ?_
                                                rotate_left
                                                · intro w'
                                                  go_simp
                                                  with_reducible rfl
                                                rotate_left
                                                · simp only [Act.put, List.setIfInBounds_toArray, List.set_cons_zero, List.set_cons_succ, i64_w, i32_w]
                                                  rfl
                                                refine pure_ (i := 1) (N := some 74) (v := ?_) (a' := ?_) #[true, true, false, false, false, false] rfl rfl (by kernel_rfl) (fun _ _ _ h => h) (Or.inl ⟨by rfl, ?_⟩) ?_ ?_
                                                rotate_left
                                                · intro w'
                                                  go_simp
                                                  with_reducible rfl
                                                rotate_left
                                                · simp only [Act.put, List.setIfInBounds_toArray, List.set_cons_zero, List.set_cons_succ, i64_w, i32_w]
                                                  rfl
                                                refine pure_ (i := 2) (N := some 75) (v := ?_) (a' := ?_) #[true, true, true, false, false, false] rfl rfl (by kernel_rfl) (fun _ _ _ h => h) (Or.inl ⟨by rfl, ?_⟩) ?_ ?_
                                                rotate_left
                                                · intro w'
                                                  go_simp
                                                  with_reducible rfl
                                                rotate_left
                                                · simp only [Act.put, List.setIfInBounds_toArray, List.set_cons_zero, List.set_cons_succ, i64_w, i32_w]
                                                  rfl
                                                refine take_ (i := 3) (N := some 76) (v := ?_) (a' := ?_) #[true, true, true, true, false, false] rfl rfl (by kernel_rfl) (fun _ _ _ h => h) (Or.inl ⟨by rfl, ?_⟩) hHeld ?_ ?_
                                                rotate_left
                                                · rintro w' ⟨s0, s1, s2, s3⟩
                                                  go_simp
                                                  with_reducible rfl
                                                rotate_left
                                                · simp only [Act.put, List.setIfInBounds_toArray, List.set_cons_zero, List.set_cons_succ, i64_w, i32_w]
                                                  rfl
                                                refine take_ (i := 4) (N := some 77) (v := ?_) (a' := ?_) #[true, true, true, true, true, false] rfl rfl (by kernel_rfl) (fun _ _ _ h => h) (Or.inl ⟨by rfl, ?_⟩) hHeld ?_ ?_
                                                rotate_left
                                                · rintro w' ⟨s0, s1, s2, s3⟩
                                                  go_simp
                                                  with_reducible rfl
                                                rotate_left
                                                · simp only [Act.put, List.setIfInBounds_toArray, List.set_cons_zero, List.set_cons_succ, i64_w, i32_w]
                                                  rfl
                                                refine pure_ (i := 5) (N := some 78) (v := ?_) (a' := ?_) #[true, true, true, true, true, true] rfl rfl (by kernel_rfl) (fun _ _ _ h => h) (Or.inl ⟨by rfl, ?_⟩) ?_ ?_
                                                rotate_left
                                                · intro w'
                                                  go_simp
                                                  with_reducible rfl
                                                rotate_left
                                                · simp only [Act.put, List.setIfInBounds_toArray, List.set_cons_zero, List.set_cons_succ, i64_w, i32_w]
                                                  rfl
                                                refine done_ (by kernel_rfl) ?_
                                                try go_wp2
                                                have n0_ := Aside0.mk (Kd.R_drew HO_4.out)
                                                have n1_ := Aside0.mk (Kd.R_drew HO_50.out)
                                                have n2_ := Aside0.mk (blk_drew BK666.out)
                                                have n3_ := Aside0.mk (below_drew1 HB.out)
                                                clear HO_4
                                                clear HO_50
                                                clear BK666
                                                clear HB
                                                have HO_4 := n0_
                                                have HO_50 := n1_
                                                have BK666 := n2_
                                                have HB := n3_
                                                clear n0_ n1_ n2_ n3_
                                                have p671 : 0 ≤ (x70_5 : Int) := of_decide_eq_true (by first | (with_reducible assumption) | assumption)
                                                have q671 : x70_5 < (t654.length : Int) := of_decide_eq_true (by first | (with_reducible assumption) | assumption)
                                                obtain ⟨ad671, e671, hx671_0, hx671_1⟩ := at_T34 (Kd.R_reads' HO_4.out).2.2 x70_5 p671 q671
                                                obtain rfl : ad665 = ad671 := (by injection e671)
                                                replace p671 := eq_true p671
                                                replace q671 := eq_true q671
                                                refine start_ (n := 6) (S := fun w' => w'.cell? ⟨gb666, 0, none⟩ = some (.int .u64 ((rd_T34 t654 x52_3).f0)) ∧ w'.cell? ⟨gb666, 1, none⟩ = some (.int .u64 ((rd_T34 t654 x52_3).f1)) ∧ w'.cell? (ad665.add ((x70_5).toNat * 2)) = some (.int .u64 ((rd_T34 t654 x70_5).f0)) ∧ w'.cell? ⟨(ad665.add ((x70_5).toNat * 2)).block, (ad665.add ((x70_5).toNat * 2)).off + 1, none⟩ = some (.int .u64 ((rd_T34 t654 x70_5).f1))) (ds := []) #[false, false, false, false, false, false] (by kernel_rfl) rfl rfl ⟨(blk_cell BK666.out 0).trans rfl, (blk_cell BK666.out 1).trans rfl, hx671_0, hx671_1⟩ (fun hHeld => ?_)
                                                generalize w54.drew = w55 at HO_4 HO_50 BK666 HB hx671_0 hx671_1 hHeld ⊢
                                                refine pure_ (i := 0) (N := some 81) (v := ?_) (a' := ?_) #[true, false, false, false, false, false] rfl rfl (by kernel_rfl) (fun _ _ _ h => h) (Or.inl ⟨by rfl, ?_⟩) ?_ ?_
                                                rotate_left
                                                · intro w'
                                                  go_simp
                                                  with_reducible rfl
                                                rotate_left
                                                · simp only [Act.put, List.setIfInBounds_toArray, List.set_cons_zero, List.set_cons_succ, i64_w, i32_w]
                                                  rfl
                                                refine pure_ (i := 1) (N := some 82) (v := ?_) (a' := ?_) #[true, true, false, false, false, false] rfl rfl (by kernel_rfl) (fun _ _ _ h => h) (Or.inl ⟨by rfl, ?_⟩) ?_ ?_
                                                rotate_left
                                                · intro w'
                                                  go_simp
                                                  with_reducible rfl
                                                rotate_left
                                                · simp only [Act.put, List.setIfInBounds_toArray, List.set_cons_zero, List.set_cons_succ, i64_w, i32_w]
                                                  rfl
                                                refine pure_ (i := 2) (N := some 83) (v := ?_) (a' := ?_) #[true, true, true, false, false, false] rfl rfl (by kernel_rfl) (fun _ _ _ h => h) (Or.inl ⟨by rfl, ?_⟩) ?_ ?_
                                                rotate_left
                                                · intro w'
                                                  go_simp
                                                  with_reducible rfl
                                                rotate_left
                                                · simp only [Act.put, List.setIfInBounds_toArray, List.set_cons_zero, List.set_cons_succ, i64_w, i32_w]
                                                  rfl
                                                refine take_ (i := 3) (N := some 84) (v := ?_) (a' := ?_) #[true, true, true, true, false, false] rfl rfl (by kernel_rfl) (fun _ _ _ h => h) (Or.inl ⟨by rfl, ?_⟩) hHeld ?_ ?_
                                                rotate_left
                                                · rintro w' ⟨s0, s1, s2, s3⟩
                                                  go_simp
                                                  with_reducible rfl
                                                rotate_left
                                                · simp only [Act.put, List.setIfInBounds_toArray, List.set_cons_zero, List.set_cons_succ, i64_w, i32_w]
                                                  rfl
                                                refine take_ (i := 4) (N := some 85) (v := ?_) (a' := ?_) #[true, true, true, true, true, false] rfl rfl (by kernel_rfl) (fun _ _ _ h => h) (Or.inl ⟨by rfl, ?_⟩) hHeld ?_ ?_
                                                rotate_left
                                                · rintro w' ⟨s0, s1, s2, s3⟩
                                                  go_simp
                                                  with_reducible rfl
                                                rotate_left
                                                · simp only [Act.put, List.setIfInBounds_toArray, List.set_cons_zero, List.set_cons_succ, i64_w, i32_w]
                                                  rfl
                                                refine pure_ (i := 5) (N := some 86) (v := ?_) (a' := ?_) #[true, true, true, true, true, true] rfl rfl (by kernel_rfl) (fun _ _ _ h => h) (Or.inl ⟨by rfl, ?_⟩) ?_ ?_
                                                rotate_left
                                                · intro w'
                                                  go_simp
                                                  with_reducible rfl
                                                rotate_left
                                                · simp only [Act.put, List.setIfInBounds_toArray, List.set_cons_zero, List.set_cons_succ, i64_w, i32_w]
                                                  rfl
                                                refine done_ (by kernel_rfl) ?_
                                                try go_wp2
                                                go_roundg k5
                                                case measure => have := HK1.out; have := HJ14.out; have := HK3.out; have := HJ27.out; have := HK5.out; omega
                                                case rel => exact ⟨(x10_5), (wrap64 (x11_5 + 1)), (wrap64 (x70_5 + 1)), (by first | rfl | (simp; done) | (simp [*]; done)), (by first | rfl | (simp; done) | (simp [*]; done)), (by first | rfl | (simp; done) | (simp [*]; done)), H', ⟨by have := HK1.out; have := HJ14.out; have := HK3.out; have := HJ27.out; have := HK5.out; omega⟩, ⟨by (with_reducible repeat (first | apply Kd.R_alloc | apply Kd.R_drewN | apply Kd.R_drew)); exact HO_4.out⟩, ⟨by (with_reducible repeat (first | apply Kd.R_alloc | apply Kd.R_drewN | apply Kd.R_drew)); exact HO_50.out⟩, ⟨by (with_reducible repeat (first | refine blk_drewN ?_ _ | refine blk_drew ?_ | refine blk_alloc ?_ _)); exact BK666.out⟩, ⟨by repeat (first | (with_reducible first | exact HB.out | apply below_alloc | apply pw_below_drewN | apply below_drew1 | refine below_set ?_ GE666.out) | exact HB.out)⟩⟩
                                              · rw [if_neg c53] at H
                                                have c53b0 : (((rd_T34 t654 x70_5).f0) == ((rd_T34 t654 x52_3).f0) && (((rd_T34 t654 x70_5).f1) == ((rd_T34 t654 x52_3).f1))) = false := by simpa using c53
                                                (try (have c53b1 : decide (((rd_T34 t654 x70_5).f0) = ((rd_T34 t654 x52_3).f0) && (((rd_T34 t654 x70_5).f1) == ((rd_T34 t654 x52_3).f1))) = false := by simpa using c53))
                                                (try (have c53b2 : (((rd_T34 t654 x70_5).f0) == ((rd_T34 t654 x52_3).f0) && (((rd_T34 t654 x70_5).f1) == ((rd_T34 t654 x52_3).f1))) = false := by simpa using c53))
                                                (try (have c53b3 : ¬ (((rd_T34 t654 x70_5).f0) = ((rd_T34 t654 x52_3).f0) && (((rd_T34 t654 x70_5).f1) == ((rd_T34 t654 x52_3).f1))) := by simpa using c53))
                                                clear c53
                                                have H' := Aside0.mk H
                                                clear H
                                                try go_wp2
                                                have n0_ := Aside0.mk (Kd.R_drew HO_4.out)
                                                have n1_ := Aside0.mk (Kd.R_drew HO_50.out)
                                                have n2_ := Aside0.mk (blk_drew BK666.out)
                                                have n3_ := Aside0.mk (below_drew1 HB.out)
                                                clear HO_4
                                                clear HO_50
                                                clear BK666
                                                clear HB
                                                have HO_4 := n0_
                                                have HO_50 := n1_
                                                have BK666 := n2_
                                                have HB := n3_
                                                clear n0_ n1_ n2_ n3_
                                                have p669 : 0 ≤ (x70_5 : Int) := of_decide_eq_true (by first | (with_reducible assumption) | assumption)
                                                have q669 : x70_5 < (l0.length : Int) := of_decide_eq_true (by first | (with_reducible assumption) | assumption)
                                                obtain ⟨ad669, e669, hx669_0, hx669_1⟩ := at_T34 HR0.out x70_5 p669 q669
                                                have hw669_1 := hx669_1
                                                have hw669_0 := hx669_0
                                                cases e669
                                                replace hx669_0 := (HB.out.cell (World.block_lt_of_cell? w _ hx669_0)).trans hx669_0
                                                replace hx669_1 := (HB.out.cell (World.block_lt_of_cell? w _ hx669_1)).trans hx669_1
                                                replace p669 := eq_true p669
                                                replace q669 := eq_true q669
                                                refine start_ (n := 6) (S := fun w' => w'.cell? ⟨gb666, 0, none⟩ = some (.int .u64 ((rd_T34 t654 x52_3).f0)) ∧ w'.cell? ⟨gb666, 1, none⟩ = some (.int .u64 ((rd_T34 t654 x52_3).f1)) ∧ w'.cell? (ad669.add ((x70_5).toNat * 2)) = some (.int .u64 ((rd_T34 l0 x70_5).f0)) ∧ w'.cell? ⟨(ad669.add ((x70_5).toNat * 2)).block, (ad669.add ((x70_5).toNat * 2)).off + 1, none⟩ = some (.int .u64 ((rd_T34 l0 x70_5).f1))) (ds := []) #[false, false, false, false, false, false] (by kernel_rfl) rfl rfl ⟨(blk_cell BK666.out 0).trans rfl, (blk_cell BK666.out 1).trans rfl, ((HB.out.cell (World.block_lt_of_cell? w _ hw669_0)).trans hw669_0), ((HB.out.cell (World.block_lt_of_cell? w _ hw669_1)).trans hw669_1)⟩ (fun hHeld => ?_)
                                                generalize wr.drew = w56 at HO_4 HO_50 BK666 HB hx669_0 hx669_1 hHeld ⊢
                                                refine pure_ (i := 0) (N := some 73) (v := ?_) (a' := ?_) #[true, false, false, false, false, false] rfl rfl (by kernel_rfl) (fun _ _ _ h => h) (Or.inl ⟨by rfl, ?_⟩) ?_ ?_
                                                rotate_left
                                                · intro w'
                                                  go_simp
                                                  with_reducible rfl
                                                rotate_left
                                                · simp only [Act.put, List.setIfInBounds_toArray, List.set_cons_zero, List.set_cons_succ, i64_w, i32_w]
                                                  rfl
                                                refine pure_ (i := 1) (N := some 74) (v := ?_) (a' := ?_) #[true, true, false, false, false, false] rfl rfl (by kernel_rfl) (fun _ _ _ h => h) (Or.inl ⟨by rfl, ?_⟩) ?_ ?_
                                                rotate_left
                                                · intro w'
                                                  go_simp
                                                  with_reducible rfl
                                                rotate_left
                                                · simp only [Act.put, List.setIfInBounds_toArray, List.set_cons_zero, List.set_cons_succ, i64_w, i32_w]
                                                  rfl
                                                refine pure_ (i := 2) (N := some 75) (v := ?_) (a' := ?_) #[true, true, true, false, false, false] rfl rfl (by kernel_rfl) (fun _ _ _ h => h) (Or.inl ⟨by rfl, ?_⟩) ?_ ?_
                                                rotate_left
                                                · intro w'
                                                  go_simp
                                                  with_reducible rfl
                                                rotate_left
                                                · simp only [Act.put, List.setIfInBounds_toArray, List.set_cons_zero, List.set_cons_succ, i64_w, i32_w]
                                                  rfl
                                                refine take_ (i := 3) (N := some 76) (v := ?_) (a' := ?_) #[true, true, true, true, false, false] rfl rfl (by kernel_rfl) (fun _ _ _ h => h) (Or.inl ⟨by rfl, ?_⟩) hHeld ?_ ?_
                                                rotate_left
                                                · rintro w' ⟨s0, s1, s2, s3⟩
                                                  go_simp
                                                  with_reducible rfl
                                                rotate_left
                                                · simp only [Act.put, List.setIfInBounds_toArray, List.set_cons_zero, List.set_cons_succ, i64_w, i32_w]
                                                  rfl
                                                refine take_ (i := 4) (N := some 77) (v := ?_) (a' := ?_) #[true, true, true, true, true, false] rfl rfl (by kernel_rfl) (fun _ _ _ h => h) (Or.inl ⟨by rfl, ?_⟩) hHeld ?_ ?_
                                                rotate_left
                                                · rintro w' ⟨s0, s1, s2, s3⟩
                                                  go_simp
                                                  with_reducible rfl
                                                rotate_left
                                                · simp only [Act.put, List.setIfInBounds_toArray, List.set_cons_zero, List.set_cons_succ, i64_w, i32_w]
                                                  rfl
                                                refine pure_ (i := 5) (N := some 78) (v := ?_) (a' := ?_) #[true, true, true, true, true, true] rfl rfl (by kernel_rfl) (fun _ _ _ h => h) (Or.inl ⟨by rfl, ?_⟩) ?_ ?_
                                                rotate_left
                                                · intro w'
                                                  go_simp
                                                  with_reducible rfl
                                                rotate_left
                                                · simp only [Act.put, List.setIfInBounds_toArray, List.set_cons_zero, List.set_cons_succ, i64_w, i32_w]
                                                  rfl
                                                refine done_ (by kernel_rfl) ?_
                                                try go_wp2
                                                have n0_ := Aside0.mk (Kd.R_drew HO_4.out)
                                                have n1_ := Aside0.mk (Kd.R_drew HO_50.out)
                                                have n2_ := Aside0.mk (blk_drew BK666.out)
                                                have n3_ := Aside0.mk (below_drew1 HB.out)
                                                clear HO_4
                                                clear HO_50
                                                clear BK666
                                                clear HB
                                                have HO_4 := n0_
                                                have HO_50 := n1_
                                                have BK666 := n2_
                                                have HB := n3_
                                                clear n0_ n1_ n2_ n3_
                                                have p671 : 0 ≤ (x70_5 : Int) := of_decide_eq_true (by first | (with_reducible assumption) | assumption)
                                                have q671 : x70_5 < (t654.length : Int) := of_decide_eq_true (by first | (with_reducible assumption) | assumption)
                                                obtain ⟨ad671, e671, hx671_0, hx671_1⟩ := at_T34 (Kd.R_reads' HO_4.out).2.2 x70_5 p671 q671
                                                obtain rfl : ad665 = ad671 := (by injection e671)
                                                replace p671 := eq_true p671
                                                replace q671 := eq_true q671
                                                refine start_ (n := 6) (S := fun w' => w'.cell? ⟨gb666, 0, none⟩ = some (.int .u64 ((rd_T34 t654 x52_3).f0)) ∧ w'.cell? ⟨gb666, 1, none⟩ = some (.int .u64 ((rd_T34 t654 x52_3).f1)) ∧ w'.cell? (ad665.add ((x70_5).toNat * 2)) = some (.int .u64 ((rd_T34 t654 x70_5).f0)) ∧ w'.cell? ⟨(ad665.add ((x70_5).toNat * 2)).block, (ad665.add ((x70_5).toNat * 2)).off + 1, none⟩ = some (.int .u64 ((rd_T34 t654 x70_5).f1))) (ds := []) #[false, false, false, false, false, false] (by kernel_rfl) rfl rfl ⟨(blk_cell BK666.out 0).trans rfl, (blk_cell BK666.out 1).trans rfl, hx671_0, hx671_1⟩ (fun hHeld => ?_)
                                                generalize w56.drew = w57 at HO_4 HO_50 BK666 HB hx671_0 hx671_1 hHeld ⊢
                                                refine pure_ (i := 0) (N := some 81) (v := ?_) (a' := ?_) #[true, false, false, false, false, false] rfl rfl (by kernel_rfl) (fun _ _ _ h => h) (Or.inl ⟨by rfl, ?_⟩) ?_ ?_
                                                rotate_left
                                                · intro w'
                                                  go_simp
                                                  with_reducible rfl
                                                rotate_left
                                                · simp only [Act.put, List.setIfInBounds_toArray, List.set_cons_zero, List.set_cons_succ, i64_w, i32_w]
                                                  rfl
                                                refine pure_ (i := 1) (N := some 82) (v := ?_) (a' := ?_) #[true, true, false, false, false, false] rfl rfl (by kernel_rfl) (fun _ _ _ h => h) (Or.inl ⟨by rfl, ?_⟩) ?_ ?_
                                                rotate_left
                                                · intro w'
                                                  go_simp
                                                  with_reducible rfl
                                                rotate_left
                                                · simp only [Act.put, List.setIfInBounds_toArray, List.set_cons_zero, List.set_cons_succ, i64_w, i32_w]
                                                  rfl
                                                refine pure_ (i := 2) (N := some 83) (v := ?_) (a' := ?_) #[true, true, true, false, false, false] rfl rfl (by kernel_rfl) (fun _ _ _ h => h) (Or.inl ⟨by rfl, ?_⟩) ?_ ?_
                                                rotate_left
                                                · intro w'
                                                  go_simp
                                                  with_reducible rfl
                                                rotate_left
                                                · simp only [Act.put, List.setIfInBounds_toArray, List.set_cons_zero, List.set_cons_succ, i64_w, i32_w]
                                                  rfl
                                                refine take_ (i := 3) (N := some 84) (v := ?_) (a' := ?_) #[true, true, true, true, false, false] rfl rfl (by kernel_rfl) (fun _ _ _ h => h) (Or.inl ⟨by rfl, ?_⟩) hHeld ?_ ?_
                                                rotate_left
                                                · rintro w' ⟨s0, s1, s2, s3⟩
                                                  go_simp
                                                  with_reducible rfl
                                                rotate_left
                                                · simp only [Act.put, List.setIfInBounds_toArray, List.set_cons_zero, List.set_cons_succ, i64_w, i32_w]
                                                  rfl
                                                refine take_ (i := 4) (N := some 85) (v := ?_) (a' := ?_) #[true, true, true, true, true, false] rfl rfl (by kernel_rfl) (fun _ _ _ h => h) (Or.inl ⟨by rfl, ?_⟩) hHeld ?_ ?_
                                                rotate_left
                                                · rintro w' ⟨s0, s1, s2, s3⟩
                                                  go_simp
                                                  with_reducible rfl
                                                rotate_left
                                                · simp only [Act.put, List.setIfInBounds_toArray, List.set_cons_zero, List.set_cons_succ, i64_w, i32_w]
                                                  rfl
                                                refine pure_ (i := 5) (N := some 86) (v := ?_) (a' := ?_) #[true, true, true, true, true, true] rfl rfl (by kernel_rfl) (fun _ _ _ h => h) (Or.inl ⟨by rfl, ?_⟩) ?_ ?_
                                                rotate_left
                                                · intro w'
                                                  go_simp
                                                  with_reducible rfl
                                                rotate_left
                                                · simp only [Act.put, List.setIfInBounds_toArray, List.set_cons_zero, List.set_cons_succ, i64_w, i32_w]
                                                  rfl
                                                refine done_ (by kernel_rfl) ?_
                                                try go_wp2
                                                go_roundg k5
                                                case measure => have := HK1.out; have := HJ14.out; have := HK3.out; have := HJ27.out; have := HK5.out; omega
                                                case rel => exact ⟨(x10_5), (x11_5), (wrap64 (x70_5 + 1)), (by first | rfl | (simp; done) | (simp [*]; done)), (by first | rfl | (simp; done) | (simp [*]; done)), (by first | rfl | (simp; done) | (simp [*]; done)), H', ⟨by have := HK1.out; have := HJ14.out; have := HK3.out; have := HJ27.out; have := HK5.out; omega⟩, ⟨by (with_reducible repeat (first | apply Kd.R_alloc | apply Kd.R_drewN | apply Kd.R_drew)); exact HO_4.out⟩, ⟨by (with_reducible repeat (first | apply Kd.R_alloc | apply Kd.R_drewN | apply Kd.R_drew)); exact HO_50.out⟩, ⟨by (with_reducible repeat (first | refine blk_drewN ?_ _ | refine blk_drew ?_ | refine blk_alloc ?_ _)); exact BK666.out⟩, ⟨by repeat (first | (with_reducible first | exact HB.out | apply below_alloc | apply pw_below_drewN | apply below_drew1 | refine below_set ?_ GE666.out) | exact HB.out)⟩⟩
                                            · rw [if_neg c52] at H
                                              exact absurd H (by simp)
                                        · rw [if_neg c44] at H
                                          exact absurd H (by simp)
                                      · rw [if_neg c43] at H
                                        exact absurd H (by simp)
                                    · rw [if_neg c42] at H
                                      have c42b0 : decide (x70_5 < (l0.length : Int)) = false := decide_eq_false c42
                                      clear c42
                                      by_cases c58 : x10_5 = x11_5
                                      · rw [if_pos c58] at H
                                        have c58b0 : (x10_5 == x11_5) = true := beq_iff_eq.mpr c58
                                        have c58b1 : (x10_5 != x11_5) = false := bne_eq_false_iff_eq.mpr c58
                                        clear c58
                                        have H' := Aside0.mk H
                                        clear H
                                        go_wp2
                                        go_roundg k5
                                        case measure => have := HK1.out; have := HJ14.out; have := HK3.out; have := HJ27.out; have := HK5.out; omega
                                        case rel => exact ⟨(wrap64 (x52_3 + 1)), (by first | rfl | (simp; done) | (simp [*]; done)), H', ⟨by have := HK1.out; have := HJ14.out; have := HK3.out; have := HJ27.out; have := HK5.out; omega⟩, ⟨by (with_reducible repeat (first | apply Kd.R_alloc | apply Kd.R_drewN | apply Kd.R_drew)); exact Kd.R_mono HO_4.out (fun _ hk => trivial)⟩, ⟨by (with_reducible repeat (first | apply Kd.R_alloc | apply Kd.R_drewN | apply Kd.R_drew)); exact Kd.R_mono HO_50.out (fun _ hk => trivial)⟩, ⟨by repeat (first | (with_reducible first | exact HB.out | apply below_alloc | apply pw_below_drewN | apply below_drew1 | refine below_set ?_ GE666.out) | exact HB.out)⟩⟩
                                      · rw [if_neg c58] at H
                                        have c58b0 : (x10_5 == x11_5) = false := beq_eq_false_iff_ne.mpr c58
                                        have c58b1 : (x10_5 != x11_5) = true := bne_iff_ne.mpr c58
                                        exact absurd ((Option.some.inj H).trans hT.out) Bool.false_ne_true
                        · rw [if_neg c27] at H
                          exact absurd H (by simp)
                      · rw [if_neg c26] at H
                        exact absurd H (by simp)
                    · rw [if_neg c25] at H
                      have c25b0 : decide (x52_3 < (t654.length : Int)) = false := decide_eq_false c25
                      clear c25
                      obtain rfl := Option.some.inj H
                      go_wp2
                      go_ret
                      exact ⟨by first | rfl | (simp [errW_none, errW_some] <;> rfl) | (simp [*, errW_none, errW_some] <;> rfl), by repeat (first | (with_reducible first | exact HB.out | apply below_alloc | apply pw_below_drewN | apply below_drew1) | exact HB.out)⟩
def medlarlaw12_LayerOrder.Pure : Prop := ∀ (l0 : List S34), l0.length ≤ maxLen → l0.length * 16 ≤ 140737488351232 → (∀ x ∈ l0, (Lit.int .u64 x.f0).wf = true ∧ (Lit.int .u64 x.f1).wf = true) → ∃ k, medlarlaw12_LayerOrder.f k l0 = some true
theorem medlarlaw12_LayerOrder.walk (P : medlarlaw12_LayerOrder.Pure) (A0 : Option Addr) (c0 : Nat) (l0 : List S34) (w : World) (hr0 : Kd.C k34 w A0 l0.length l0) (hc0 : l0.length ≤ c0) (hm0 : l0.length ≤ maxLen) (y0 : l0.length * 16 ≤ 140737488351232) (hw0 : ∀ x ∈ l0, (Lit.int .u64 x.f0).wf = true ∧ (Lit.int .u64 x.f1).wf = true) :
    Calls Try.prog 8 #[.slice A0 l0.length c0] w fun e w' => e = .returned (.bool true) ∧ Below w.heap.size w w' := by
  obtain ⟨k, h⟩ := P l0 hm0 y0 hw0
  refine (medlarlaw12_LayerOrder.calls k _ _ l0 true w hr0 hc0 h ⟨rfl⟩).mono ?_
  rintro e w' ⟨rfl, hd⟩
  exact ⟨rfl, hd⟩

end Go.Proofs.Ytmffkfakcbopcaa.MP
