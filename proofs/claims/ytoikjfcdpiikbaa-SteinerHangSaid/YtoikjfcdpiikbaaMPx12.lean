-- written by a program of this session (wip/tools/mprint.sh) for this seat
import Derived.Test.YtoikjfcdpiikbaaMPx0
import Derived.Test.YtoikjfcdpiikbaaMPx2
import Derived.Test.YtoikjfcdpiikbaaMPx3
import Derived.Test.YtoikjfcdpiikbaaMPx8
import Derived.Test.YtoikjfcdpiikbaaMPx9
import Derived.Test.YtoikjfcdpiikbaaMPx11
namespace Go.Proofs.Ytoikjfcdpiikbaa.MP
open Go.RowKit Go.Proofs.YtoikjfcdpiikbaaW.PrintWords Go.Proofs.YtoikjfcdpiikbaaW.PrintLast Go.Proofs.YtoikjfcdpiikbaaW.PrintMore
attribute [local go_sem] max2_int min2_int max_two min_two max_three min_three max_four min_four   -- for this text's walks alone
set_option linter.unusedVariables false
set_option linter.unusedSimpArgs false

/-! ### medlarlaw09_SteinerHang: function 4 -/
mutual
def medlarlaw09_SteinerHang.l0 : Nat → Int → List Int → Int → Bool → List Int → Int → Int → Bool → Int → List Int → Int → Int → Option (Bool)
  | 0, _, _, _, _, _, _, _, _, _, _, _, _ => none
  | k + 1, x0, x1, x2, x7, x8, x10, x11, x12, x13, x48, x49, x50 => if x50 < x49 then (if 0 ≤ x50 then (if x50 < (x48.length : Int) then ((node_Leaves.f k x0 (rd x48 x50)).bind fun bt229 => (if bt229.2.2 = 0 then (if x50 > 0 then (if 0 ≤ (wrap64 (x50 - 1)) then (if (wrap64 (x50 - 1)) < (x8.length : Int) then (medlarlaw09_SteinerHang.j1 k x0 x1 x2 x7 x8 x10 x11 x12 x13 (rd x48 x50) x48 x49 x50 (decide ((rd x8 (wrap64 (x50 - 1))) ≥ (rd x48 x50))) bt229.1 bt229.2.1) else (none)) else (none)) else (medlarlaw09_SteinerHang.j1 k x0 x1 x2 x7 x8 x10 x11 x12 x13 (rd x48 x50) x48 x49 x50 false bt229.1 bt229.2.1)) else (medlarlaw09_SteinerHang.j1 k x0 x1 x2 x7 x8 x10 x11 x12 x13 (rd x48 x50) x48 x49 x50 true bt229.1 bt229.2.1))) else (none)) else (none)) else ((node_Leaves.f k x0 1).bind fun bt224 => (if bt224.2.2 = 0 then (if (IntKind.u64.wrap (x10 + (IntKind.u64.wrap ((x1.length : Int))))) = (IntKind.u64.wrap (bt224.2.1 + 1)) then (if x7 = true then (if x13 = 0 then (if x11 ≤ 1 then (some ((x11 == 1) == (!x12))) else (some false)) else (some true)) else (some false)) else (some false)) else (some false)))
def medlarlaw09_SteinerHang.j1 : Nat → Int → List Int → Int → Bool → List Int → Int → Int → Bool → Int → Int → List Int → Int → Int → Bool → Int → Int → Option (Bool)
  | 0, _, _, _, _, _, _, _, _, _, _, _, _, _, _, _, _ => none
  | k + 1, x0, x1, x2, x7, x8, x10, x11, x12, x13, x15, x48, x49, x50, x75, x233000, x233001 => if x75 = true then (some false) else (if x233000 ≤ x2 then (medlarlaw09_SteinerHang.j2 k x0 x1 x2 x7 x8 (IntKind.u64.wrap (x10 + (IntKind.u64.wrap ((IntKind.u64.wrap (x233001 - x233000)) + 1)))) x11 x12 x13 x15 x48 x49 x50 (decide (x2 ≤ x233001))) else (medlarlaw09_SteinerHang.j2 k x0 x1 x2 x7 x8 (IntKind.u64.wrap (x10 + (IntKind.u64.wrap ((IntKind.u64.wrap (x233001 - x233000)) + 1)))) x11 x12 x13 x15 x48 x49 x50 false))
def medlarlaw09_SteinerHang.j2 : Nat → Int → List Int → Int → Bool → List Int → Int → Int → Bool → Int → Int → List Int → Int → Int → Bool → Option (Bool)
  | 0, _, _, _, _, _, _, _, _, _, _, _, _, _, _ => none
  | k + 1, x0, x1, x2, x7, x8, x10, x11, x12, x13, x15, x48, x49, x50, x93 => if x93 = true then ((leaf_Below.f k x0 x1 x15).bind fun bt234 => (if bt234.2 = 0 then (if (bt234.1.length : Int) = 0 then (medlarlaw09_SteinerHang.l0 k x0 x1 x2 x7 x8 x10 (wrap64 (x11 + 1)) x12 x13 x48 x49 (wrap64 (x50 + 1))) else (some false)) else (some false))) else ((leaf_Below.f k x0 x1 x15).bind fun bt238 => (if bt238.2 = 0 then (if (bt238.1.length : Int) = 0 then (medlarlaw09_SteinerHang.l0 k x0 x1 x2 x7 x8 x10 x11 x12 x13 x48 x49 (wrap64 (x50 + 1))) else (some false)) else (some false)))
end
def medlarlaw09_SteinerHang.f (k : Nat) (a0 : Int) (l1 : List Int) (a2 : Int) : Option (Bool) := (medlarlaw09_live.f k).bind fun t217 => (if (l1.length : Int) > 30 then (some t217) else ((steiner_Hang.f k a0 l1).bind fun bt218 => (if bt218.2 = 0 then ((leaf_Has.f k a0 l1 a2).bind fun bt222 => (medlarlaw09_SteinerHang.l0 k a0 l1 a2 t217 bt218.1 0 0 bt222.1 bt222.2 bt218.1 (bt218.1.length : Int) 0)) else (if t217 = true then (some ((bt218.1.length : Int) == 0)) else (some false)))))
theorem medlarlaw09_SteinerHang.mono_l : ∀ k, (∀ y0 y1 y2 y3 y4 y5 y6 y7 y8 y9 y10 y11, LeO (medlarlaw09_SteinerHang.l0 k y0 y1 y2 y3 y4 y5 y6 y7 y8 y9 y10 y11) (medlarlaw09_SteinerHang.l0 (k + 1) y0 y1 y2 y3 y4 y5 y6 y7 y8 y9 y10 y11)) ∧ (∀ y0 y1 y2 y3 y4 y5 y6 y7 y8 y9 y10 y11 y12 y13 y14 y15, LeO (medlarlaw09_SteinerHang.j1 k y0 y1 y2 y3 y4 y5 y6 y7 y8 y9 y10 y11 y12 y13 y14 y15) (medlarlaw09_SteinerHang.j1 (k + 1) y0 y1 y2 y3 y4 y5 y6 y7 y8 y9 y10 y11 y12 y13 y14 y15)) ∧ (∀ y0 y1 y2 y3 y4 y5 y6 y7 y8 y9 y10 y11 y12 y13, LeO (medlarlaw09_SteinerHang.j2 k y0 y1 y2 y3 y4 y5 y6 y7 y8 y9 y10 y11 y12 y13) (medlarlaw09_SteinerHang.j2 (k + 1) y0 y1 y2 y3 y4 y5 y6 y7 y8 y9 y10 y11 y12 y13))
  | 0 => ⟨fun _ _ _ _ _ _ _ _ _ _ _ _ r h => by simp [medlarlaw09_SteinerHang.l0] at h, fun _ _ _ _ _ _ _ _ _ _ _ _ _ _ _ _ r h => by simp [medlarlaw09_SteinerHang.j1] at h, fun _ _ _ _ _ _ _ _ _ _ _ _ _ _ r h => by simp [medlarlaw09_SteinerHang.j2] at h⟩
  | k + 1 => by
    obtain ⟨ih0, ih1, ih2⟩ := medlarlaw09_SteinerHang.mono_l k
    refine ⟨?_, ?_, ?_⟩
    · intro y0 y1 y2 y3 y4 y5 y6 y7 y8 y9 y10 y11
      unfold medlarlaw09_SteinerHang.l0
      repeat' first
      | (with_reducible exact ih0 _ _ _ _ _ _ _ _ _ _ _ _)
      | (with_reducible exact ih1 _ _ _ _ _ _ _ _ _ _ _ _ _ _ _ _)
      | (with_reducible exact ih2 _ _ _ _ _ _ _ _ _ _ _ _ _ _)
      | (with_reducible exact leaf_Below.mono _ _ _ _)
      | (with_reducible exact leaf_Has.mono _ _ _ _)
      | (with_reducible exact medlarlaw09_live.mono _)
      | (with_reducible exact node_Leaves.mono _ _ _)
      | (with_reducible exact steiner_Hang.mono _ _ _)
      | (with_reducible exact LeO.refl _)
      | (with_reducible exact LeO.none _)
      | (with_reducible refine LeO.ite ?_ ?_)
      | (with_reducible refine LeO.bind ?_ (fun _ => ?_))
      | exact ih0 _ _ _ _ _ _ _ _ _ _ _ _
      | exact ih1 _ _ _ _ _ _ _ _ _ _ _ _ _ _ _ _
      | exact ih2 _ _ _ _ _ _ _ _ _ _ _ _ _ _
      | exact leaf_Below.mono _ _ _ _
      | exact leaf_Has.mono _ _ _ _
      | exact medlarlaw09_live.mono _
      | exact node_Leaves.mono _ _ _
      | exact steiner_Hang.mono _ _ _
      | exact LeO.none _
      | refine LeO.ite ?_ ?_
      | refine LeO.bind ?_ (fun _ => ?_)
    · intro y0 y1 y2 y3 y4 y5 y6 y7 y8 y9 y10 y11 y12 y13 y14 y15
      unfold medlarlaw09_SteinerHang.j1
      repeat' first
      | (with_reducible exact ih0 _ _ _ _ _ _ _ _ _ _ _ _)
      | (with_reducible exact ih1 _ _ _ _ _ _ _ _ _ _ _ _ _ _ _ _)
      | (with_reducible exact ih2 _ _ _ _ _ _ _ _ _ _ _ _ _ _)
      | (with_reducible exact leaf_Below.mono _ _ _ _)
      | (with_reducible exact leaf_Has.mono _ _ _ _)
      | (with_reducible exact medlarlaw09_live.mono _)
      | (with_reducible exact node_Leaves.mono _ _ _)
      | (with_reducible exact steiner_Hang.mono _ _ _)
      | (with_reducible exact LeO.refl _)
      | (with_reducible exact LeO.none _)
      | (with_reducible refine LeO.ite ?_ ?_)
      | (with_reducible refine LeO.bind ?_ (fun _ => ?_))
      | exact ih0 _ _ _ _ _ _ _ _ _ _ _ _
      | exact ih1 _ _ _ _ _ _ _ _ _ _ _ _ _ _ _ _
      | exact ih2 _ _ _ _ _ _ _ _ _ _ _ _ _ _
      | exact leaf_Below.mono _ _ _ _
      | exact leaf_Has.mono _ _ _ _
      | exact medlarlaw09_live.mono _
      | exact node_Leaves.mono _ _ _
      | exact steiner_Hang.mono _ _ _
      | exact LeO.none _
      | refine LeO.ite ?_ ?_
      | refine LeO.bind ?_ (fun _ => ?_)
    · intro y0 y1 y2 y3 y4 y5 y6 y7 y8 y9 y10 y11 y12 y13
      unfold medlarlaw09_SteinerHang.j2
      repeat' first
      | (with_reducible exact ih0 _ _ _ _ _ _ _ _ _ _ _ _)
      | (with_reducible exact ih1 _ _ _ _ _ _ _ _ _ _ _ _ _ _ _ _)
      | (with_reducible exact ih2 _ _ _ _ _ _ _ _ _ _ _ _ _ _)
      | (with_reducible exact leaf_Below.mono _ _ _ _)
      | (with_reducible exact leaf_Has.mono _ _ _ _)
      | (with_reducible exact medlarlaw09_live.mono _)
      | (with_reducible exact node_Leaves.mono _ _ _)
      | (with_reducible exact steiner_Hang.mono _ _ _)
      | (with_reducible exact LeO.refl _)
      | (with_reducible exact LeO.none _)
      | (with_reducible refine LeO.ite ?_ ?_)
      | (with_reducible refine LeO.bind ?_ (fun _ => ?_))
      | exact ih0 _ _ _ _ _ _ _ _ _ _ _ _
      | exact ih1 _ _ _ _ _ _ _ _ _ _ _ _ _ _ _ _
      | exact ih2 _ _ _ _ _ _ _ _ _ _ _ _ _ _
      | exact leaf_Below.mono _ _ _ _
      | exact leaf_Has.mono _ _ _ _
      | exact medlarlaw09_live.mono _
      | exact node_Leaves.mono _ _ _
      | exact steiner_Hang.mono _ _ _
      | exact LeO.none _
      | refine LeO.ite ?_ ?_
      | refine LeO.bind ?_ (fun _ => ?_)
theorem medlarlaw09_SteinerHang.mono : ∀ a0 a1 a2 k, LeO (medlarlaw09_SteinerHang.f k a0 a1 a2) (medlarlaw09_SteinerHang.f (k + 1) a0 a1 a2) := by
  intro a0 a1 a2 k
  obtain ⟨ih0, ih1, ih2⟩ := medlarlaw09_SteinerHang.mono_l k
  unfold medlarlaw09_SteinerHang.f
  repeat' first
      | (with_reducible exact ih0 _ _ _ _ _ _ _ _ _ _ _ _)
      | (with_reducible exact ih1 _ _ _ _ _ _ _ _ _ _ _ _ _ _ _ _)
      | (with_reducible exact ih2 _ _ _ _ _ _ _ _ _ _ _ _ _ _)
      | (with_reducible exact leaf_Below.mono _ _ _ _)
      | (with_reducible exact leaf_Has.mono _ _ _ _)
      | (with_reducible exact medlarlaw09_live.mono _)
      | (with_reducible exact node_Leaves.mono _ _ _)
      | (with_reducible exact steiner_Hang.mono _ _ _)
      | (with_reducible exact LeO.refl _)
      | (with_reducible exact LeO.none _)
      | (with_reducible refine LeO.ite ?_ ?_)
      | (with_reducible refine LeO.bind ?_ (fun _ => ?_))
      | exact ih0 _ _ _ _ _ _ _ _ _ _ _ _
      | exact ih1 _ _ _ _ _ _ _ _ _ _ _ _ _ _ _ _
      | exact ih2 _ _ _ _ _ _ _ _ _ _ _ _ _ _
      | exact leaf_Below.mono _ _ _ _
      | exact leaf_Has.mono _ _ _ _
      | exact medlarlaw09_live.mono _
      | exact node_Leaves.mono _ _ _
      | exact steiner_Hang.mono _ _ _
      | exact LeO.none _
      | refine LeO.ite ?_ ?_
      | refine LeO.bind ?_ (fun _ => ?_)
set_option maxHeartbeats 8000000 in
set_option maxRecDepth 100000 in
theorem medlarlaw09_SteinerHang.calls (k : Nat) (a0 : Int) (A1 : Option Addr) (c1 : Nat) (l1 : List Int) (a2 : Int) (r : Bool) (w : World) (hr1 : Kd.C (Kd.int .u64) w A1 l1.length l1) (hc1 : l1.length ≤ c1) (h : medlarlaw09_SteinerHang.f k a0 l1 a2 = some r) (hT : Aside0 (r = true)) :
    Calls Try.prog 4 #[.int .i64 a0, .slice A1 l1.length c1, .int .u64 a2] w fun e w' => e = .returned (.bool r) ∧ Below w.heap.size w w' := by
  have hu34 := Try.underlying34
  have HR1 := Aside0.mk hr1
  have HC1 := Aside0.mk hc1
  clear hr1 hc1
  have HB := Aside0.mk (Below.refl w.heap.size w)
  have H : ((medlarlaw09_live.f k).bind fun t217 => (if (l1.length : Int) > 30 then (some t217) else ((steiner_Hang.f k a0 l1).bind fun bt218 => (if bt218.2 = 0 then ((leaf_Has.f k a0 l1 a2).bind fun bt222 => (medlarlaw09_SteinerHang.l0 k a0 l1 a2 t217 bt218.1 0 0 bt222.1 bt222.2 bt218.1 (bt218.1.length : Int) 0)) else (if t217 = true then (some ((bt218.1.length : Int) == 0)) else (some false)))))) = some r := h
  clear h
  replace H := Option.bind_eq_some_iff.mp H
  obtain ⟨t217, A40, H⟩ := H
  replace H : (if (l1.length : Int) > 30 then (some t217) else ((steiner_Hang.f k a0 l1).bind fun bt218 => (if bt218.2 = 0 then ((leaf_Has.f k a0 l1 a2).bind fun bt222 => (medlarlaw09_SteinerHang.l0 k a0 l1 a2 t217 bt218.1 0 0 bt222.1 bt222.2 bt218.1 (bt218.1.length : Int) 0)) else (if t217 = true then (some ((bt218.1.length : Int) == 0)) else (some false))))) = some r := H
  have A4 := Aside0.mk A40
  clear A40
  by_cases c5 : (l1.length : Int) > 30
  · rw [if_pos c5] at H
    have c5b0 : decide (30 < (l1.length : Int)) = true := decide_eq_true c5
    have c5b1 : decide (30 < l1.length) = true := decide_eq_true (by omega)
    clear c5
    obtain rfl := Option.some.inj H
    go_enter Try.func4, Try.ntmps4
    go_wp2_with (first | ((with_reducible refine gate_callee (f := 14) rfl ?_); refine goesL_ (some 22) rfl rfl Try.func14 (by kernel_rfl) rfl #[] rfl (by (try simp only [List.map_toArray, List.map_cons, List.map_nil]); first | done | rfl | (simp only [List.length_drop, List.length_take]; rfl)) ?_; (with_reducible refine (medlarlaw09_live.calls k  t217 _ A4.out).mono ?_); rintro e w6 ⟨rfl, hb⟩; refine ⟨_, rfl, ?_⟩; have n0_ := Aside0.mk (below_step (by repeat (first | (with_reducible first | exact HB.out | apply below_alloc | apply pw_below_drewN | apply below_drew1) | exact HB.out)) hb); clear HB; have HB := n0_; clear n0_; (try clear hb); (try clear hb2); (try clear hk); (try clear hi)))
    go_ret
    exact ⟨by first | rfl | (simp [errW_none, errW_some] <;> rfl) | (simp [*, errW_none, errW_some] <;> rfl), by repeat (first | (with_reducible first | exact HB.out | apply below_alloc | apply pw_below_drewN | apply below_drew1) | exact HB.out)⟩
  · rw [if_neg c5] at H
    have c5b0 : decide (30 < (l1.length : Int)) = false := decide_eq_false c5
    have c5b1 : decide (30 < l1.length) = false := decide_eq_false (by omega)
    clear c5
    replace H := Option.bind_eq_some_iff.mp H
    obtain ⟨⟨t218, t219⟩, A70, H⟩ := H
    replace H : (if t219 = 0 then ((leaf_Has.f k a0 l1 a2).bind fun bt222 => (medlarlaw09_SteinerHang.l0 k a0 l1 a2 t217 t218 0 0 bt222.1 bt222.2 t218 (t218.length : Int) 0)) else (if t217 = true then (some ((t218.length : Int) == 0)) else (some false))) = some r := H
    have A7 := Aside0.mk A70
    clear A70
    by_cases c8 : t219 = 0
    · rw [if_pos c8] at H
      have c8b0 : (t219 == 0) = true := beq_iff_eq.mpr c8
      have c8b1 : (t219 != 0) = false := bne_eq_false_iff_eq.mpr c8
      clear c8
      replace H := Option.bind_eq_some_iff.mp H
      obtain ⟨⟨t222, t223⟩, A90, H⟩ := H
      replace H : (medlarlaw09_SteinerHang.l0 k a0 l1 a2 t217 t218 0 0 t222 t223 t218 (t218.length : Int) 0) = some r := H
      have A9 := Aside0.mk A90
      clear A90
      have H' := Aside0.mk H
      clear H
      go_enter Try.func4, Try.ntmps4
      go_wp2_with (first | ((with_reducible refine gate_callee (f := 14) rfl ?_); refine goesL_ (some 22) rfl rfl Try.func14 (by kernel_rfl) rfl #[] rfl (by (try simp only [List.map_toArray, List.map_cons, List.map_nil]); first | done | rfl | (simp only [List.length_drop, List.length_take]; rfl)) ?_; (with_reducible refine (medlarlaw09_live.calls k  t217 _ A4.out).mono ?_); rintro e w10 ⟨rfl, hb⟩; refine ⟨_, rfl, ?_⟩; have n0_ := Aside0.mk (below_step (by repeat (first | (with_reducible first | exact HB.out | apply below_alloc | apply pw_below_drewN | apply below_drew1) | exact HB.out)) hb); clear HB; have HB := n0_; clear n0_; (try clear hb); (try clear hb2); (try clear hk); (try clear hi)) | ((with_reducible refine gate_callee (f := 16) rfl ?_); refine goesL_ (some 30) rfl rfl Try.func16 (by kernel_rfl) rfl #[.int .i64 a0, .slice A1 l1.length c1] rfl (by (try simp only [List.map_toArray, List.map_cons, List.map_nil]); first | done | rfl | (simp only [List.length_drop, List.length_take]; rfl)) ?_; (with_reducible refine (steiner_Hang.calls k a0 _ _ l1 t218 t219 _ ?side1 ?side2 A7.out).mono ?_); (case side1 => repeat (first | exact (Kd.C_below HR1.out HB.out) | (with_reducible refine Kd.C_alloc ?_ _) | (with_reducible refine Kd.C_drewN ?_ _) | (with_reducible refine Kd.C_drew ?_))); (case side2 => exact HC1.out); rintro e w11 ⟨v220, rfl, ho0, hb⟩; refine ⟨_, rfl, ?_⟩; have n0_ := Aside0.mk (Kd.R_lower ho0 (below_size (by repeat (first | (with_reducible first | exact HB.out | apply below_alloc | apply pw_below_drewN | apply below_drew1) | exact HB.out)))); have n1_ := Aside0.mk (below_step (by repeat (first | (with_reducible first | exact HB.out | apply below_alloc | apply pw_below_drewN | apply below_drew1) | exact HB.out)) hb); clear HB; have HO221 := n0_; have HB := n1_; clear n0_ n1_; (try clear hb); (try clear hb2); (try clear hk); (try clear hi); (try clear ho0)) | ((with_reducible refine gate_callee (f := 18) rfl ?_); refine goesL_ (some 45) rfl rfl Try.func18 (by kernel_rfl) rfl #[.int .i64 a0, .slice A1 l1.length c1, .int .u64 a2] rfl (by (try simp only [List.map_toArray, List.map_cons, List.map_nil]); first | done | rfl | (simp only [List.length_drop, List.length_take]; rfl)) ?_; (with_reducible refine (leaf_Has.calls k a0 _ _ l1 a2 t222 t223 _ ?side1 ?side2 A9.out).mono ?_); (case side1 => repeat (first | exact (Kd.C_below HR1.out HB.out) | (with_reducible refine Kd.C_alloc ?_ _) | (with_reducible refine Kd.C_drewN ?_ _) | (with_reducible refine Kd.C_drew ?_))); (case side2 => exact HC1.out); rintro e w' ⟨rfl, ⟨nd, rfl⟩⟩; refine ⟨_, rfl, ?_⟩; obtain ⟨Ao12, co12, eo12⟩ := Kd.R_slice HO221.out; subst eo12))
      go_loopg [10, 11, 50] k (fun kq v10 v11 v50 w' => ∃ (x10_1 : Int) (x11_1 : Int) (x50_1 : Int), v10 = .int .u64 x10_1 ∧ v11 = .int .i64 x11_1 ∧ v50 = .int .i64 x50_1 ∧ Aside0 (medlarlaw09_SteinerHang.l0 kq a0 l1 a2 t217 t218 x10_1 x11_1 t222 t223 t218 (t218.length : Int) x50_1 = some r) ∧ Aside0 (kq ≤ k) ∧ Aside0 (Kd.R (Kd.int .u64) 29 w' w.heap.size (fun _ => True) (.slice Ao12 t218.length co12) t218) ∧ Aside0 (Kd.R (Kd.int .u64) 29 w' w.heap.size (fun _ => True) (.slice Ao12 t218.length co12) t218) ∧ Aside0 (Below w.heap.size w w'))
      case atStart => exact ⟨(0), (0), (0), (by first | rfl | (simp; done) | (simp [*]; done)), (by first | rfl | (simp; done) | (simp [*]; done)), (by first | rfl | (simp; done) | (simp [*]; done)), H', ⟨Nat.le_refl _⟩, ⟨by (with_reducible repeat (first | apply Kd.R_alloc | apply Kd.R_drewN | apply Kd.R_drew)); exact HO221.out⟩, ⟨by (with_reducible repeat (first | apply Kd.R_alloc | apply Kd.R_drewN | apply Kd.R_drew)); exact HO221.out⟩, ⟨by repeat (first | (with_reducible first | exact HB.out | apply below_alloc | apply pw_below_drewN | apply below_drew1) | exact HB.out)⟩⟩
      case round =>
        clear H'
        try clear c1
        try clear p2
        try clear c4
        try clear c5
        try clear c5b0
        try clear c5b1
        try clear c8
        try clear c8b0
        try clear c8b1
        obtain ⟨x10_1, x11_1, x50_1, rfl, rfl, rfl, HA, HK1, HO_8, HO_48, HB⟩ := hrel
        cases gk with
        | zero => exact absurd HA.out (by simp [medlarlaw09_SteinerHang.l0])
        | succ k1 =>
          have H := HA.out
          clear HA
          simp only [medlarlaw09_SteinerHang.l0] at H
          by_cases c13 : x50_1 < (t218.length : Int)
          · rw [if_pos c13] at H
            have c13b0 : decide (x50_1 < (t218.length : Int)) = true := decide_eq_true c13
            clear c13
            by_cases c14 : 0 ≤ x50_1
            · rw [if_pos c14] at H
              have c14b0 : decide (0 ≤ x50_1) = true := decide_eq_true c14
              clear c14
              by_cases c15 : x50_1 < (t218.length : Int)
              · rw [if_pos c15] at H
                have c15b0 : decide (x50_1 < (t218.length : Int)) = true := decide_eq_true c15
                clear c15
                replace H := Option.bind_eq_some_iff.mp H
                obtain ⟨⟨t229, t230, t231⟩, A160, H⟩ := H
                replace H : (if t231 = 0 then (if x50_1 > 0 then (if 0 ≤ (wrap64 (x50_1 - 1)) then (if (wrap64 (x50_1 - 1)) < (t218.length : Int) then (medlarlaw09_SteinerHang.j1 k1 a0 l1 a2 t217 t218 x10_1 x11_1 t222 t223 (rd t218 x50_1) t218 (t218.length : Int) x50_1 (decide ((rd t218 (wrap64 (x50_1 - 1))) ≥ (rd t218 x50_1))) t229 t230) else (none)) else (none)) else (medlarlaw09_SteinerHang.j1 k1 a0 l1 a2 t217 t218 x10_1 x11_1 t222 t223 (rd t218 x50_1) t218 (t218.length : Int) x50_1 false t229 t230)) else (medlarlaw09_SteinerHang.j1 k1 a0 l1 a2 t217 t218 x10_1 x11_1 t222 t223 (rd t218 x50_1) t218 (t218.length : Int) x50_1 true t229 t230)) = some r := H
                have A16 := Aside0.mk A160
                clear A160
                have HC17 := Aside0.mk H
                clear H
                have p228 : 0 ≤ (x50_1 : Int) := of_decide_eq_true (by first | (with_reducible assumption) | assumption)
                have q228 : x50_1 < (t218.length : Int) := of_decide_eq_true (by first | (with_reducible assumption) | assumption)
                obtain ⟨ad228, e228, hx228_0⟩ := Kd.at_int (Kd.R_reads' HO_48.out).2.2 x50_1 p228 q228
                cases e228
                replace p228 := eq_true p228
                replace q228 := eq_true q228
                go_upto_region 14 with (first | ((with_reducible refine gate_callee (f := 19) rfl ?_); refine goesL_ (some 58) rfl rfl Try.func19 (by kernel_rfl) rfl #[.int .i64 a0, .int .u64 (rd t218 x50_1)] rfl (by (try simp only [List.map_toArray, List.map_cons, List.map_nil]); first | done | rfl | (simp only [List.length_drop, List.length_take]; rfl)) ?_; (with_reducible refine (node_Leaves.calls k1 a0 (rd t218 x50_1) t229 t230 t231 _ A16.out).mono ?_); rintro e w18 ⟨rfl, hb⟩; refine ⟨_, rfl, ?_⟩; have n0_ := Aside0.mk (Kd.R_below (by (with_reducible repeat (first | apply Kd.R_alloc | apply Kd.R_drewN | apply Kd.R_drew)); exact HO_8.out) hb); have n1_ := Aside0.mk (Kd.R_below (by (with_reducible repeat (first | apply Kd.R_alloc | apply Kd.R_drewN | apply Kd.R_drew)); exact HO_48.out) hb); have n2_ := Aside0.mk (below_step (by repeat (first | (with_reducible first | exact HB.out | apply below_alloc | apply pw_below_drewN | apply below_drew1) | exact HB.out)) hb); clear HO_8; clear HO_48; clear HB; have HO_8 := n0_; have HO_48 := n1_; have HB := n2_; clear n0_ n1_ n2_; (try clear hb); (try clear hb2); (try clear hk); (try clear hi)) | ((with_reducible refine gate_dst (N := 16) rfl ?_); (try (refine gate_guard (by rfl) ?_; dsimp only)); refine box_event ?hg (N := 16) ?hd (cs := #[.int .u64 0, .int .u64 0]) (t := 34) ?hr ?_; (case hd => rfl); (case hg => rfl); (case hr => first | (go_simp; done) | (go_simp; rfl)); intro gb232 hg w19 hbox hb; have n0_ := Aside0.mk (Kd.R_below (by (with_reducible repeat (first | apply Kd.R_alloc | apply Kd.R_drewN | apply Kd.R_drew)); exact HO_8.out) hb); have n1_ := Aside0.mk (Kd.R_below (by (with_reducible repeat (first | apply Kd.R_alloc | apply Kd.R_drewN | apply Kd.R_drew)); exact HO_48.out) hb); have n2_ := Aside0.mk (below_step (by repeat (first | (with_reducible first | exact HB.out | apply below_alloc | apply pw_below_drewN | apply below_drew1) | exact HB.out)) hb); have n3_ := Aside0.mk (hbox); have n4_ := Aside0.mk ((by rw [hg]; exact (below_size (by repeat (first | (with_reducible first | exact HB.out | apply below_alloc | apply pw_below_drewN | apply below_drew1) | exact HB.out))) : w.heap.size ≤ gb232)); have n5_ := Aside0.mk ((by rw [hg]; exact (below_size (by repeat (first | (with_reducible first | exact HB.out | apply below_alloc | apply pw_below_drewN | apply below_drew1) | exact HB.out))) : w.heap.size ≤ gb232)); clear HO_8; clear HO_48; clear HB; have HO_8 := n0_; have HO_48 := n1_; have HB := n2_; have BK232 := n3_; have GW232 := n4_; have GE232 := n5_; clear n0_ n1_ n2_ n3_ n4_ n5_; clear hb hbox hg; have hcz20_0 : w19.cell? ⟨gb232, 0, none⟩ = some (.int .u64 0) := (blk_cell BK232.out 0).trans rfl; have hcz20_1 : w19.cell? ⟨gb232, 1, none⟩ = some (.int .u64 0) := (blk_cell BK232.out 1).trans rfl; have hfz20_0 := blk_frozen BK232.out 0; have hfz20_1 := blk_frozen BK232.out 1))
                (try simp only [Act.put, List.setIfInBounds_toArray, List.set_cons_zero, List.set_cons_succ])
                go_cut [75] (fun v75 wc => ∃ (kq : Nat) (x75_16 : Bool), v75 = .bool x75_16 ∧ Aside0 (medlarlaw09_SteinerHang.j1 kq a0 l1 a2 t217 t218 x10_1 x11_1 t222 t223 (rd t218 x50_1) t218 (t218.length : Int) x50_1 x75_16 t229 t230 = some r) ∧ Aside0 (kq ≤ k1) ∧ Aside0 (Kd.R (Kd.int .u64) 29 wc w.heap.size (fun _ => True) (.slice (some ad228) t218.length co12) t218) ∧ Aside0 (Kd.R (Kd.int .u64) 29 wc w.heap.size (fun _ => True) (.slice (some ad228) t218.length co12) t218) ∧ Aside0 (wc.heap[gb232]? = some (.cells #[.int .u64 t229, .int .u64 t230] 34 (0, 0))) ∧ Aside0 (Below w.heap.size w wc))
                case first =>
                  have H := HC17.out
                  clear HC17
                  by_cases c21 : t231 = 0
                  · rw [if_pos c21] at H
                    have c21b0 : (t231 == 0) = true := beq_iff_eq.mpr c21
                    have c21b1 : (t231 != 0) = false := bne_eq_false_iff_eq.mpr c21
                    clear c21
                    (first | rw [c21b0] | (simp only [i64_w, i32_w]; rw [c21b0]) | skip)
                    by_cases c22 : x50_1 > 0
                    · rw [if_pos c22] at H
                      have c22b0 : decide (0 < x50_1) = true := decide_eq_true c22
                      clear c22
                      obtain ⟨ji23, hji23⟩ : ∃ j_ : Int, (wrap64 (x50_1 - 1)) = j_ := ⟨_, rfl⟩
                      replace H : (if 0 ≤ (ji23) then (if (ji23) < (t218.length : Int) then (medlarlaw09_SteinerHang.j1 k1 a0 l1 a2 t217 t218 x10_1 x11_1 t222 t223 (rd t218 x50_1) t218 (t218.length : Int) x50_1 (decide ((rd t218 (ji23)) ≥ (rd t218 x50_1))) t229 t230) else (none)) else (none)) = some r := by first | (rw [hji23] at H; exact H) | (simp only [hji23] at H ⊢; exact H)
                      have hji23w : (IntKind.i64.wrap (x50_1 - 1)) = ji23 := (i64_w _).trans hji23
                      by_cases c24 : 0 ≤ (ji23)
                      · rw [if_pos c24] at H
                        have c24b0 : decide (0 ≤ (ji23)) = true := decide_eq_true c24
                        clear c24
                        by_cases c25 : (ji23) < (t218.length : Int)
                        · rw [if_pos c25] at H
                          have c25b0 : decide ((ji23) < (t218.length : Int)) = true := decide_eq_true c25
                          clear c25
                          have H' := Aside0.mk H
                          clear H
                          have p233 : 0 ≤ ((ji23) : Int) := of_decide_eq_true (by first | (with_reducible assumption) | assumption)
                          have q233 : (ji23) < (t218.length : Int) := of_decide_eq_true (by first | (with_reducible assumption) | assumption)
                          obtain ⟨ad233, e233, hx233_0⟩ := Kd.at_int (Kd.R_reads' HO_8.out).2.2 (ji23) p233 q233
                          obtain rfl : ad228 = ad233 := (by injection e233)
                          have hn233_0 : ad228.block ≠ gb232 := Kd.own_blk (Kd.R_ne HO_8.out BK232.out (by decide))
                          have hn233_1 : ad228.block ≠ gb232 := Kd.own_blk (Kd.R_ne HO_8.out BK232.out (by decide))
                          replace hx233_0 := (cell_far (p := ⟨gb232, 0, none⟩) (by first | (rw [add_block]; exact hn233_0) | (show (Addr.add _ _).block ≠ _; rw [add_block]; exact hn233_0) | exact hn233_0) (.int .u64 t229)).trans hx233_0
                          replace hx233_0 := (cell_far (p := ⟨gb232, 1, none⟩) (by first | (rw [add_block]; exact hn233_1) | (show (Addr.add _ _).block ≠ _; rw [add_block]; exact hn233_1) | exact hn233_1) (.int .u64 t230)).trans hx233_0
                          clear hn233_0
                          clear hn233_1
                          replace p233 := eq_true p233
                          replace q233 := eq_true q233
                          go_wp2
                          go_meet
                          case rel => exact ⟨_, (decide ((rd t218 (ji23)) ≥ (rd t218 x50_1))), (by first | rfl | (simp; done) | (simp only [← hji23] <;> (first | rfl | simp)) | (simp [*]; done)), H', ⟨by have := HK1.out; first | omega | exact Nat.le_refl _⟩, ⟨by (with_reducible repeat (first | apply Kd.R_alloc | apply Kd.R_drewN | apply Kd.R_drew)); exact Kd.R_mono (Kd.R_far (p := ⟨gb232, 1, none⟩) (Kd.R_far (p := ⟨gb232, 0, none⟩) (Kd.R_types HO_8.out BK232.out (by decide)) (fun _ hk => hk.2) (.int .u64 t229)) (fun _ hk => hk.2) (.int .u64 t230)) (fun _ hk => trivial)⟩, ⟨by (with_reducible repeat (first | apply Kd.R_alloc | apply Kd.R_drewN | apply Kd.R_drew)); exact Kd.R_mono (Kd.R_far (p := ⟨gb232, 1, none⟩) (Kd.R_far (p := ⟨gb232, 0, none⟩) (Kd.R_types HO_48.out BK232.out (by decide)) (fun _ hk => hk.2) (.int .u64 t229)) (fun _ hk => hk.2) (.int .u64 t230)) (fun _ hk => trivial)⟩, ⟨by (with_reducible repeat (first | refine blk_drewN ?_ _ | refine blk_drew ?_ | refine blk_alloc ?_ _)); refine blk_put (cs := #[.int .u64 t229, .int .u64 0]) ?_ 1 _ rfl; (with_reducible repeat (first | refine blk_drewN ?_ _ | refine blk_drew ?_ | refine blk_alloc ?_ _)); refine blk_put (cs := #[.int .u64 0, .int .u64 0]) ?_ 0 _ rfl; (with_reducible repeat (first | refine blk_drewN ?_ _ | refine blk_drew ?_ | refine blk_alloc ?_ _)); exact BK232.out⟩, ⟨by repeat (first | (with_reducible first | exact HB.out | apply below_alloc | apply pw_below_drewN | apply below_drew1 | refine below_set ?_ GE232.out) | exact HB.out)⟩⟩
                        · rw [if_neg c25] at H
                          exact absurd H (by simp)
                      · rw [if_neg c24] at H
                        exact absurd H (by simp)
                    · rw [if_neg c22] at H
                      have c22b0 : decide (0 < x50_1) = false := decide_eq_false c22
                      clear c22
                      have H' := Aside0.mk H
                      clear H
                      go_wp2
                      go_meet
                      case rel => exact ⟨_, (false), (by first | rfl | (simp; done) | (simp [*]; done)), H', ⟨by have := HK1.out; first | omega | exact Nat.le_refl _⟩, ⟨by (with_reducible repeat (first | apply Kd.R_alloc | apply Kd.R_drewN | apply Kd.R_drew)); exact Kd.R_mono (Kd.R_far (p := ⟨gb232, 1, none⟩) (Kd.R_far (p := ⟨gb232, 0, none⟩) (Kd.R_types HO_8.out BK232.out (by decide)) (fun _ hk => hk.2) (.int .u64 t229)) (fun _ hk => hk.2) (.int .u64 t230)) (fun _ hk => trivial)⟩, ⟨by (with_reducible repeat (first | apply Kd.R_alloc | apply Kd.R_drewN | apply Kd.R_drew)); exact Kd.R_mono (Kd.R_far (p := ⟨gb232, 1, none⟩) (Kd.R_far (p := ⟨gb232, 0, none⟩) (Kd.R_types HO_48.out BK232.out (by decide)) (fun _ hk => hk.2) (.int .u64 t229)) (fun _ hk => hk.2) (.int .u64 t230)) (fun _ hk => trivial)⟩, ⟨by (with_reducible repeat (first | refine blk_drewN ?_ _ | refine blk_drew ?_ | refine blk_alloc ?_ _)); refine blk_put (cs := #[.int .u64 t229, .int .u64 0]) ?_ 1 _ rfl; (with_reducible repeat (first | refine blk_drewN ?_ _ | refine blk_drew ?_ | refine blk_alloc ?_ _)); refine blk_put (cs := #[.int .u64 0, .int .u64 0]) ?_ 0 _ rfl; (with_reducible repeat (first | refine blk_drewN ?_ _ | refine blk_drew ?_ | refine blk_alloc ?_ _)); exact BK232.out⟩, ⟨by repeat (first | (with_reducible first | exact HB.out | apply below_alloc | apply pw_below_drewN | apply below_drew1 | refine below_set ?_ GE232.out) | exact HB.out)⟩⟩
                  · rw [if_neg c21] at H
                    have c21b0 : (t231 == 0) = false := beq_eq_false_iff_ne.mpr c21
                    have c21b1 : (t231 != 0) = true := bne_iff_ne.mpr c21
                    (first | rw [c21b0] | (simp only [i64_w, i32_w]; rw [c21b0]) | skip)
                    have H' := Aside0.mk H
                    clear H
                    go_wp2
                    go_meet
                    case rel => exact ⟨_, (true), (by first | rfl | (simp; done) | (simp [*]; done)), H', ⟨by have := HK1.out; first | omega | exact Nat.le_refl _⟩, ⟨by (with_reducible repeat (first | apply Kd.R_alloc | apply Kd.R_drewN | apply Kd.R_drew)); exact Kd.R_mono (Kd.R_far (p := ⟨gb232, 1, none⟩) (Kd.R_far (p := ⟨gb232, 0, none⟩) (Kd.R_types HO_8.out BK232.out (by decide)) (fun _ hk => hk.2) (.int .u64 t229)) (fun _ hk => hk.2) (.int .u64 t230)) (fun _ hk => trivial)⟩, ⟨by (with_reducible repeat (first | apply Kd.R_alloc | apply Kd.R_drewN | apply Kd.R_drew)); exact Kd.R_mono (Kd.R_far (p := ⟨gb232, 1, none⟩) (Kd.R_far (p := ⟨gb232, 0, none⟩) (Kd.R_types HO_48.out BK232.out (by decide)) (fun _ hk => hk.2) (.int .u64 t229)) (fun _ hk => hk.2) (.int .u64 t230)) (fun _ hk => trivial)⟩, ⟨by (with_reducible repeat (first | refine blk_drewN ?_ _ | refine blk_drew ?_ | refine blk_alloc ?_ _)); refine blk_put (cs := #[.int .u64 t229, .int .u64 0]) ?_ 1 _ rfl; (with_reducible repeat (first | refine blk_drewN ?_ _ | refine blk_drew ?_ | refine blk_alloc ?_ _)); refine blk_put (cs := #[.int .u64 0, .int .u64 0]) ?_ 0 _ rfl; (with_reducible repeat (first | refine blk_drewN ?_ _ | refine blk_drew ?_ | refine blk_alloc ?_ _)); exact BK232.out⟩, ⟨by repeat (first | (with_reducible first | exact HB.out | apply below_alloc | apply pw_below_drewN | apply below_drew1 | refine below_set ?_ GE232.out) | exact HB.out)⟩⟩
                case rest =>
                  clear HC17
                  try clear c1
                  try clear c2
                  try clear p2
                  try clear q2
                  try clear hx2
                  try clear c4
                  try clear c5
                  try clear c5b0
                  try clear c5b1
                  try clear p6
                  try clear c8
                  try clear c8b0
                  try clear c8b1
                  try clear c13
                  try clear c13b0
                  try clear c14
                  try clear c14b0
                  try clear c15
                  try clear c15b0
                  try clear c16
                  try clear c18
                  try clear c19
                  try clear c21
                  try clear c21b0
                  try clear c21b1
                  try clear c22
                  try clear c22b0
                  try clear p22
                  try clear q22
                  try clear hx22
                  try clear p23
                  try clear q23
                  try clear hx23
                  try clear c24
                  try clear c24b0
                  try clear c25
                  try clear c25b0
                  try clear hcz20_0
                  try clear hcz20_1
                  try clear hfz20_0
                  try clear hfz20_1
                  try clear hx228_0
                  try clear hx233_0
                  try clear p2
                  try clear p228
                  try clear p233
                  try clear q228
                  try clear q233
                  obtain ⟨kq, x75_16, rfl, HA, HJ16, HO_8, HO_48, BK232, HB⟩ := hcut
                  cases kq with
                  | zero => exact absurd HA.out (by simp [medlarlaw09_SteinerHang.j1])
                  | succ kj16 =>
                    have H := HA.out
                    clear HA
                    simp only [medlarlaw09_SteinerHang.j1] at H
                    by_cases c26 : x75_16 = true
                    · subst c26
                      have H1 : (some false) = some r := by rw [if_pos rfl] at H; exact H
                      clear H
                      have H := H1
                      clear H1
                      exact absurd ((Option.some.inj H).trans hT.out) Bool.false_ne_true
                    · replace c26 := Bool.eq_false_iff.mpr c26
                      subst c26
                      have H1 : (if t229 ≤ a2 then (medlarlaw09_SteinerHang.j2 kj16 a0 l1 a2 t217 t218 (IntKind.u64.wrap (x10_1 + (IntKind.u64.wrap ((IntKind.u64.wrap (t230 - t229)) + 1)))) x11_1 t222 t223 (rd t218 x50_1) t218 (t218.length : Int) x50_1 (decide (a2 ≤ t230))) else (medlarlaw09_SteinerHang.j2 kj16 a0 l1 a2 t217 t218 (IntKind.u64.wrap (x10_1 + (IntKind.u64.wrap ((IntKind.u64.wrap (t230 - t229)) + 1)))) x11_1 t222 t223 (rd t218 x50_1) t218 (t218.length : Int) x50_1 false)) = some r := by rw [if_neg (show ¬ (false = true) by decide)] at H; exact H
                      clear H
                      have H := H1
                      clear H1
                      have HC27 := Aside0.mk H
                      clear H
                      have hcz28_0 : wc.cell? ⟨gb232, 0, none⟩ = some (.int .u64 t229) := (blk_cell BK232.out 0).trans rfl
                      have hcz28_1 : wc.cell? ⟨gb232, 1, none⟩ = some (.int .u64 t230) := (blk_cell BK232.out 1).trans rfl
                      have hfz28_0 := blk_frozen BK232.out 0
                      have hfz28_1 := blk_frozen BK232.out 1
                      go_upto_region 17 with (fail)
                      go_cut [93] (fun v93 wc => ∃ (kq : Nat) (x93_26 : Bool), v93 = .bool x93_26 ∧ Aside0 (medlarlaw09_SteinerHang.j2 kq a0 l1 a2 t217 t218 (IntKind.u64.wrap (x10_1 + (IntKind.u64.wrap ((IntKind.u64.wrap (t230 - t229)) + 1)))) x11_1 t222 t223 (rd t218 x50_1) t218 (t218.length : Int) x50_1 x93_26 = some r) ∧ Aside0 (kq ≤ kj16) ∧ Aside0 (Kd.R (Kd.int .u64) 29 wc w.heap.size (fun _ => True) (.slice (some ad228) t218.length co12) t218) ∧ Aside0 (Kd.R (Kd.int .u64) 29 wc w.heap.size (fun _ => True) (.slice (some ad228) t218.length co12) t218) ∧ Aside0 (wc.heap[gb232]? = some (.cells #[.int .u64 t229, .int .u64 t230] 34 (0, 0))) ∧ Aside0 (Below w.heap.size w wc))
                      case first =>
                        have H := HC27.out
                        clear HC27
                        by_cases c29 : t229 ≤ a2
                        · rw [if_pos c29] at H
                          have c29b0 : decide (t229 ≤ a2) = true := decide_eq_true c29
                          clear c29
                          (first | rw [c29b0] | (simp only [i64_w, i32_w]; rw [c29b0]) | skip)
                          have H' := Aside0.mk H
                          clear H
                          have hcz30_0 : wc.cell? ⟨gb232, 0, none⟩ = some (.int .u64 t229) := (blk_cell BK232.out 0).trans rfl
                          have hcz30_1 : wc.cell? ⟨gb232, 1, none⟩ = some (.int .u64 t230) := (blk_cell BK232.out 1).trans rfl
                          have hfz30_0 := blk_frozen BK232.out 0
                          have hfz30_1 := blk_frozen BK232.out 1
                          go_wp2
                          go_meet
                          case rel => exact ⟨_, (decide (a2 ≤ t230)), (by first | rfl | (simp; done) | (simp [*]; done)), H', ⟨by have := HK1.out; have := HJ16.out; first | omega | exact Nat.le_refl _⟩, ⟨by (with_reducible repeat (first | apply Kd.R_alloc | apply Kd.R_drewN | apply Kd.R_drew)); exact HO_8.out⟩, ⟨by (with_reducible repeat (first | apply Kd.R_alloc | apply Kd.R_drewN | apply Kd.R_drew)); exact HO_48.out⟩, ⟨by (with_reducible repeat (first | refine blk_drewN ?_ _ | refine blk_drew ?_ | refine blk_alloc ?_ _)); exact BK232.out⟩, ⟨by repeat (first | (with_reducible first | exact HB.out | apply below_alloc | apply pw_below_drewN | apply below_drew1 | refine below_set ?_ GE232.out) | exact HB.out)⟩⟩
                        · rw [if_neg c29] at H
                          have c29b0 : decide (t229 ≤ a2) = false := decide_eq_false c29
                          clear c29
                          (first | rw [c29b0] | (simp only [i64_w, i32_w]; rw [c29b0]) | skip)
                          have H' := Aside0.mk H
                          clear H
                          have hcz31_0 : wc.cell? ⟨gb232, 0, none⟩ = some (.int .u64 t229) := (blk_cell BK232.out 0).trans rfl
                          have hcz31_1 : wc.cell? ⟨gb232, 1, none⟩ = some (.int .u64 t230) := (blk_cell BK232.out 1).trans rfl
                          have hfz31_0 := blk_frozen BK232.out 0
                          have hfz31_1 := blk_frozen BK232.out 1
                          go_wp2
                          go_meet
                          case rel => exact ⟨_, (false), (by first | rfl | (simp; done) | (simp [*]; done)), H', ⟨by have := HK1.out; have := HJ16.out; first | omega | exact Nat.le_refl _⟩, ⟨by (with_reducible repeat (first | apply Kd.R_alloc | apply Kd.R_drewN | apply Kd.R_drew)); exact HO_8.out⟩, ⟨by (with_reducible repeat (first | apply Kd.R_alloc | apply Kd.R_drewN | apply Kd.R_drew)); exact HO_48.out⟩, ⟨by (with_reducible repeat (first | refine blk_drewN ?_ _ | refine blk_drew ?_ | refine blk_alloc ?_ _)); exact BK232.out⟩, ⟨by repeat (first | (with_reducible first | exact HB.out | apply below_alloc | apply pw_below_drewN | apply below_drew1 | refine below_set ?_ GE232.out) | exact HB.out)⟩⟩
                      case rest =>
                        clear HC27
                        try clear c1
                        try clear c2
                        try clear p2
                        try clear q2
                        try clear hx2
                        try clear c4
                        try clear c5
                        try clear c5b0
                        try clear c5b1
                        try clear p6
                        try clear c8
                        try clear c8b0
                        try clear c8b1
                        try clear c13
                        try clear c13b0
                        try clear c14
                        try clear c14b0
                        try clear c15
                        try clear c15b0
                        try clear c16
                        try clear c18
                        try clear c19
                        try clear c21
                        try clear c21b0
                        try clear c21b1
                        try clear c22
                        try clear c22b0
                        try clear p22
                        try clear q22
                        try clear hx22
                        try clear p23
                        try clear q23
                        try clear hx23
                        try clear c24
                        try clear c24b0
                        try clear c25
                        try clear c25b0
                        try clear c26
                        try clear c29
                        try clear c29b0
                        try clear hcz20_0
                        try clear hcz20_1
                        try clear hcz28_0
                        try clear hcz28_1
                        try clear hcz30_0
                        try clear hcz30_1
                        try clear hcz31_0
                        try clear hcz31_1
                        try clear hfz20_0
                        try clear hfz20_1
                        try clear hfz28_0
                        try clear hfz28_1
                        try clear hfz30_0
                        try clear hfz30_1
                        try clear hfz31_0
                        try clear hfz31_1
                        try clear hx228_0
                        try clear hx233_0
                        try clear p2
                        try clear p22
                        try clear p228
                        try clear p23
                        try clear p233
                        try clear p6
                        try clear q2
                        try clear q22
                        try clear q228
                        try clear q23
                        try clear q233
                        obtain ⟨kq, x93_26, rfl, HA, HJ26, HO_8, HO_48, BK232, HB⟩ := hcut
                        cases kq with
                        | zero => exact absurd HA.out (by simp [medlarlaw09_SteinerHang.j2])
                        | succ kj26 =>
                          have H := HA.out
                          clear HA
                          simp only [medlarlaw09_SteinerHang.j2] at H
                          by_cases c32 : x93_26 = true
                          · subst c32
                            have H1 : ((leaf_Below.f kj26 a0 l1 (rd t218 x50_1)).bind fun bt234 => (if bt234.2 = 0 then (if (bt234.1.length : Int) = 0 then (medlarlaw09_SteinerHang.l0 kj26 a0 l1 a2 t217 t218 (IntKind.u64.wrap (x10_1 + (IntKind.u64.wrap ((IntKind.u64.wrap (t230 - t229)) + 1)))) (wrap64 (x11_1 + 1)) t222 t223 t218 (t218.length : Int) (wrap64 (x50_1 + 1))) else (some false)) else (some false))) = some r := by rw [if_pos rfl] at H; exact H
                            clear H
                            have H := H1
                            clear H1
                            replace H := Option.bind_eq_some_iff.mp H
                            obtain ⟨⟨t234, t235⟩, A330, H⟩ := H
                            replace H : (if t235 = 0 then (if (t234.length : Int) = 0 then (medlarlaw09_SteinerHang.l0 kj26 a0 l1 a2 t217 t218 (IntKind.u64.wrap (x10_1 + (IntKind.u64.wrap ((IntKind.u64.wrap (t230 - t229)) + 1)))) (wrap64 (x11_1 + 1)) t222 t223 t218 (t218.length : Int) (wrap64 (x50_1 + 1))) else (some false)) else (some false)) = some r := H
                            have A33 := Aside0.mk A330
                            clear A330
                            by_cases c34 : t235 = 0
                            · rw [if_pos c34] at H
                              have c34b0 : (t235 == 0) = true := beq_iff_eq.mpr c34
                              have c34b1 : (t235 != 0) = false := bne_eq_false_iff_eq.mpr c34
                              clear c34
                              by_cases c35 : (t234.length : Int) = 0
                              · rw [if_pos c35] at H
                                have c35b0 : ((t234.length : Int) == 0) = true := beq_iff_eq.mpr c35
                                have c35b1 : ((t234.length : Int) != 0) = false := bne_eq_false_iff_eq.mpr c35
                                clear c35
                                have H' := Aside0.mk H
                                clear H
                                go_wp2_with (first | ((with_reducible refine gate_callee (f := 20) rfl ?_); refine goesL_ (some 100) rfl rfl Try.func20 (by kernel_rfl) rfl #[.int .i64 a0, .slice A1 l1.length c1, .int .u64 (rd t218 x50_1)] rfl (by (try simp only [List.map_toArray, List.map_cons, List.map_nil]); first | done | rfl | (simp only [List.length_drop, List.length_take]; rfl)) ?_; (with_reducible refine (leaf_Below.calls kj26 a0 _ _ l1 (rd t218 x50_1) t234 t235 _ ?side1 ?side2 A33.out).mono ?_); (case side1 => repeat (first | exact (Kd.C_below HR1.out HB.out) | (with_reducible refine Kd.C_alloc ?_ _) | (with_reducible refine Kd.C_drewN ?_ _) | (with_reducible refine Kd.C_drew ?_))); (case side2 => exact HC1.out); rintro e w36 ⟨v236, rfl, ho0, hb⟩; refine ⟨_, rfl, ?_⟩; have n0_ := Aside0.mk (Kd.R_elder' (by (with_reducible repeat (first | apply Kd.R_alloc | apply Kd.R_drewN | apply Kd.R_drew)); exact HO_8.out) (Kd.R_base ho0) hb); have n1_ := Aside0.mk (Kd.R_elder' (by (with_reducible repeat (first | apply Kd.R_alloc | apply Kd.R_drewN | apply Kd.R_drew)); exact HO_48.out) (Kd.R_base ho0) hb); have n2_ := Aside0.mk (Kd.R_lower (Kd.R_new' (Kd.R_new' ho0 (Kd.R_lt (by (with_reducible repeat (first | apply Kd.R_alloc | apply Kd.R_drewN | apply Kd.R_drew)); exact HO_8.out))) (Kd.R_lt (by (with_reducible repeat (first | apply Kd.R_alloc | apply Kd.R_drewN | apply Kd.R_drew)); exact HO_48.out))) (below_size (by repeat (first | (with_reducible first | exact HB.out | apply below_alloc | apply pw_below_drewN | apply below_drew1 | refine below_set ?_ GE232.out) | exact HB.out)))); have n3_ := Aside0.mk (blk_below (g := gb232) (o := .cells #[.int .u64 t229, .int .u64 t230] 34 (0, 0)) (by (with_reducible repeat (first | refine blk_drewN ?_ _ | refine blk_drew ?_ | refine blk_alloc ?_ _)); exact BK232.out) hb); have n4_ := Aside0.mk (below_step (by repeat (first | (with_reducible first | exact HB.out | apply below_alloc | apply pw_below_drewN | apply below_drew1 | refine below_set ?_ GE232.out) | exact HB.out)) hb); clear HO_8; clear HO_48; clear BK232; clear HB; have HO_8 := n0_; have HO_48 := n1_; have HO237 := n2_; have BK232 := n3_; have HB := n4_; clear n0_ n1_ n2_ n3_ n4_; (try clear hb); (try clear hb2); (try clear hk); (try clear hi); (try clear ho0); obtain ⟨Ao37, co37, eo37⟩ := Kd.R_slice HO237.out; subst eo37))
                                go_roundg kj26
                                case measure => have := HK1.out; have := HJ16.out; have := HJ26.out; omega
                                case rel => exact ⟨((IntKind.u64.wrap (x10_1 + (IntKind.u64.wrap ((IntKind.u64.wrap (t230 - t229)) + 1))))), (wrap64 (x11_1 + 1)), (wrap64 (x50_1 + 1)), (by first | rfl | (simp; done) | (simp [*]; done)), (by first | rfl | (simp; done) | (simp [*]; done)), (by first | rfl | (simp; done) | (simp [*]; done)), H', ⟨by have := HK1.out; have := HJ16.out; have := HJ26.out; omega⟩, ⟨by (with_reducible repeat (first | apply Kd.R_alloc | apply Kd.R_drewN | apply Kd.R_drew)); exact Kd.R_mono HO_8.out (fun _ hk => trivial)⟩, ⟨by (with_reducible repeat (first | apply Kd.R_alloc | apply Kd.R_drewN | apply Kd.R_drew)); exact Kd.R_mono HO_48.out (fun _ hk => trivial)⟩, ⟨by repeat (first | (with_reducible first | exact HB.out | apply below_alloc | apply pw_below_drewN | apply below_drew1 | refine below_set ?_ GE232.out) | exact HB.out)⟩⟩
                              · rw [if_neg c35] at H
                                have c35b0 : ((t234.length : Int) == 0) = false := beq_eq_false_iff_ne.mpr c35
                                have c35b1 : ((t234.length : Int) != 0) = true := bne_iff_ne.mpr c35
                                have c35b2 : ¬ (t234 = []) := fun h_ => c35 (by rw [h_]; rfl)
                                exact absurd ((Option.some.inj H).trans hT.out) Bool.false_ne_true
                            · rw [if_neg c34] at H
                              have c34b0 : (t235 == 0) = false := beq_eq_false_iff_ne.mpr c34
                              have c34b1 : (t235 != 0) = true := bne_iff_ne.mpr c34
                              exact absurd ((Option.some.inj H).trans hT.out) Bool.false_ne_true
                          · replace c32 := Bool.eq_false_iff.mpr c32
                            subst c32
                            have H1 : ((leaf_Below.f kj26 a0 l1 (rd t218 x50_1)).bind fun bt238 => (if bt238.2 = 0 then (if (bt238.1.length : Int) = 0 then (medlarlaw09_SteinerHang.l0 kj26 a0 l1 a2 t217 t218 (IntKind.u64.wrap (x10_1 + (IntKind.u64.wrap ((IntKind.u64.wrap (t230 - t229)) + 1)))) x11_1 t222 t223 t218 (t218.length : Int) (wrap64 (x50_1 + 1))) else (some false)) else (some false))) = some r := by rw [if_neg (show ¬ (false = true) by decide)] at H; exact H
                            clear H
                            have H := H1
                            clear H1
                            replace H := Option.bind_eq_some_iff.mp H
                            obtain ⟨⟨t238, t239⟩, A380, H⟩ := H
                            replace H : (if t239 = 0 then (if (t238.length : Int) = 0 then (medlarlaw09_SteinerHang.l0 kj26 a0 l1 a2 t217 t218 (IntKind.u64.wrap (x10_1 + (IntKind.u64.wrap ((IntKind.u64.wrap (t230 - t229)) + 1)))) x11_1 t222 t223 t218 (t218.length : Int) (wrap64 (x50_1 + 1))) else (some false)) else (some false)) = some r := H
                            have A38 := Aside0.mk A380
                            clear A380
                            by_cases c39 : t239 = 0
                            · rw [if_pos c39] at H
                              have c39b0 : (t239 == 0) = true := beq_iff_eq.mpr c39
                              have c39b1 : (t239 != 0) = false := bne_eq_false_iff_eq.mpr c39
                              clear c39
                              by_cases c40 : (t238.length : Int) = 0
                              · rw [if_pos c40] at H
                                have c40b0 : ((t238.length : Int) == 0) = true := beq_iff_eq.mpr c40
                                have c40b1 : ((t238.length : Int) != 0) = false := bne_eq_false_iff_eq.mpr c40
                                clear c40
                                have H' := Aside0.mk H
                                clear H
                                go_wp2_with (first | ((with_reducible refine gate_callee (f := 20) rfl ?_); refine goesL_ (some 100) rfl rfl Try.func20 (by kernel_rfl) rfl #[.int .i64 a0, .slice A1 l1.length c1, .int .u64 (rd t218 x50_1)] rfl (by (try simp only [List.map_toArray, List.map_cons, List.map_nil]); first | done | rfl | (simp only [List.length_drop, List.length_take]; rfl)) ?_; (with_reducible refine (leaf_Below.calls kj26 a0 _ _ l1 (rd t218 x50_1) t238 t239 _ ?side1 ?side2 A38.out).mono ?_); (case side1 => repeat (first | exact (Kd.C_below HR1.out HB.out) | (with_reducible refine Kd.C_alloc ?_ _) | (with_reducible refine Kd.C_drewN ?_ _) | (with_reducible refine Kd.C_drew ?_))); (case side2 => exact HC1.out); rintro e w41 ⟨v240, rfl, ho0, hb⟩; refine ⟨_, rfl, ?_⟩; have n0_ := Aside0.mk (Kd.R_elder' (by (with_reducible repeat (first | apply Kd.R_alloc | apply Kd.R_drewN | apply Kd.R_drew)); exact HO_8.out) (Kd.R_base ho0) hb); have n1_ := Aside0.mk (Kd.R_elder' (by (with_reducible repeat (first | apply Kd.R_alloc | apply Kd.R_drewN | apply Kd.R_drew)); exact HO_48.out) (Kd.R_base ho0) hb); have n2_ := Aside0.mk (Kd.R_lower (Kd.R_new' (Kd.R_new' ho0 (Kd.R_lt (by (with_reducible repeat (first | apply Kd.R_alloc | apply Kd.R_drewN | apply Kd.R_drew)); exact HO_8.out))) (Kd.R_lt (by (with_reducible repeat (first | apply Kd.R_alloc | apply Kd.R_drewN | apply Kd.R_drew)); exact HO_48.out))) (below_size (by repeat (first | (with_reducible first | exact HB.out | apply below_alloc | apply pw_below_drewN | apply below_drew1 | refine below_set ?_ GE232.out) | exact HB.out)))); have n3_ := Aside0.mk (blk_below (g := gb232) (o := .cells #[.int .u64 t229, .int .u64 t230] 34 (0, 0)) (by (with_reducible repeat (first | refine blk_drewN ?_ _ | refine blk_drew ?_ | refine blk_alloc ?_ _)); exact BK232.out) hb); have n4_ := Aside0.mk (below_step (by repeat (first | (with_reducible first | exact HB.out | apply below_alloc | apply pw_below_drewN | apply below_drew1 | refine below_set ?_ GE232.out) | exact HB.out)) hb); clear HO_8; clear HO_48; clear BK232; clear HB; have HO_8 := n0_; have HO_48 := n1_; have HO241 := n2_; have BK232 := n3_; have HB := n4_; clear n0_ n1_ n2_ n3_ n4_; (try clear hb); (try clear hb2); (try clear hk); (try clear hi); (try clear ho0); obtain ⟨Ao42, co42, eo42⟩ := Kd.R_slice HO241.out; subst eo42))
                                go_roundg kj26
                                case measure => have := HK1.out; have := HJ16.out; have := HJ26.out; omega
                                case rel => exact ⟨((IntKind.u64.wrap (x10_1 + (IntKind.u64.wrap ((IntKind.u64.wrap (t230 - t229)) + 1))))), (x11_1), (wrap64 (x50_1 + 1)), (by first | rfl | (simp; done) | (simp [*]; done)), (by first | rfl | (simp; done) | (simp [*]; done)), (by first | rfl | (simp; done) | (simp [*]; done)), H', ⟨by have := HK1.out; have := HJ16.out; have := HJ26.out; omega⟩, ⟨by (with_reducible repeat (first | apply Kd.R_alloc | apply Kd.R_drewN | apply Kd.R_drew)); exact Kd.R_mono HO_8.out (fun _ hk => trivial)⟩, ⟨by (with_reducible repeat (first | apply Kd.R_alloc | apply Kd.R_drewN | apply Kd.R_drew)); exact Kd.R_mono HO_48.out (fun _ hk => trivial)⟩, ⟨by repeat (first | (with_reducible first | exact HB.out | apply below_alloc | apply pw_below_drewN | apply below_drew1 | refine below_set ?_ GE232.out) | exact HB.out)⟩⟩
                              · rw [if_neg c40] at H
                                have c40b0 : ((t238.length : Int) == 0) = false := beq_eq_false_iff_ne.mpr c40
                                have c40b1 : ((t238.length : Int) != 0) = true := bne_iff_ne.mpr c40
                                have c40b2 : ¬ (t238 = []) := fun h_ => c40 (by rw [h_]; rfl)
                                exact absurd ((Option.some.inj H).trans hT.out) Bool.false_ne_true
                            · rw [if_neg c39] at H
                              have c39b0 : (t239 == 0) = false := beq_eq_false_iff_ne.mpr c39
                              have c39b1 : (t239 != 0) = true := bne_iff_ne.mpr c39
                              exact absurd ((Option.some.inj H).trans hT.out) Bool.false_ne_true
              · rw [if_neg c15] at H
                exact absurd H (by simp)
            · rw [if_neg c14] at H
              exact absurd H (by simp)
          · rw [if_neg c13] at H
            have c13b0 : decide (x50_1 < (t218.length : Int)) = false := decide_eq_false c13
            clear c13
            replace H := Option.bind_eq_some_iff.mp H
            obtain ⟨⟨t224, t225, t226⟩, A430, H⟩ := H
            replace H : (if t226 = 0 then (if (IntKind.u64.wrap (x10_1 + (IntKind.u64.wrap ((l1.length : Int))))) = (IntKind.u64.wrap (t225 + 1)) then (if t217 = true then (if t223 = 0 then (if x11_1 ≤ 1 then (some ((x11_1 == 1) == (!t222))) else (some false)) else (some true)) else (some false)) else (some false)) else (some false)) = some r := H
            have A43 := Aside0.mk A430
            clear A430
            by_cases c44 : t226 = 0
            · rw [if_pos c44] at H
              have c44b0 : (t226 == 0) = true := beq_iff_eq.mpr c44
              have c44b1 : (t226 != 0) = false := bne_eq_false_iff_eq.mpr c44
              clear c44
              by_cases c45 : (IntKind.u64.wrap (x10_1 + (IntKind.u64.wrap ((l1.length : Int))))) = (IntKind.u64.wrap (t225 + 1))
              · rw [if_pos c45] at H
                have c45b0 : ((IntKind.u64.wrap (x10_1 + (IntKind.u64.wrap ((l1.length : Int))))) == (IntKind.u64.wrap (t225 + 1))) = true := beq_iff_eq.mpr c45
                have c45b1 : ((IntKind.u64.wrap (x10_1 + (IntKind.u64.wrap ((l1.length : Int))))) != (IntKind.u64.wrap (t225 + 1))) = false := bne_eq_false_iff_eq.mpr c45
                clear c45
                by_cases c46 : t217 = true
                · subst c46
                  have H1 : (if t223 = 0 then (if x11_1 ≤ 1 then (some ((x11_1 == 1) == (!t222))) else (some false)) else (some true)) = some r := by rw [if_pos rfl] at H; exact H
                  clear H
                  have H := H1
                  clear H1
                  by_cases c47 : t223 = 0
                  · rw [if_pos c47] at H
                    have c47b0 : (t223 == 0) = true := beq_iff_eq.mpr c47
                    have c47b1 : (t223 != 0) = false := bne_eq_false_iff_eq.mpr c47
                    clear c47
                    by_cases c48 : x11_1 ≤ 1
                    · rw [if_pos c48] at H
                      have c48b0 : decide (x11_1 ≤ 1) = true := decide_eq_true c48
                      clear c48
                      obtain rfl := Option.some.inj H
                      go_wp2_with (first | ((with_reducible refine gate_callee (f := 19) rfl ?_); refine goesL_ (some 113) rfl rfl Try.func19 (by kernel_rfl) rfl #[.int .i64 a0, .int .u64 1] rfl (by (try simp only [List.map_toArray, List.map_cons, List.map_nil]); first | done | rfl | (simp only [List.length_drop, List.length_take]; rfl)) ?_; (with_reducible refine (node_Leaves.calls k1 a0 1 t224 t225 t226 _ A43.out).mono ?_); rintro e w49 ⟨rfl, hb⟩; refine ⟨_, rfl, ?_⟩; have n0_ := Aside0.mk (Kd.R_below (by (with_reducible repeat (first | apply Kd.R_alloc | apply Kd.R_drewN | apply Kd.R_drew)); exact HO_8.out) hb); have n1_ := Aside0.mk (Kd.R_below (by (with_reducible repeat (first | apply Kd.R_alloc | apply Kd.R_drewN | apply Kd.R_drew)); exact HO_48.out) hb); have n2_ := Aside0.mk (below_step (by repeat (first | (with_reducible first | exact HB.out | apply below_alloc | apply pw_below_drewN | apply below_drew1) | exact HB.out)) hb); clear HO_8; clear HO_48; clear HB; have HO_8 := n0_; have HO_48 := n1_; have HB := n2_; clear n0_ n1_ n2_; (try clear hb); (try clear hb2); (try clear hk); (try clear hi)) | ((with_reducible refine gate_dst (N := 20) rfl ?_); (try (refine gate_guard (by rfl) ?_; dsimp only)); refine box_event ?hg (N := 20) ?hd (cs := #[.int .u64 0, .int .u64 0]) (t := 34) ?hr ?_; (case hd => rfl); (case hg => rfl); (case hr => first | (go_simp; done) | (go_simp; rfl)); intro gb227 hg w50 hbox hb; have n0_ := Aside0.mk (Kd.R_below (by (with_reducible repeat (first | apply Kd.R_alloc | apply Kd.R_drewN | apply Kd.R_drew)); exact HO_8.out) hb); have n1_ := Aside0.mk (Kd.R_below (by (with_reducible repeat (first | apply Kd.R_alloc | apply Kd.R_drewN | apply Kd.R_drew)); exact HO_48.out) hb); have n2_ := Aside0.mk (below_step (by repeat (first | (with_reducible first | exact HB.out | apply below_alloc | apply pw_below_drewN | apply below_drew1) | exact HB.out)) hb); have n3_ := Aside0.mk (hbox); have n4_ := Aside0.mk ((by rw [hg]; exact (below_size (by repeat (first | (with_reducible first | exact HB.out | apply below_alloc | apply pw_below_drewN | apply below_drew1) | exact HB.out))) : w.heap.size ≤ gb227)); have n5_ := Aside0.mk ((by rw [hg]; exact (below_size (by repeat (first | (with_reducible first | exact HB.out | apply below_alloc | apply pw_below_drewN | apply below_drew1) | exact HB.out))) : w.heap.size ≤ gb227)); clear HO_8; clear HO_48; clear HB; have HO_8 := n0_; have HO_48 := n1_; have HB := n2_; have BK227 := n3_; have GW227 := n4_; have GE227 := n5_; clear n0_ n1_ n2_ n3_ n4_ n5_; clear hb hbox hg; have hcz51_0 : w50.cell? ⟨gb227, 0, none⟩ = some (.int .u64 0) := (blk_cell BK227.out 0).trans rfl; have hcz51_1 : w50.cell? ⟨gb227, 1, none⟩ = some (.int .u64 0) := (blk_cell BK227.out 1).trans rfl; have hfz51_0 := blk_frozen BK227.out 0; have hfz51_1 := blk_frozen BK227.out 1))
                      go_ret
                      exact ⟨by first | rfl | (simp [errW_none, errW_some] <;> rfl) | (simp [*, errW_none, errW_some] <;> rfl), by repeat (first | (with_reducible first | exact HB.out | apply below_alloc | apply pw_below_drewN | apply below_drew1 | refine below_set ?_ GE227.out) | exact HB.out)⟩
                    · rw [if_neg c48] at H
                      have c48b0 : decide (x11_1 ≤ 1) = false := decide_eq_false c48
                      clear c48
                      exact absurd ((Option.some.inj H).trans hT.out) Bool.false_ne_true
                  · rw [if_neg c47] at H
                    have c47b0 : (t223 == 0) = false := beq_eq_false_iff_ne.mpr c47
                    have c47b1 : (t223 != 0) = true := bne_iff_ne.mpr c47
                    obtain rfl := Option.some.inj H
                    go_wp2_with (first | ((with_reducible refine gate_callee (f := 19) rfl ?_); refine goesL_ (some 113) rfl rfl Try.func19 (by kernel_rfl) rfl #[.int .i64 a0, .int .u64 1] rfl (by (try simp only [List.map_toArray, List.map_cons, List.map_nil]); first | done | rfl | (simp only [List.length_drop, List.length_take]; rfl)) ?_; (with_reducible refine (node_Leaves.calls k1 a0 1 t224 t225 t226 _ A43.out).mono ?_); rintro e w52 ⟨rfl, hb⟩; refine ⟨_, rfl, ?_⟩; have n0_ := Aside0.mk (Kd.R_below (by (with_reducible repeat (first | apply Kd.R_alloc | apply Kd.R_drewN | apply Kd.R_drew)); exact HO_8.out) hb); have n1_ := Aside0.mk (Kd.R_below (by (with_reducible repeat (first | apply Kd.R_alloc | apply Kd.R_drewN | apply Kd.R_drew)); exact HO_48.out) hb); have n2_ := Aside0.mk (below_step (by repeat (first | (with_reducible first | exact HB.out | apply below_alloc | apply pw_below_drewN | apply below_drew1) | exact HB.out)) hb); clear HO_8; clear HO_48; clear HB; have HO_8 := n0_; have HO_48 := n1_; have HB := n2_; clear n0_ n1_ n2_; (try clear hb); (try clear hb2); (try clear hk); (try clear hi)) | ((with_reducible refine gate_dst (N := 20) rfl ?_); (try (refine gate_guard (by rfl) ?_; dsimp only)); refine box_event ?hg (N := 20) ?hd (cs := #[.int .u64 0, .int .u64 0]) (t := 34) ?hr ?_; (case hd => rfl); (case hg => rfl); (case hr => first | (go_simp; done) | (go_simp; rfl)); intro gb227 hg w53 hbox hb; have n0_ := Aside0.mk (Kd.R_below (by (with_reducible repeat (first | apply Kd.R_alloc | apply Kd.R_drewN | apply Kd.R_drew)); exact HO_8.out) hb); have n1_ := Aside0.mk (Kd.R_below (by (with_reducible repeat (first | apply Kd.R_alloc | apply Kd.R_drewN | apply Kd.R_drew)); exact HO_48.out) hb); have n2_ := Aside0.mk (below_step (by repeat (first | (with_reducible first | exact HB.out | apply below_alloc | apply pw_below_drewN | apply below_drew1) | exact HB.out)) hb); have n3_ := Aside0.mk (hbox); have n4_ := Aside0.mk ((by rw [hg]; exact (below_size (by repeat (first | (with_reducible first | exact HB.out | apply below_alloc | apply pw_below_drewN | apply below_drew1) | exact HB.out))) : w.heap.size ≤ gb227)); have n5_ := Aside0.mk ((by rw [hg]; exact (below_size (by repeat (first | (with_reducible first | exact HB.out | apply below_alloc | apply pw_below_drewN | apply below_drew1) | exact HB.out))) : w.heap.size ≤ gb227)); clear HO_8; clear HO_48; clear HB; have HO_8 := n0_; have HO_48 := n1_; have HB := n2_; have BK227 := n3_; have GW227 := n4_; have GE227 := n5_; clear n0_ n1_ n2_ n3_ n4_ n5_; clear hb hbox hg; have hcz54_0 : w53.cell? ⟨gb227, 0, none⟩ = some (.int .u64 0) := (blk_cell BK227.out 0).trans rfl; have hcz54_1 : w53.cell? ⟨gb227, 1, none⟩ = some (.int .u64 0) := (blk_cell BK227.out 1).trans rfl; have hfz54_0 := blk_frozen BK227.out 0; have hfz54_1 := blk_frozen BK227.out 1))
                    go_ret
                    exact ⟨by first | rfl | (simp [errW_none, errW_some] <;> rfl) | (simp [*, errW_none, errW_some] <;> rfl), by repeat (first | (with_reducible first | exact HB.out | apply below_alloc | apply pw_below_drewN | apply below_drew1 | refine below_set ?_ GE227.out) | exact HB.out)⟩
                · replace c46 := Bool.eq_false_iff.mpr c46
                  subst c46
                  have H1 : (some false) = some r := by rw [if_neg (show ¬ (false = true) by decide)] at H; exact H
                  clear H
                  have H := H1
                  clear H1
                  exact absurd ((Option.some.inj H).trans hT.out) Bool.false_ne_true
              · rw [if_neg c45] at H
                have c45b0 : ((IntKind.u64.wrap (x10_1 + (IntKind.u64.wrap ((l1.length : Int))))) == (IntKind.u64.wrap (t225 + 1))) = false := beq_eq_false_iff_ne.mpr c45
                have c45b1 : ((IntKind.u64.wrap (x10_1 + (IntKind.u64.wrap ((l1.length : Int))))) != (IntKind.u64.wrap (t225 + 1))) = true := bne_iff_ne.mpr c45
                exact absurd ((Option.some.inj H).trans hT.out) Bool.false_ne_true
            · rw [if_neg c44] at H
              have c44b0 : (t226 == 0) = false := beq_eq_false_iff_ne.mpr c44
              have c44b1 : (t226 != 0) = true := bne_iff_ne.mpr c44
              exact absurd ((Option.some.inj H).trans hT.out) Bool.false_ne_true
    · rw [if_neg c8] at H
      have c8b0 : (t219 == 0) = false := beq_eq_false_iff_ne.mpr c8
      have c8b1 : (t219 != 0) = true := bne_iff_ne.mpr c8
      by_cases c55 : t217 = true
      · subst c55
        have H1 : (some ((t218.length : Int) == 0)) = some r := by rw [if_pos rfl] at H; exact H
        clear H
        have H := H1
        clear H1
        obtain rfl := Option.some.inj H
        go_enter Try.func4, Try.ntmps4
        go_wp2_with (first | ((with_reducible refine gate_callee (f := 14) rfl ?_); refine goesL_ (some 22) rfl rfl Try.func14 (by kernel_rfl) rfl #[] rfl (by (try simp only [List.map_toArray, List.map_cons, List.map_nil]); first | done | rfl | (simp only [List.length_drop, List.length_take]; rfl)) ?_; (with_reducible refine (medlarlaw09_live.calls k  true _ A4.out).mono ?_); rintro e w56 ⟨rfl, hb⟩; refine ⟨_, rfl, ?_⟩; have n0_ := Aside0.mk (below_step (by repeat (first | (with_reducible first | exact HB.out | apply below_alloc | apply pw_below_drewN | apply below_drew1) | exact HB.out)) hb); clear HB; have HB := n0_; clear n0_; (try clear hb); (try clear hb2); (try clear hk); (try clear hi)) | ((with_reducible refine gate_callee (f := 16) rfl ?_); refine goesL_ (some 30) rfl rfl Try.func16 (by kernel_rfl) rfl #[.int .i64 a0, .slice A1 l1.length c1] rfl (by (try simp only [List.map_toArray, List.map_cons, List.map_nil]); first | done | rfl | (simp only [List.length_drop, List.length_take]; rfl)) ?_; (with_reducible refine (steiner_Hang.calls k a0 _ _ l1 t218 t219 _ ?side1 ?side2 A7.out).mono ?_); (case side1 => repeat (first | exact (Kd.C_below HR1.out HB.out) | (with_reducible refine Kd.C_alloc ?_ _) | (with_reducible refine Kd.C_drewN ?_ _) | (with_reducible refine Kd.C_drew ?_))); (case side2 => exact HC1.out); rintro e w57 ⟨v220, rfl, ho0, hb⟩; refine ⟨_, rfl, ?_⟩; have n0_ := Aside0.mk (Kd.R_lower ho0 (below_size (by repeat (first | (with_reducible first | exact HB.out | apply below_alloc | apply pw_below_drewN | apply below_drew1) | exact HB.out)))); have n1_ := Aside0.mk (below_step (by repeat (first | (with_reducible first | exact HB.out | apply below_alloc | apply pw_below_drewN | apply below_drew1) | exact HB.out)) hb); clear HB; have HO221 := n0_; have HB := n1_; clear n0_ n1_; (try clear hb); (try clear hb2); (try clear hk); (try clear hi); (try clear ho0); obtain ⟨Ao58, co58, eo58⟩ := Kd.R_slice HO221.out; subst eo58))
        go_ret
        exact ⟨by first | rfl | (simp [errW_none, errW_some] <;> rfl) | (simp [*, errW_none, errW_some] <;> rfl), by repeat (first | (with_reducible first | exact HB.out | apply below_alloc | apply pw_below_drewN | apply below_drew1) | exact HB.out)⟩
      · replace c55 := Bool.eq_false_iff.mpr c55
        subst c55
        have H1 : (some false) = some r := by rw [if_neg (show ¬ (false = true) by decide)] at H; exact H
        clear H
        have H := H1
        clear H1
        exact absurd ((Option.some.inj H).trans hT.out) Bool.false_ne_true

/-- THE ONE PURE STATEMENT of medlarlaw09_SteinerHang: yours. -/
def medlarlaw09_SteinerHang.Pure : Prop := ∀ (a0 : Int) (l1 : List Int) (a2 : Int), (Lit.int .i64 a0).wf = true → l1.length ≤ maxLen → l1.length * 8 ≤ 140737488351232 → (∀ x ∈ l1, (Lit.int .u64 x).wf = true) → (Lit.int .u64 a2).wf = true → ∃ k, medlarlaw09_SteinerHang.f k a0 l1 a2 = some true
theorem medlarlaw09_SteinerHang.walk (P : medlarlaw09_SteinerHang.Pure) (a0 : Int) (a1 : Option Addr) (len1 cap1 : Nat) (z1 : List Int) (a2 : Int) (w : World) (w0 : (Lit.int .i64 a0).wf = true) (w1 : (a1 = none ∧ len1 = 0 ∧ cap1 = 0 ∧ z1 = []) ∨ ∃ x, a1 = some x ∧ len1 ≤ cap1 ∧ cap1 ≤ maxLen ∧ z1.length = cap1 ∧ (∀ i, i < z1.length → w.cell? (x.add i) = some (.int .u64 (z1.getD i 0))) ∧ ∀ n ∈ z1, (Lit.int .u64 n).wf = true) (y1 : len1 * 8 ≤ 140737488351232) (w2 : (Lit.int .u64 a2).wf = true) :
    Calls Try.prog 4 #[.int .i64 a0, .slice a1 len1 cap1, .int .u64 a2] w fun e w' => e = .returned (.bool true) ∧ Below w.heap.size w w' := by
  obtain ⟨l1, rfl, hr1, hm1, hw1, hc1⟩ := ReadsInt.ofRowC w1
  obtain ⟨k, h⟩ := P a0 l1 a2 w0 hm1 y1 hw1 w2
  refine (medlarlaw09_SteinerHang.calls k a0 _ _ l1 a2 true w (Kd.C_of_reads (d := (0 : Int)) (h1 := fun _ => rfl) hr1) hc1 h ⟨rfl⟩).mono ?_
  rintro e w' ⟨rfl, hd⟩
  exact ⟨rfl, hd⟩

end Go.Proofs.Ytoikjfcdpiikbaa.MP
