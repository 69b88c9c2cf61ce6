-- written by a program of this session (wip/tools/mprint.sh) for this seat
import Derived.Test.YtnbiddloiiljjaaMPx0
import Derived.Test.YtnbiddloiiljjaaMPx2
import Derived.Test.YtnbiddloiiljjaaMPx3
import Derived.Test.YtnbiddloiiljjaaMPx4
import Derived.Test.YtnbiddloiiljjaaMPx5
namespace Go.Proofs.Ytnbiddloiiljjaa.MP
open Go.RowKit Go.Proofs.YtnbiddloiiljjaaW.PrintWords Go.Proofs.YtnbiddloiiljjaaW.PrintLast Go.Proofs.YtnbiddloiiljjaaW.PrintMore
attribute [local go_sem] max2_int min2_int max_two min_two max_three min_three max_four min_four   -- for this text's walks alone
set_option linter.unusedVariables false
set_option linter.unusedSimpArgs false

/-! ### medlarlaw23_TraceHalves: function 3 -/
mutual
def medlarlaw23_TraceHalves.j0 : Nat → Int → Int → Int → Bool → List (S24) → Int → Int → Bool → Int → Int → Option (Bool)
  | 0, _, _, _, _, _, _, _, _, _, _ => none
  | k + 1, x0, x1, x3, x9, x10, x11, x14, x70, x245000, x245001 => if x70 = true then (some false) else (if x11 = 0 then ((sub_Has.f k x0 x245000 x245001 x3).bind fun bt256 => (if (x10.length : Int) = 2 then (medlarlaw23_TraceHalves.l0 k x0 x1 x3 x9 x14 bt256.1 bt256.2 0 0 x10 (x10.length : Int) 0) else (some false))) else (if x9 = true then (if x11 = 4 then (some ((x10.length : Int) == 0)) else (some false)) else (some false)))
def medlarlaw23_TraceHalves.l0 : Nat → Int → Int → Int → Bool → Int → Bool → Int → Int → Int → List (S24) → Int → Int → Option (Bool)
  | 0, _, _, _, _, _, _, _, _, _, _, _, _ => none
  | k + 1, x0, x1, x3, x9, x14, x16, x17, x18, x19, x93, x94, x95 => if x95 < x94 then (if 0 ≤ x95 then (if x95 < (x93.length : Int) then ((layer_May.f k x0 x1 ((rd_T24 x93 x95).f0) ((rd_T24 x93 x95).f1)).bind fun bt260 => ((sub_Leaves.f k x0 ((rd_T24 x93 x95).f0) ((rd_T24 x93 x95).f1)).bind fun bt262 => ((leaf_Many.f k x0 bt262.1).bind fun bt266 => (if bt260.2 = 0 then (if bt260.1 = true then (if bt262.2 = 0 then (medlarlaw23_TraceHalves.j2 k x0 x1 x3 x9 x14 x16 x17 x18 x19 bt266.1 x93 x94 x95 (bt266.2 != 0) ((rd_T24 x93 x95).f0) ((rd_T24 x93 x95).f1)) else (medlarlaw23_TraceHalves.j2 k x0 x1 x3 x9 x14 x16 x17 x18 x19 bt266.1 x93 x94 x95 true ((rd_T24 x93 x95).f0) ((rd_T24 x93 x95).f1))) else (medlarlaw23_TraceHalves.j2 k x0 x1 x3 x9 x14 x16 x17 x18 x19 bt266.1 x93 x94 x95 true ((rd_T24 x93 x95).f0) ((rd_T24 x93 x95).f1))) else (medlarlaw23_TraceHalves.j2 k x0 x1 x3 x9 x14 x16 x17 x18 x19 bt266.1 x93 x94 x95 true ((rd_T24 x93 x95).f0) ((rd_T24 x93 x95).f1)))))) else (none)) else (none)) else (if x9 = true then (if x18 = x14 then (if x17 = 0 then (if x19 ≤ 1 then (some ((x19 == 1) == x16)) else (some false)) else (some true)) else (some false)) else (some false))
def medlarlaw23_TraceHalves.j2 : Nat → Int → Int → Int → Bool → Int → Bool → Int → Int → Int → Int → List (S24) → Int → Int → Bool → Int → Int → Option (Bool)
  | 0, _, _, _, _, _, _, _, _, _, _, _, _, _, _, _, _ => none
  | k + 1, x0, x1, x3, x9, x14, x16, x17, x18, x19, x26, x93, x94, x95, x131, x260000, x260001 => if x131 = true then (some false) else ((sub_Has.f k x0 x260000 x260001 x3).bind fun bt268 => (if bt268.2 = 0 then (if bt268.1 = true then (medlarlaw23_TraceHalves.l0 k x0 x1 x3 x9 x14 x16 x17 (IntKind.u64.wrap (x18 + x26)) (wrap64 (x19 + 1)) x93 x94 (wrap64 (x95 + 1))) else (medlarlaw23_TraceHalves.l0 k x0 x1 x3 x9 x14 x16 x17 (IntKind.u64.wrap (x18 + x26)) x19 x93 x94 (wrap64 (x95 + 1)))) else (medlarlaw23_TraceHalves.l0 k x0 x1 x3 x9 x14 x16 x17 (IntKind.u64.wrap (x18 + x26)) x19 x93 x94 (wrap64 (x95 + 1)))))
end
def medlarlaw23_TraceHalves.f (k : Nat) (a0 : Int) (a1 : Int) (a2_0 : Int) (a2_1 : Int) (a3 : Int) : Option (Bool) := (medlarlaw23_live.f k).bind fun t245 => ((trace_Halves.f k a0 a1 a2_0 a2_1).bind fun bt246 => (if bt246.2 = 1 then (if t245 = true then (some ((bt246.1.length : Int) == 0)) else (some false)) else ((sub_Leaves.f k a0 a2_0 a2_1).bind fun bt250 => ((leaf_Many.f k a0 bt250.1).bind fun bt254 => (if bt250.2 = 0 then (if bt254.2 = 0 then (medlarlaw23_TraceHalves.j0 k a0 a1 a3 t245 bt246.1 bt246.2 bt254.1 ((bt246.2 == 4) != (bt254.1 == 1)) a2_0 a2_1) else (medlarlaw23_TraceHalves.j0 k a0 a1 a3 t245 bt246.1 bt246.2 bt254.1 true a2_0 a2_1)) else (medlarlaw23_TraceHalves.j0 k a0 a1 a3 t245 bt246.1 bt246.2 bt254.1 true a2_0 a2_1))))))
theorem medlarlaw23_TraceHalves.mono_l : ∀ k, (∀ y0 y1 y2 y3 y4 y5 y6 y7 y8 y9, LeO (medlarlaw23_TraceHalves.j0 k y0 y1 y2 y3 y4 y5 y6 y7 y8 y9) (medlarlaw23_TraceHalves.j0 (k + 1) y0 y1 y2 y3 y4 y5 y6 y7 y8 y9)) ∧ (∀ y0 y1 y2 y3 y4 y5 y6 y7 y8 y9 y10 y11, LeO (medlarlaw23_TraceHalves.l0 k y0 y1 y2 y3 y4 y5 y6 y7 y8 y9 y10 y11) (medlarlaw23_TraceHalves.l0 (k + 1) y0 y1 y2 y3 y4 y5 y6 y7 y8 y9 y10 y11)) ∧ (∀ y0 y1 y2 y3 y4 y5 y6 y7 y8 y9 y10 y11 y12 y13 y14 y15, LeO (medlarlaw23_TraceHalves.j2 k y0 y1 y2 y3 y4 y5 y6 y7 y8 y9 y10 y11 y12 y13 y14 y15) (medlarlaw23_TraceHalves.j2 (k + 1) y0 y1 y2 y3 y4 y5 y6 y7 y8 y9 y10 y11 y12 y13 y14 y15))
  | 0 => ⟨fun _ _ _ _ _ _ _ _ _ _ r h => by simp [medlarlaw23_TraceHalves.j0] at h, fun _ _ _ _ _ _ _ _ _ _ _ _ r h => by simp [medlarlaw23_TraceHalves.l0] at h, fun _ _ _ _ _ _ _ _ _ _ _ _ _ _ _ _ r h => by simp [medlarlaw23_TraceHalves.j2] at h⟩
  | k + 1 => by
    obtain ⟨ih0, ih1, ih2⟩ := medlarlaw23_TraceHalves.mono_l k
    refine ⟨?_, ?_, ?_⟩
    · intro y0 y1 y2 y3 y4 y5 y6 y7 y8 y9
      unfold medlarlaw23_TraceHalves.j0
      repeat' first
      | (with_reducible exact ih0 _ _ _ _ _ _ _ _ _ _)
      | (with_reducible exact ih1 _ _ _ _ _ _ _ _ _ _ _ _)
      | (with_reducible exact ih2 _ _ _ _ _ _ _ _ _ _ _ _ _ _ _ _)
      | (with_reducible exact layer_May.mono _ _ _ _ _)
      | (with_reducible exact leaf_Many.mono _ _ _)
      | (with_reducible exact medlarlaw23_live.mono _)
      | (with_reducible exact sub_Has.mono _ _ _ _ _)
      | (with_reducible exact sub_Leaves.mono _ _ _ _)
      | (with_reducible exact trace_Halves.mono _ _ _ _ _)
      | (with_reducible exact LeO.refl _)
      | (with_reducible exact LeO.none _)
      | (with_reducible refine LeO.ite ?_ ?_)
      | (with_reducible refine LeO.bind ?_ (fun _ => ?_))
      | exact ih0 _ _ _ _ _ _ _ _ _ _
      | exact ih1 _ _ _ _ _ _ _ _ _ _ _ _
      | exact ih2 _ _ _ _ _ _ _ _ _ _ _ _ _ _ _ _
      | exact layer_May.mono _ _ _ _ _
      | exact leaf_Many.mono _ _ _
      | exact medlarlaw23_live.mono _
      | exact sub_Has.mono _ _ _ _ _
      | exact sub_Leaves.mono _ _ _ _
      | exact trace_Halves.mono _ _ _ _ _
      | exact LeO.none _
      | refine LeO.ite ?_ ?_
      | refine LeO.bind ?_ (fun _ => ?_)
    · intro y0 y1 y2 y3 y4 y5 y6 y7 y8 y9 y10 y11
      unfold medlarlaw23_TraceHalves.l0
      repeat' first
      | (with_reducible exact ih0 _ _ _ _ _ _ _ _ _ _)
      | (with_reducible exact ih1 _ _ _ _ _ _ _ _ _ _ _ _)
      | (with_reducible exact ih2 _ _ _ _ _ _ _ _ _ _ _ _ _ _ _ _)
      | (with_reducible exact layer_May.mono _ _ _ _ _)
      | (with_reducible exact leaf_Many.mono _ _ _)
      | (with_reducible exact medlarlaw23_live.mono _)
      | (with_reducible exact sub_Has.mono _ _ _ _ _)
      | (with_reducible exact sub_Leaves.mono _ _ _ _)
      | (with_reducible exact trace_Halves.mono _ _ _ _ _)
      | (with_reducible exact LeO.refl _)
      | (with_reducible exact LeO.none _)
      | (with_reducible refine LeO.ite ?_ ?_)
      | (with_reducible refine LeO.bind ?_ (fun _ => ?_))
      | exact ih0 _ _ _ _ _ _ _ _ _ _
      | exact ih1 _ _ _ _ _ _ _ _ _ _ _ _
      | exact ih2 _ _ _ _ _ _ _ _ _ _ _ _ _ _ _ _
      | exact layer_May.mono _ _ _ _ _
      | exact leaf_Many.mono _ _ _
      | exact medlarlaw23_live.mono _
      | exact sub_Has.mono _ _ _ _ _
      | exact sub_Leaves.mono _ _ _ _
      | exact trace_Halves.mono _ _ _ _ _
      | exact LeO.none _
      | refine LeO.ite ?_ ?_
      | refine LeO.bind ?_ (fun _ => ?_)
    · intro y0 y1 y2 y3 y4 y5 y6 y7 y8 y9 y10 y11 y12 y13 y14 y15
      unfold medlarlaw23_TraceHalves.j2
      repeat' first
      | (with_reducible exact ih0 _ _ _ _ _ _ _ _ _ _)
      | (with_reducible exact ih1 _ _ _ _ _ _ _ _ _ _ _ _)
      | (with_reducible exact ih2 _ _ _ _ _ _ _ _ _ _ _ _ _ _ _ _)
      | (with_reducible exact layer_May.mono _ _ _ _ _)
      | (with_reducible exact leaf_Many.mono _ _ _)
      | (with_reducible exact medlarlaw23_live.mono _)
      | (with_reducible exact sub_Has.mono _ _ _ _ _)
      | (with_reducible exact sub_Leaves.mono _ _ _ _)
      | (with_reducible exact trace_Halves.mono _ _ _ _ _)
      | (with_reducible exact LeO.refl _)
      | (with_reducible exact LeO.none _)
      | (with_reducible refine LeO.ite ?_ ?_)
      | (with_reducible refine LeO.bind ?_ (fun _ => ?_))
      | exact ih0 _ _ _ _ _ _ _ _ _ _
      | exact ih1 _ _ _ _ _ _ _ _ _ _ _ _
      | exact ih2 _ _ _ _ _ _ _ _ _ _ _ _ _ _ _ _
      | exact layer_May.mono _ _ _ _ _
      | exact leaf_Many.mono _ _ _
      | exact medlarlaw23_live.mono _
      | exact sub_Has.mono _ _ _ _ _
      | exact sub_Leaves.mono _ _ _ _
      | exact trace_Halves.mono _ _ _ _ _
      | exact LeO.none _
      | refine LeO.ite ?_ ?_
      | refine LeO.bind ?_ (fun _ => ?_)
theorem medlarlaw23_TraceHalves.mono : ∀ a0 a1 a2 a3 a4 k, LeO (medlarlaw23_TraceHalves.f k a0 a1 a2 a3 a4) (medlarlaw23_TraceHalves.f (k + 1) a0 a1 a2 a3 a4) := by
  intro a0 a1 a2 a3 a4 k
  obtain ⟨ih0, ih1, ih2⟩ := medlarlaw23_TraceHalves.mono_l k
  unfold medlarlaw23_TraceHalves.f
  repeat' first
      | (with_reducible exact ih0 _ _ _ _ _ _ _ _ _ _)
      | (with_reducible exact ih1 _ _ _ _ _ _ _ _ _ _ _ _)
      | (with_reducible exact ih2 _ _ _ _ _ _ _ _ _ _ _ _ _ _ _ _)
      | (with_reducible exact layer_May.mono _ _ _ _ _)
      | (with_reducible exact leaf_Many.mono _ _ _)
      | (with_reducible exact medlarlaw23_live.mono _)
      | (with_reducible exact sub_Has.mono _ _ _ _ _)
      | (with_reducible exact sub_Leaves.mono _ _ _ _)
      | (with_reducible exact trace_Halves.mono _ _ _ _ _)
      | (with_reducible exact LeO.refl _)
      | (with_reducible exact LeO.none _)
      | (with_reducible refine LeO.ite ?_ ?_)
      | (with_reducible refine LeO.bind ?_ (fun _ => ?_))
      | exact ih0 _ _ _ _ _ _ _ _ _ _
      | exact ih1 _ _ _ _ _ _ _ _ _ _ _ _
      | exact ih2 _ _ _ _ _ _ _ _ _ _ _ _ _ _ _ _
      | exact layer_May.mono _ _ _ _ _
      | exact leaf_Many.mono _ _ _
      | exact medlarlaw23_live.mono _
      | exact sub_Has.mono _ _ _ _ _
      | exact sub_Leaves.mono _ _ _ _
      | exact trace_Halves.mono _ _ _ _ _
      | exact LeO.none _
      | refine LeO.ite ?_ ?_
      | refine LeO.bind ?_ (fun _ => ?_)
set_option maxHeartbeats 8000000 in
set_option maxRecDepth 100000 in
theorem medlarlaw23_TraceHalves.calls (k : Nat) (a0 : Int) (a1 : Int) (a2_0 : Int) (a2_1 : Int) (a3 : Int) (r : Bool) (w : World) (h : medlarlaw23_TraceHalves.f k a0 a1 a2_0 a2_1 a3 = some r) (hT : Aside0 (r = true)) :
    Calls Try.prog 3 #[.int .i64 a0, .int .i64 a1, .agg #[.int .u64 a2_0, .int .u64 a2_1], .int .u64 a3] w fun e w' => e = .returned (.bool r) ∧ Below w.heap.size w w' := by
  have hu24 := Try.underlying24
  have HB := Aside0.mk (Below.refl w.heap.size w)
  have H : ((medlarlaw23_live.f k).bind fun t245 => ((trace_Halves.f k a0 a1 a2_0 a2_1).bind fun bt246 => (if bt246.2 = 1 then (if t245 = true then (some ((bt246.1.length : Int) == 0)) else (some false)) else ((sub_Leaves.f k a0 a2_0 a2_1).bind fun bt250 => ((leaf_Many.f k a0 bt250.1).bind fun bt254 => (if bt250.2 = 0 then (if bt254.2 = 0 then (medlarlaw23_TraceHalves.j0 k a0 a1 a3 t245 bt246.1 bt246.2 bt254.1 ((bt246.2 == 4) != (bt254.1 == 1)) a2_0 a2_1) else (medlarlaw23_TraceHalves.j0 k a0 a1 a3 t245 bt246.1 bt246.2 bt254.1 true a2_0 a2_1)) else (medlarlaw23_TraceHalves.j0 k a0 a1 a3 t245 bt246.1 bt246.2 bt254.1 true a2_0 a2_1))))))) = some r := h
  clear h
  replace H := Option.bind_eq_some_iff.mp H
  obtain ⟨t245, A50, H⟩ := H
  replace H : ((trace_Halves.f k a0 a1 a2_0 a2_1).bind fun bt246 => (if bt246.2 = 1 then (if t245 = true then (some ((bt246.1.length : Int) == 0)) else (some false)) else ((sub_Leaves.f k a0 a2_0 a2_1).bind fun bt250 => ((leaf_Many.f k a0 bt250.1).bind fun bt254 => (if bt250.2 = 0 then (if bt254.2 = 0 then (medlarlaw23_TraceHalves.j0 k a0 a1 a3 t245 bt246.1 bt246.2 bt254.1 ((bt246.2 == 4) != (bt254.1 == 1)) a2_0 a2_1) else (medlarlaw23_TraceHalves.j0 k a0 a1 a3 t245 bt246.1 bt246.2 bt254.1 true a2_0 a2_1)) else (medlarlaw23_TraceHalves.j0 k a0 a1 a3 t245 bt246.1 bt246.2 bt254.1 true a2_0 a2_1)))))) = some r := H
  have A5 := Aside0.mk A50
  clear A50
  replace H := Option.bind_eq_some_iff.mp H
  obtain ⟨⟨t246, t249⟩, A60, H⟩ := H
  replace H : (if t249 = 1 then (if t245 = true then (some ((t246.length : Int) == 0)) else (some false)) else ((sub_Leaves.f k a0 a2_0 a2_1).bind fun bt250 => ((leaf_Many.f k a0 bt250.1).bind fun bt254 => (if bt250.2 = 0 then (if bt254.2 = 0 then (medlarlaw23_TraceHalves.j0 k a0 a1 a3 t245 t246 t249 bt254.1 ((t249 == 4) != (bt254.1 == 1)) a2_0 a2_1) else (medlarlaw23_TraceHalves.j0 k a0 a1 a3 t245 t246 t249 bt254.1 true a2_0 a2_1)) else (medlarlaw23_TraceHalves.j0 k a0 a1 a3 t245 t246 t249 bt254.1 true a2_0 a2_1))))) = some r := H
  have A6 := Aside0.mk A60
  clear A60
  by_cases c7 : t249 = 1
  · rw [if_pos c7] at H
    have c7b0 : (t249 == 1) = true := beq_iff_eq.mpr c7
    have c7b1 : (t249 != 1) = false := bne_eq_false_iff_eq.mpr c7
    clear c7
    by_cases c8 : t245 = true
    · subst c8
      have H1 : (some ((t246.length : Int) == 0)) = some r := by rw [if_pos rfl] at H; exact H
      clear H
      have H := H1
      clear H1
      obtain rfl := Option.some.inj H
      go_enter Try.func3, Try.ntmps3
      go_wp2_with (first | ((with_reducible refine gate_dst (N := 6) rfl ?_); (try (refine gate_guard (by rfl) ?_; dsimp only)); refine box_event ?hg (N := 6) ?hd (cs := #[.int .u64 a2_0, .int .u64 a2_1]) (t := 24) ?hr ?_; (case hd => rfl); (case hg => rfl); (case hr => first | (go_simp; done) | (go_simp; rfl)); intro gb244 hg w9 hbox hb; have n0_ := Aside0.mk (below_step (by repeat (first | (with_reducible first | exact HB.out | apply below_alloc | apply pw_below_drewN | apply below_drew1) | exact HB.out)) hb); have n1_ := Aside0.mk (hbox); have n2_ := Aside0.mk ((by rw [hg]; exact (below_size (by repeat (first | (with_reducible first | exact HB.out | apply below_alloc | apply pw_below_drewN | apply below_drew1) | exact HB.out))) : w.heap.size ≤ gb244)); have n3_ := Aside0.mk ((by rw [hg]; exact (below_size (by repeat (first | (with_reducible first | exact HB.out | apply below_alloc | apply pw_below_drewN | apply below_drew1) | exact HB.out))) : w.heap.size ≤ gb244)); clear HB; have HB := n0_; have BK244 := n1_; have GW244 := n2_; have GE244 := n3_; clear n0_ n1_ n2_ n3_; clear hb hbox hg) | ((with_reducible refine gate_callee (f := 9) rfl ?_); refine goesL_ (some 30) rfl rfl Try.func9 (by kernel_rfl) rfl #[] rfl (by (try simp only [List.map_toArray, List.map_cons, List.map_nil]); first | done | rfl | (simp only [List.length_drop, List.length_take]; rfl)) ?_; (with_reducible refine (medlarlaw23_live.calls k  true _ A5.out).mono ?_); rintro e w10 ⟨rfl, hb⟩; refine ⟨_, rfl, ?_⟩; have n0_ := Aside0.mk (blk_below (g := gb244) (o := .cells #[.int .u64 a2_0, .int .u64 a2_1] 24 (0, 0)) (by (with_reducible repeat (first | refine blk_drewN ?_ _ | refine blk_drew ?_ | refine blk_alloc ?_ _)); exact BK244.out) hb); have n1_ := Aside0.mk (below_step (by repeat (first | (with_reducible first | exact HB.out | apply below_alloc | apply pw_below_drewN | apply below_drew1 | refine below_set ?_ GE244.out) | exact HB.out)) hb); clear BK244; clear HB; have BK244 := n0_; have HB := n1_; clear n0_ n1_; (try clear hb); (try clear hb2); (try clear hk); (try clear hi); have hcz11_0 : w10.cell? ⟨gb244, 0, none⟩ = some (.int .u64 a2_0) := (blk_cell BK244.out 0).trans rfl; have hcz11_1 : w10.cell? ⟨gb244, 1, none⟩ = some (.int .u64 a2_1) := (blk_cell BK244.out 1).trans rfl; have hfz11_0 := blk_frozen BK244.out 0; have hfz11_1 := blk_frozen BK244.out 1) | ((with_reducible refine gate_callee (f := 10) rfl ?_); refine goesL_ (some 35) rfl rfl Try.func10 (by kernel_rfl) rfl #[.int .i64 a0, .int .i64 a1, .agg #[.int .u64 a2_0, .int .u64 a2_1]] rfl (by (try simp only [List.map_toArray, List.map_cons, List.map_nil]); first | done | rfl | (simp only [List.length_drop, List.length_take]; rfl)) ?_; (with_reducible refine (trace_Halves.calls k a0 a1 a2_0 a2_1 t246 t249 _ A6.out).mono ?_); rintro e w12 ⟨v247, rfl, ho0, hb⟩; refine ⟨_, rfl, ?_⟩; have n0_ := Aside0.mk (Kd.R_lower (Kd.R_newB ho0 (g := gb244) (o := .cells #[.int .u64 a2_0, .int .u64 a2_1] 24 (0, 0)) (by (with_reducible repeat (first | refine blk_drewN ?_ _ | refine blk_drew ?_ | refine blk_alloc ?_ _)); exact BK244.out)) (below_size (by repeat (first | (with_reducible first | exact HB.out | apply below_alloc | apply pw_below_drewN | apply below_drew1 | refine below_set ?_ GE244.out) | exact HB.out)))); have n1_ := Aside0.mk (blk_below (g := gb244) (o := .cells #[.int .u64 a2_0, .int .u64 a2_1] 24 (0, 0)) (by (with_reducible repeat (first | refine blk_drewN ?_ _ | refine blk_drew ?_ | refine blk_alloc ?_ _)); exact BK244.out) hb); have n2_ := Aside0.mk (below_step (by repeat (first | (with_reducible first | exact HB.out | apply below_alloc | apply pw_below_drewN | apply below_drew1 | refine below_set ?_ GE244.out) | exact HB.out)) hb); clear BK244; clear HB; have HO248 := n0_; have BK244 := n1_; have HB := n2_; clear n0_ n1_ n2_; (try clear hb); (try clear hb2); (try clear hk); (try clear hi); (try clear ho0); obtain ⟨Ao13, co13, eo13⟩ := Kd.R_slice HO248.out; subst eo13))
      go_ret
      exact ⟨by first | rfl | (simp [errW_none, errW_some] <;> rfl) | (simp [*, errW_none, errW_some] <;> rfl), by repeat (first | (with_reducible first | exact HB.out | apply below_alloc | apply pw_below_drewN | apply below_drew1 | refine below_set ?_ GE244.out) | exact HB.out)⟩
    · replace c8 := Bool.eq_false_iff.mpr c8
      subst c8
      have H1 : (some false) = some r := by rw [if_neg (show ¬ (false = true) by decide)] at H; exact H
      clear H
      have H := H1
      clear H1
      exact absurd ((Option.some.inj H).trans hT.out) Bool.false_ne_true
  · rw [if_neg c7] at H
    have c7b0 : (t249 == 1) = false := beq_eq_false_iff_ne.mpr c7
    have c7b1 : (t249 != 1) = true := bne_iff_ne.mpr c7
    replace H := Option.bind_eq_some_iff.mp H
    obtain ⟨⟨t250, t253⟩, A140, H⟩ := H
    replace H : ((leaf_Many.f k a0 t250).bind fun bt254 => (if t253 = 0 then (if bt254.2 = 0 then (medlarlaw23_TraceHalves.j0 k a0 a1 a3 t245 t246 t249 bt254.1 ((t249 == 4) != (bt254.1 == 1)) a2_0 a2_1) else (medlarlaw23_TraceHalves.j0 k a0 a1 a3 t245 t246 t249 bt254.1 true a2_0 a2_1)) else (medlarlaw23_TraceHalves.j0 k a0 a1 a3 t245 t246 t249 bt254.1 true a2_0 a2_1))) = some r := H
    have A14 := Aside0.mk A140
    clear A140
    replace H := Option.bind_eq_some_iff.mp H
    obtain ⟨⟨t254, t255⟩, A150, H⟩ := H
    replace H : (if t253 = 0 then (if t255 = 0 then (medlarlaw23_TraceHalves.j0 k a0 a1 a3 t245 t246 t249 t254 ((t249 == 4) != (t254 == 1)) a2_0 a2_1) else (medlarlaw23_TraceHalves.j0 k a0 a1 a3 t245 t246 t249 t254 true a2_0 a2_1)) else (medlarlaw23_TraceHalves.j0 k a0 a1 a3 t245 t246 t249 t254 true a2_0 a2_1)) = some r := H
    have A15 := Aside0.mk A150
    clear A150
    have HC16 := Aside0.mk H
    clear H
    go_enter Try.func3, Try.ntmps3
    go_upto_region 7 with (first | ((with_reducible refine gate_dst (N := 6) rfl ?_); (try (refine gate_guard (by rfl) ?_; dsimp only)); refine box_event ?hg (N := 6) ?hd (cs := #[.int .u64 a2_0, .int .u64 a2_1]) (t := 24) ?hr ?_; (case hd => rfl); (case hg => rfl); (case hr => first | (go_simp; done) | (go_simp; rfl)); intro gb244 hg w17 hbox hb; have n0_ := Aside0.mk (below_step (by repeat (first | (with_reducible first | exact HB.out | apply below_alloc | apply pw_below_drewN | apply below_drew1) | exact HB.out)) hb); have n1_ := Aside0.mk (hbox); have n2_ := Aside0.mk ((by rw [hg]; exact (below_size (by repeat (first | (with_reducible first | exact HB.out | apply below_alloc | apply pw_below_drewN | apply below_drew1) | exact HB.out))) : w.heap.size ≤ gb244)); have n3_ := Aside0.mk ((by rw [hg]; exact (below_size (by repeat (first | (with_reducible first | exact HB.out | apply below_alloc | apply pw_below_drewN | apply below_drew1) | exact HB.out))) : w.heap.size ≤ gb244)); clear HB; have HB := n0_; have BK244 := n1_; have GW244 := n2_; have GE244 := n3_; clear n0_ n1_ n2_ n3_; clear hb hbox hg) | ((with_reducible refine gate_callee (f := 9) rfl ?_); refine goesL_ (some 30) rfl rfl Try.func9 (by kernel_rfl) rfl #[] rfl (by (try simp only [List.map_toArray, List.map_cons, List.map_nil]); first | done | rfl | (simp only [List.length_drop, List.length_take]; rfl)) ?_; (with_reducible refine (medlarlaw23_live.calls k  t245 _ A5.out).mono ?_); rintro e w18 ⟨rfl, hb⟩; refine ⟨_, rfl, ?_⟩; have n0_ := Aside0.mk (blk_below (g := gb244) (o := .cells #[.int .u64 a2_0, .int .u64 a2_1] 24 (0, 0)) (by (with_reducible repeat (first | refine blk_drewN ?_ _ | refine blk_drew ?_ | refine blk_alloc ?_ _)); exact BK244.out) hb); have n1_ := Aside0.mk (below_step (by repeat (first | (with_reducible first | exact HB.out | apply below_alloc | apply pw_below_drewN | apply below_drew1 | refine below_set ?_ GE244.out) | exact HB.out)) hb); clear BK244; clear HB; have BK244 := n0_; have HB := n1_; clear n0_ n1_; (try clear hb); (try clear hb2); (try clear hk); (try clear hi); have hcz19_0 : w18.cell? ⟨gb244, 0, none⟩ = some (.int .u64 a2_0) := (blk_cell BK244.out 0).trans rfl; have hcz19_1 : w18.cell? ⟨gb244, 1, none⟩ = some (.int .u64 a2_1) := (blk_cell BK244.out 1).trans rfl; have hfz19_0 := blk_frozen BK244.out 0; have hfz19_1 := blk_frozen BK244.out 1) | ((with_reducible refine gate_callee (f := 10) rfl ?_); refine goesL_ (some 35) rfl rfl Try.func10 (by kernel_rfl) rfl #[.int .i64 a0, .int .i64 a1, .agg #[.int .u64 a2_0, .int .u64 a2_1]] rfl (by (try simp only [List.map_toArray, List.map_cons, List.map_nil]); first | done | rfl | (simp only [List.length_drop, List.length_take]; rfl)) ?_; (with_reducible refine (trace_Halves.calls k a0 a1 a2_0 a2_1 t246 t249 _ A6.out).mono ?_); rintro e w20 ⟨v247, rfl, ho0, hb⟩; refine ⟨_, rfl, ?_⟩; have n0_ := Aside0.mk (Kd.R_lower (Kd.R_newB ho0 (g := gb244) (o := .cells #[.int .u64 a2_0, .int .u64 a2_1] 24 (0, 0)) (by (with_reducible repeat (first | refine blk_drewN ?_ _ | refine blk_drew ?_ | refine blk_alloc ?_ _)); exact BK244.out)) (below_size (by repeat (first | (with_reducible first | exact HB.out | apply below_alloc | apply pw_below_drewN | apply below_drew1 | refine below_set ?_ GE244.out) | exact HB.out)))); have n1_ := Aside0.mk (blk_below (g := gb244) (o := .cells #[.int .u64 a2_0, .int .u64 a2_1] 24 (0, 0)) (by (with_reducible repeat (first | refine blk_drewN ?_ _ | refine blk_drew ?_ | refine blk_alloc ?_ _)); exact BK244.out) hb); have n2_ := Aside0.mk (below_step (by repeat (first | (with_reducible first | exact HB.out | apply below_alloc | apply pw_below_drewN | apply below_drew1 | refine below_set ?_ GE244.out) | exact HB.out)) hb); clear BK244; clear HB; have HO248 := n0_; have BK244 := n1_; have HB := n2_; clear n0_ n1_ n2_; (try clear hb); (try clear hb2); (try clear hk); (try clear hi); (try clear ho0); have hcz21_0 : w20.cell? ⟨gb244, 0, none⟩ = some (.int .u64 a2_0) := (blk_cell BK244.out 0).trans rfl; have hcz21_1 : w20.cell? ⟨gb244, 1, none⟩ = some (.int .u64 a2_1) := (blk_cell BK244.out 1).trans rfl; have hfz21_0 := blk_frozen BK244.out 0; have hfz21_1 := blk_frozen BK244.out 1) | ((with_reducible refine gate_callee (f := 11) rfl ?_); refine goesL_ (some 49) rfl rfl Try.func11 (by kernel_rfl) rfl #[.int .i64 a0, .agg #[.int .u64 a2_0, .int .u64 a2_1]] rfl (by (try simp only [List.map_toArray, List.map_cons, List.map_nil]); first | done | rfl | (simp only [List.length_drop, List.length_take]; rfl)) ?_; (with_reducible refine (sub_Leaves.calls k a0 a2_0 a2_1 t250 t253 _ A14.out).mono ?_); rintro e w22 ⟨v251, rfl, ho0, hb⟩; refine ⟨_, rfl, ?_⟩; have n0_ := Aside0.mk (Kd.R_below (by (with_reducible repeat (first | apply Kd.R_alloc | apply Kd.R_drewN | apply Kd.R_drew)); exact HO248.out) hb); have n1_ := Aside0.mk (Kd.R_lower ho0 (below_size (by repeat (first | (with_reducible first | exact HB.out | apply below_alloc | apply pw_below_drewN | apply below_drew1 | refine below_set ?_ GE244.out) | exact HB.out)))); have n2_ := Aside0.mk (blk_below (g := gb244) (o := .cells #[.int .u64 a2_0, .int .u64 a2_1] 24 (0, 0)) (by (with_reducible repeat (first | refine blk_drewN ?_ _ | refine blk_drew ?_ | refine blk_alloc ?_ _)); exact BK244.out) hb); have n3_ := Aside0.mk (below_step (by repeat (first | (with_reducible first | exact HB.out | apply below_alloc | apply pw_below_drewN | apply below_drew1 | refine below_set ?_ GE244.out) | exact HB.out)) hb); clear HO248; clear BK244; clear HB; have HO248 := n0_; have HO252 := n1_; have BK244 := n2_; have HB := n3_; clear n0_ n1_ n2_ n3_; (try clear hb); (try clear hb2); (try clear hk); (try clear hi); (try clear ho0); obtain ⟨Ao23, co23, eo23⟩ := Kd.R_slice HO252.out; subst eo23) | ((with_reducible refine gate_callee (f := 12) rfl ?_); refine goesL_ (some 55) rfl rfl Try.func12 (by kernel_rfl) rfl #[.int .i64 a0, .slice Ao23 t250.length co23] rfl (by (try simp only [List.map_toArray, List.map_cons, List.map_nil]); first | done | rfl | (simp only [List.length_drop, List.length_take]; rfl)) ?_; (with_reducible refine (leaf_Many.calls k a0 _ _ t250 t254 t255 _ ?side1 ?side2 A15.out).mono ?_); (case side1 => repeat (first | exact (Kd.R_reads' HO252.out).2.2 | (with_reducible refine Kd.C_alloc ?_ _) | (with_reducible refine Kd.C_drewN ?_ _) | (with_reducible refine Kd.C_drew ?_))); (case side2 => exact (Kd.R_reads' HO252.out).2.1); rintro e w24 ⟨rfl, hb⟩; refine ⟨_, rfl, ?_⟩; have n0_ := Aside0.mk (Kd.R_below (by (with_reducible repeat (first | apply Kd.R_alloc | apply Kd.R_drewN | apply Kd.R_drew)); exact HO248.out) hb); have n1_ := Aside0.mk (Kd.R_below (by (with_reducible repeat (first | apply Kd.R_alloc | apply Kd.R_drewN | apply Kd.R_drew)); exact HO252.out) hb); have n2_ := Aside0.mk (blk_below (g := gb244) (o := .cells #[.int .u64 a2_0, .int .u64 a2_1] 24 (0, 0)) (by (with_reducible repeat (first | refine blk_drewN ?_ _ | refine blk_drew ?_ | refine blk_alloc ?_ _)); exact BK244.out) hb); have n3_ := Aside0.mk (below_step (by repeat (first | (with_reducible first | exact HB.out | apply below_alloc | apply pw_below_drewN | apply below_drew1 | refine below_set ?_ GE244.out) | exact HB.out)) hb); clear HO248; clear HO252; clear BK244; clear HB; have HO248 := n0_; have HO252 := n1_; have BK244 := n2_; have HB := n3_; clear n0_ n1_ n2_ n3_; (try clear hb); (try clear hb2); (try clear hk); (try clear hi)))
    (try simp only [Act.put, List.setIfInBounds_toArray, List.set_cons_zero, List.set_cons_succ])
    go_cut [70] (fun v70 wc => ∃ (kq : Nat) (x70_15 : Bool), v70 = .bool x70_15 ∧ Aside0 (medlarlaw23_TraceHalves.j0 kq a0 a1 a3 t245 t246 t249 t254 x70_15 a2_0 a2_1 = some r) ∧ Aside0 (kq ≤ k) ∧ Aside0 (Kd.R k24 24 wc w.heap.size (fun k_ => k_ ≠ gb244) v247 t246) ∧ Aside0 (wc.heap[gb244]? = some (.cells #[.int .u64 a2_0, .int .u64 a2_1] 24 (0, 0))) ∧ Aside0 (Below w.heap.size w wc))
    case first =>
      have H := HC16.out
      clear HC16
      by_cases c25 : t253 = 0
      · rw [if_pos c25] at H
        have c25b0 : (t253 == 0) = true := beq_iff_eq.mpr c25
        have c25b1 : (t253 != 0) = false := bne_eq_false_iff_eq.mpr c25
        clear c25
        (first | rw [c25b0] | (simp only [i64_w, i32_w]; rw [c25b0]) | skip)
        by_cases c26 : t255 = 0
        · rw [if_pos c26] at H
          have c26b0 : (t255 == 0) = true := beq_iff_eq.mpr c26
          have c26b1 : (t255 != 0) = false := bne_eq_false_iff_eq.mpr c26
          clear c26
          have H' := Aside0.mk H
          clear H
          go_wp2
          go_meet
          case rel => exact ⟨_, (((t249 == 4) != (t254 == 1))), (by first | rfl | (simp; done) | (simp [*]; done)), H', ⟨by first | omega | exact Nat.le_refl _⟩, ⟨by (with_reducible repeat (first | apply Kd.R_alloc | apply Kd.R_drewN | apply Kd.R_drew)); exact Kd.R_mono HO248.out (fun _ hk => hk.2)⟩, ⟨by (with_reducible repeat (first | refine blk_drewN ?_ _ | refine blk_drew ?_ | refine blk_alloc ?_ _)); exact BK244.out⟩, ⟨by repeat (first | (with_reducible first | exact HB.out | apply below_alloc | apply pw_below_drewN | apply below_drew1 | refine below_set ?_ GE244.out) | exact HB.out)⟩⟩
        · rw [if_neg c26] at H
          have c26b0 : (t255 == 0) = false := beq_eq_false_iff_ne.mpr c26
          have c26b1 : (t255 != 0) = true := bne_iff_ne.mpr c26
          have H' := Aside0.mk H
          clear H
          go_wp2
          go_meet
          case rel => exact ⟨_, (true), (by first | rfl | (simp; done) | (simp [*]; done)), H', ⟨by first | omega | exact Nat.le_refl _⟩, ⟨by (with_reducible repeat (first | apply Kd.R_alloc | apply Kd.R_drewN | apply Kd.R_drew)); exact Kd.R_mono HO248.out (fun _ hk => hk.2)⟩, ⟨by (with_reducible repeat (first | refine blk_drewN ?_ _ | refine blk_drew ?_ | refine blk_alloc ?_ _)); exact BK244.out⟩, ⟨by repeat (first | (with_reducible first | exact HB.out | apply below_alloc | apply pw_below_drewN | apply below_drew1 | refine below_set ?_ GE244.out) | exact HB.out)⟩⟩
      · rw [if_neg c25] at H
        have c25b0 : (t253 == 0) = false := beq_eq_false_iff_ne.mpr c25
        have c25b1 : (t253 != 0) = true := bne_iff_ne.mpr c25
        (first | rw [c25b0] | (simp only [i64_w, i32_w]; rw [c25b0]) | skip)
        have H' := Aside0.mk H
        clear H
        go_wp2
        go_meet
        case rel => exact ⟨_, (true), (by first | rfl | (simp; done) | (simp [*]; done)), H', ⟨by first | omega | exact Nat.le_refl _⟩, ⟨by (with_reducible repeat (first | apply Kd.R_alloc | apply Kd.R_drewN | apply Kd.R_drew)); exact Kd.R_mono HO248.out (fun _ hk => hk.2)⟩, ⟨by (with_reducible repeat (first | refine blk_drewN ?_ _ | refine blk_drew ?_ | refine blk_alloc ?_ _)); exact BK244.out⟩, ⟨by repeat (first | (with_reducible first | exact HB.out | apply below_alloc | apply pw_below_drewN | apply below_drew1 | refine below_set ?_ GE244.out) | exact HB.out)⟩⟩
    case rest =>
      clear HC16
      try clear c1
      try clear c2
      try clear p2
      try clear c3
      try clear c7
      try clear c7b0
      try clear c7b1
      try clear c8
      try clear c9
      try clear c10
      try clear c11
      try clear c12
      try clear c25
      try clear c25b0
      try clear c25b1
      try clear c26
      try clear c26b0
      try clear c26b1
      try clear hcz11_0
      try clear hcz11_1
      try clear hcz19_0
      try clear hcz19_1
      try clear hcz21_0
      try clear hcz21_1
      try clear hfz11_0
      try clear hfz11_1
      try clear hfz19_0
      try clear hfz19_1
      try clear hfz21_0
      try clear hfz21_1
      obtain ⟨kq, x70_15, rfl, HA, HJ15, HO_10, BK244, HB⟩ := hcut
      cases kq with
      | zero => exact absurd HA.out (by simp [medlarlaw23_TraceHalves.j0])
      | succ kj15 =>
        have H := HA.out
        clear HA
        simp only [medlarlaw23_TraceHalves.j0] at H
        by_cases c27 : x70_15 = true
        · subst c27
          have H1 : (some false) = some r := by rw [if_pos rfl] at H; exact H
          clear H
          have H := H1
          clear H1
          exact absurd ((Option.some.inj H).trans hT.out) Bool.false_ne_true
        · replace c27 := Bool.eq_false_iff.mpr c27
          subst c27
          have H1 : (if t249 = 0 then ((sub_Has.f kj15 a0 a2_0 a2_1 a3).bind fun bt256 => (if (t246.length : Int) = 2 then (medlarlaw23_TraceHalves.l0 kj15 a0 a1 a3 t245 t254 bt256.1 bt256.2 0 0 t246 (t246.length : Int) 0) else (some false))) else (if t245 = true then (if t249 = 4 then (some ((t246.length : Int) == 0)) else (some false)) else (some false))) = some r := by rw [if_neg (show ¬ (false = true) by decide)] at H; exact H
          clear H
          have H := H1
          clear H1
          by_cases c28 : t249 = 0
          · rw [if_pos c28] at H
            have c28b0 : (t249 == 0) = true := beq_iff_eq.mpr c28
            have c28b1 : (t249 != 0) = false := bne_eq_false_iff_eq.mpr c28
            clear c28
            replace H := Option.bind_eq_some_iff.mp H
            obtain ⟨⟨t256, t257⟩, A290, H⟩ := H
            replace H : (if (t246.length : Int) = 2 then (medlarlaw23_TraceHalves.l0 kj15 a0 a1 a3 t245 t254 t256 t257 0 0 t246 (t246.length : Int) 0) else (some false)) = some r := H
            have A29 := Aside0.mk A290
            clear A290
            by_cases c30 : (t246.length : Int) = 2
            · rw [if_pos c30] at H
              have c30b0 : ((t246.length : Int) == 2) = true := beq_iff_eq.mpr c30
              have c30b1 : ((t246.length : Int) != 2) = false := bne_eq_false_iff_eq.mpr c30
              clear c30
              have H' := Aside0.mk H
              clear H
              have hcz31_0 : wc.cell? ⟨gb244, 0, none⟩ = some (.int .u64 a2_0) := (blk_cell BK244.out 0).trans rfl
              have hcz31_1 : wc.cell? ⟨gb244, 1, none⟩ = some (.int .u64 a2_1) := (blk_cell BK244.out 1).trans rfl
              have hfz31_0 := blk_frozen BK244.out 0
              have hfz31_1 := blk_frozen BK244.out 1
              go_wp2_with (first | ((with_reducible refine gate_callee (f := 13) rfl ?_); refine goesL_ (some 87) rfl rfl Try.func13 (by kernel_rfl) rfl #[.int .i64 a0, .agg #[.int .u64 a2_0, .int .u64 a2_1], .int .u64 a3] rfl (by (try simp only [List.map_toArray, List.map_cons, List.map_nil]); first | done | rfl | (simp only [List.length_drop, List.length_take]; rfl)) ?_; (with_reducible refine (sub_Has.calls kj15 a0 a2_0 a2_1 a3 t256 t257 _ A29.out).mono ?_); rintro e w32 ⟨rfl, hb⟩; refine ⟨_, rfl, ?_⟩; have n0_ := Aside0.mk (Kd.R_below (by (with_reducible repeat (first | apply Kd.R_alloc | apply Kd.R_drewN | apply Kd.R_drew)); exact HO_10.out) hb); have n1_ := Aside0.mk (blk_below (g := gb244) (o := .cells #[.int .u64 a2_0, .int .u64 a2_1] 24 (0, 0)) (by (with_reducible repeat (first | refine blk_drewN ?_ _ | refine blk_drew ?_ | refine blk_alloc ?_ _)); exact BK244.out) hb); have n2_ := Aside0.mk (below_step (by repeat (first | (with_reducible first | exact HB.out | apply below_alloc | apply pw_below_drewN | apply below_drew1 | refine below_set ?_ GE244.out) | exact HB.out)) hb); clear HO_10; clear BK244; clear HB; have HO_10 := n0_; have BK244 := n1_; have HB := n2_; clear n0_ n1_ n2_; (try clear hb); (try clear hb2); (try clear hk); (try clear hi); obtain ⟨Ao33, co33, eo33⟩ := Kd.R_slice HO_10.out; subst eo33))
              go_loopg [18, 19, 95] kj15 (fun kq v18 v19 v95 w' => ∃ (x18_2 : Int) (x19_2 : Int) (x95_2 : Int), v18 = .int .u64 x18_2 ∧ v19 = .int .i64 x19_2 ∧ v95 = .int .i64 x95_2 ∧ Aside0 (medlarlaw23_TraceHalves.l0 kq a0 a1 a3 t245 t254 t256 t257 x18_2 x19_2 t246 (t246.length : Int) x95_2 = some r) ∧ Aside0 (kq ≤ kj15) ∧ Aside0 (Kd.R k24 24 w' w.heap.size (fun k_ => k_ ≠ gb244) (.slice Ao33 t246.length co33) t246) ∧ Aside0 (w'.heap[gb244]? = some (.cells #[.int .u64 a2_0, .int .u64 a2_1] 24 (0, 0))) ∧ Aside0 (Below w.heap.size w w'))
              case atStart => exact ⟨(0), (0), (0), (by first | rfl | (simp; done) | (simp [*]; done)), (by first | rfl | (simp; done) | (simp [*]; done)), (by first | rfl | (simp; done) | (simp [*]; done)), H', ⟨Nat.le_refl _⟩, ⟨by (with_reducible repeat (first | apply Kd.R_alloc | apply Kd.R_drewN | apply Kd.R_drew)); exact HO_10.out⟩, ⟨by (with_reducible repeat (first | refine blk_drewN ?_ _ | refine blk_drew ?_ | refine blk_alloc ?_ _)); exact BK244.out⟩, ⟨by repeat (first | (with_reducible first | exact HB.out | apply below_alloc | apply pw_below_drewN | apply below_drew1 | refine below_set ?_ GE244.out) | exact HB.out)⟩⟩
              case round =>
                clear H'
                try clear c1
                try clear c2
                try clear p2
                try clear c3
                try clear c7
                try clear c7b0
                try clear c7b1
                try clear c8
                try clear c9
                try clear c10
                try clear c11
                try clear c12
                try clear c13
                try clear c25
                try clear c25b0
                try clear c25b1
                try clear c26
                try clear c26b0
                try clear c26b1
                try clear c27
                try clear c28
                try clear c28b0
                try clear c28b1
                try clear c30
                try clear c30b0
                try clear c30b1
                try clear hcz11_0
                try clear hcz11_1
                try clear hcz19_0
                try clear hcz19_1
                try clear hcz21_0
                try clear hcz21_1
                try clear hcz31_0
                try clear hcz31_1
                try clear hfz11_0
                try clear hfz11_1
                try clear hfz19_0
                try clear hfz19_1
                try clear hfz21_0
                try clear hfz21_1
                try clear hfz31_0
                try clear hfz31_1
                try clear p2
                obtain ⟨x18_2, x19_2, x95_2, rfl, rfl, rfl, HA, HK2, HO_93, BK244, HB⟩ := hrel
                cases gk with
                | zero => exact absurd HA.out (by simp [medlarlaw23_TraceHalves.l0])
                | succ k2 =>
                  have H := HA.out
                  clear HA
                  simp only [medlarlaw23_TraceHalves.l0] at H
                  by_cases c34 : x95_2 < (t246.length : Int)
                  · rw [if_pos c34] at H
                    have c34b0 : decide (x95_2 < (t246.length : Int)) = true := decide_eq_true c34
                    clear c34
                    by_cases c35 : 0 ≤ x95_2
                    · rw [if_pos c35] at H
                      have c35b0 : decide (0 ≤ x95_2) = true := decide_eq_true c35
                      clear c35
                      by_cases c36 : x95_2 < (t246.length : Int)
                      · rw [if_pos c36] at H
                        have c36b0 : decide (x95_2 < (t246.length : Int)) = true := decide_eq_true c36
                        clear c36
                        replace H := Option.bind_eq_some_iff.mp H
                        obtain ⟨⟨t260, t261⟩, A370, H⟩ := H
                        replace H : ((sub_Leaves.f k2 a0 ((rd_T24 t246 x95_2).f0) ((rd_T24 t246 x95_2).f1)).bind fun bt262 => ((leaf_Many.f k2 a0 bt262.1).bind fun bt266 => (if t261 = 0 then (if t260 = true then (if bt262.2 = 0 then (medlarlaw23_TraceHalves.j2 k2 a0 a1 a3 t245 t254 t256 t257 x18_2 x19_2 bt266.1 t246 (t246.length : Int) x95_2 (bt266.2 != 0) ((rd_T24 t246 x95_2).f0) ((rd_T24 t246 x95_2).f1)) else (medlarlaw23_TraceHalves.j2 k2 a0 a1 a3 t245 t254 t256 t257 x18_2 x19_2 bt266.1 t246 (t246.length : Int) x95_2 true ((rd_T24 t246 x95_2).f0) ((rd_T24 t246 x95_2).f1))) else (medlarlaw23_TraceHalves.j2 k2 a0 a1 a3 t245 t254 t256 t257 x18_2 x19_2 bt266.1 t246 (t246.length : Int) x95_2 true ((rd_T24 t246 x95_2).f0) ((rd_T24 t246 x95_2).f1))) else (medlarlaw23_TraceHalves.j2 k2 a0 a1 a3 t245 t254 t256 t257 x18_2 x19_2 bt266.1 t246 (t246.length : Int) x95_2 true ((rd_T24 t246 x95_2).f0) ((rd_T24 t246 x95_2).f1))))) = some r := H
                        have A37 := Aside0.mk A370
                        clear A370
                        replace H := Option.bind_eq_some_iff.mp H
                        obtain ⟨⟨t262, t265⟩, A380, H⟩ := H
                        replace H : ((leaf_Many.f k2 a0 t262).bind fun bt266 => (if t261 = 0 then (if t260 = true then (if t265 = 0 then (medlarlaw23_TraceHalves.j2 k2 a0 a1 a3 t245 t254 t256 t257 x18_2 x19_2 bt266.1 t246 (t246.length : Int) x95_2 (bt266.2 != 0) ((rd_T24 t246 x95_2).f0) ((rd_T24 t246 x95_2).f1)) else (medlarlaw23_TraceHalves.j2 k2 a0 a1 a3 t245 t254 t256 t257 x18_2 x19_2 bt266.1 t246 (t246.length : Int) x95_2 true ((rd_T24 t246 x95_2).f0) ((rd_T24 t246 x95_2).f1))) else (medlarlaw23_TraceHalves.j2 k2 a0 a1 a3 t245 t254 t256 t257 x18_2 x19_2 bt266.1 t246 (t246.length : Int) x95_2 true ((rd_T24 t246 x95_2).f0) ((rd_T24 t246 x95_2).f1))) else (medlarlaw23_TraceHalves.j2 k2 a0 a1 a3 t245 t254 t256 t257 x18_2 x19_2 bt266.1 t246 (t246.length : Int) x95_2 true ((rd_T24 t246 x95_2).f0) ((rd_T24 t246 x95_2).f1)))) = some r := H
                        have A38 := Aside0.mk A380
                        clear A380
                        replace H := Option.bind_eq_some_iff.mp H
                        obtain ⟨⟨t266, t267⟩, A390, H⟩ := H
                        replace H : (if t261 = 0 then (if t260 = true then (if t265 = 0 then (medlarlaw23_TraceHalves.j2 k2 a0 a1 a3 t245 t254 t256 t257 x18_2 x19_2 t266 t246 (t246.length : Int) x95_2 (t267 != 0) ((rd_T24 t246 x95_2).f0) ((rd_T24 t246 x95_2).f1)) else (medlarlaw23_TraceHalves.j2 k2 a0 a1 a3 t245 t254 t256 t257 x18_2 x19_2 t266 t246 (t246.length : Int) x95_2 true ((rd_T24 t246 x95_2).f0) ((rd_T24 t246 x95_2).f1))) else (medlarlaw23_TraceHalves.j2 k2 a0 a1 a3 t245 t254 t256 t257 x18_2 x19_2 t266 t246 (t246.length : Int) x95_2 true ((rd_T24 t246 x95_2).f0) ((rd_T24 t246 x95_2).f1))) else (medlarlaw23_TraceHalves.j2 k2 a0 a1 a3 t245 t254 t256 t257 x18_2 x19_2 t266 t246 (t246.length : Int) x95_2 true ((rd_T24 t246 x95_2).f0) ((rd_T24 t246 x95_2).f1))) = some r := H
                        have A39 := Aside0.mk A390
                        clear A390
                        have HC40 := Aside0.mk H
                        clear H
                        have p258 : 0 ≤ (x95_2 : Int) := of_decide_eq_true (by first | (with_reducible assumption) | assumption)
                        have q258 : x95_2 < (t246.length : Int) := of_decide_eq_true (by first | (with_reducible assumption) | assumption)
                        obtain ⟨ad258, e258, hx258_0, hx258_1⟩ := at_T24 (Kd.R_reads' HO_93.out).2.2 x95_2 p258 q258
                        cases e258
                        replace p258 := eq_true p258
                        replace q258 := eq_true q258
                        go_upto_region 22 with (first | ((with_reducible refine gate_dst (N := 21) rfl ?_); (try (refine gate_guard (by rfl) ?_; dsimp only)); refine box_event ?hg (N := 21) ?hd (cs := #[.int .u64 0, .int .u64 0]) (t := 24) ?hr ?_; (case hd => rfl); (case hg => rfl); (case hr => first | (go_simp; done) | (go_simp; rfl)); intro gb259 hg w41 hbox hb; have n0_ := Aside0.mk (Kd.R_below (Kd.R_elderB (by (with_reducible repeat (first | apply Kd.R_alloc | apply Kd.R_drewN | apply Kd.R_drew)); exact HO_93.out) gb259 (Nat.le_of_eq hg.symm)) hb); have n1_ := Aside0.mk (blk_below (g := gb244) (o := .cells #[.int .u64 a2_0, .int .u64 a2_1] 24 (0, 0)) (by (with_reducible repeat (first | refine blk_drewN ?_ _ | refine blk_drew ?_ | refine blk_alloc ?_ _)); exact BK244.out) hb); have n2_ := Aside0.mk (below_step (by repeat (first | (with_reducible first | exact HB.out | apply below_alloc | apply pw_below_drewN | apply below_drew1 | refine below_set ?_ GE244.out) | exact HB.out)) hb); have n3_ := Aside0.mk (hbox); have n4_ := Aside0.mk ((by rw [hg]; exact (below_size (by repeat (first | (with_reducible first | exact HB.out | apply below_alloc | apply pw_below_drewN | apply below_drew1 | refine below_set ?_ GE244.out) | exact HB.out))) : w.heap.size ≤ gb259)); have n5_ := Aside0.mk ((by rw [hg]; exact (below_size (by repeat (first | (with_reducible first | exact HB.out | apply below_alloc | apply pw_below_drewN | apply below_drew1 | refine below_set ?_ GE244.out) | exact HB.out))) : w.heap.size ≤ gb259)); have n6_ := Aside0.mk ((by rw [hg]; exact Nat.ne_of_lt (blk_lt (g := gb244) (o := .cells #[.int .u64 a2_0, .int .u64 a2_1] 24 (0, 0)) (by (with_reducible repeat (first | refine blk_drewN ?_ _ | refine blk_drew ?_ | refine blk_alloc ?_ _)); exact BK244.out)) : gb244 ≠ gb259)); have n7_ := Aside0.mk ((by rw [hg]; exact Nat.ne_of_gt (blk_lt (g := gb244) (o := .cells #[.int .u64 a2_0, .int .u64 a2_1] 24 (0, 0)) (by (with_reducible repeat (first | refine blk_drewN ?_ _ | refine blk_drew ?_ | refine blk_alloc ?_ _)); exact BK244.out)) : gb259 ≠ gb244)); clear HO_93; clear BK244; clear HB; have HO_93 := n0_; have BK244 := n1_; have HB := n2_; have BK259 := n3_; have GW259 := n4_; have GE259 := n5_; have NB244_259 := n6_; have NB259_244 := n7_; clear n0_ n1_ n2_ n3_ n4_ n5_ n6_ n7_; clear hb hbox hg; have hnb42 := NB259_244.out; have hnc42 := NB244_259.out; have hcz43_0 : w41.cell? ⟨gb259, 0, none⟩ = some (.int .u64 0) := (blk_cell BK259.out 0).trans rfl; have hcz43_1 : w41.cell? ⟨gb259, 1, none⟩ = some (.int .u64 0) := (blk_cell BK259.out 1).trans rfl; have hfz43_0 := blk_frozen BK259.out 0; have hfz43_1 := blk_frozen BK259.out 1) | ((with_reducible refine gate_callee (f := 14) rfl ?_); refine goesL_ (some 103) rfl rfl Try.func14 (by kernel_rfl) rfl #[.int .i64 a0, .int .i64 a1, .agg #[.int .u64 ((rd_T24 t246 x95_2).f0), .int .u64 ((rd_T24 t246 x95_2).f1)]] rfl (by (try simp only [List.map_toArray, List.map_cons, List.map_nil]); first | done | rfl | (simp only [List.length_drop, List.length_take]; rfl)) ?_; (with_reducible refine (layer_May.calls k2 a0 a1 ((rd_T24 t246 x95_2).f0) ((rd_T24 t246 x95_2).f1) t260 t261 _ A37.out).mono ?_); rintro e w44 ⟨rfl, hb⟩; refine ⟨_, rfl, ?_⟩; have n0_ := Aside0.mk (Kd.R_below (by (with_reducible repeat (first | apply Kd.R_alloc | apply Kd.R_drewN | apply Kd.R_drew)); exact (Kd.R_mono (Kd.R_far (p := ⟨gb259, 1, none⟩) (Kd.R_far (p := ⟨gb259, 0, none⟩) (Kd.R_mono HO_93.out (fun k_ hk => (⟨hk, hk.2⟩ : _ ∧ k_ ≠ gb259))) (fun _ hk => hk.2) (.int .u64 ((rd_T24 t246 x95_2).f0))) (fun _ hk => hk.2) (.int .u64 ((rd_T24 t246 x95_2).f1))) (fun _ h_ => h_.1))) hb); have n1_ := Aside0.mk (blk_below (g := gb244) (o := .cells #[.int .u64 a2_0, .int .u64 a2_1] 24 (0, 0)) (by (with_reducible repeat (first | refine blk_drewN ?_ _ | refine blk_drew ?_ | refine blk_alloc ?_ _)); refine blk_far ?_ NB244_259.out _; (with_reducible repeat (first | refine blk_drewN ?_ _ | refine blk_drew ?_ | refine blk_alloc ?_ _)); refine blk_far ?_ NB244_259.out _; (with_reducible repeat (first | refine blk_drewN ?_ _ | refine blk_drew ?_ | refine blk_alloc ?_ _)); exact BK244.out) hb); have n2_ := Aside0.mk (blk_below (g := gb259) (o := .cells #[.int .u64 ((rd_T24 t246 x95_2).f0), .int .u64 ((rd_T24 t246 x95_2).f1)] 24 (0, 0)) (by (with_reducible repeat (first | refine blk_drewN ?_ _ | refine blk_drew ?_ | refine blk_alloc ?_ _)); refine blk_put (cs := #[.int .u64 ((rd_T24 t246 x95_2).f0), .int .u64 0]) ?_ 1 _ rfl; (with_reducible repeat (first | refine blk_drewN ?_ _ | refine blk_drew ?_ | refine blk_alloc ?_ _)); refine blk_put (cs := #[.int .u64 0, .int .u64 0]) ?_ 0 _ rfl; (with_reducible repeat (first | refine blk_drewN ?_ _ | refine blk_drew ?_ | refine blk_alloc ?_ _)); exact BK259.out) hb); have n3_ := Aside0.mk (below_step (by repeat (first | (with_reducible first | exact HB.out | apply below_alloc | apply pw_below_drewN | apply below_drew1 | refine below_set ?_ GE244.out | refine below_set ?_ GE259.out) | exact HB.out)) hb); clear HO_93; clear BK244; clear BK259; clear HB; have HO_93 := n0_; have BK244 := n1_; have BK259 := n2_; have HB := n3_; clear n0_ n1_ n2_ n3_; (try clear hb); (try clear hb2); (try clear hk); (try clear hi); have hcz45_0 : w44.cell? ⟨gb259, 0, none⟩ = some (.int .u64 ((rd_T24 t246 x95_2).f0)) := (blk_cell BK259.out 0).trans rfl; have hcz45_1 : w44.cell? ⟨gb259, 1, none⟩ = some (.int .u64 ((rd_T24 t246 x95_2).f1)) := (blk_cell BK259.out 1).trans rfl; have hfz45_0 := blk_frozen BK259.out 0; have hfz45_1 := blk_frozen BK259.out 1) | ((with_reducible refine gate_callee (f := 11) rfl ?_); refine goesL_ (some 109) rfl rfl Try.func11 (by kernel_rfl) rfl #[.int .i64 a0, .agg #[.int .u64 ((rd_T24 t246 x95_2).f0), .int .u64 ((rd_T24 t246 x95_2).f1)]] rfl (by (try simp only [List.map_toArray, List.map_cons, List.map_nil]); first | done | rfl | (simp only [List.length_drop, List.length_take]; rfl)) ?_; (with_reducible refine (sub_Leaves.calls k2 a0 ((rd_T24 t246 x95_2).f0) ((rd_T24 t246 x95_2).f1) t262 t265 _ A38.out).mono ?_); rintro e w46 ⟨v263, rfl, ho0, hb⟩; refine ⟨_, rfl, ?_⟩; have n0_ := Aside0.mk (Kd.R_below (by (with_reducible repeat (first | apply Kd.R_alloc | apply Kd.R_drewN | apply Kd.R_drew)); exact HO_93.out) hb); have n1_ := Aside0.mk (Kd.R_lower ho0 (below_size (by repeat (first | (with_reducible first | exact HB.out | apply below_alloc | apply pw_below_drewN | apply below_drew1 | refine below_set ?_ GE244.out | refine below_set ?_ GE259.out) | exact HB.out)))); have n2_ := Aside0.mk (blk_below (g := gb244) (o := .cells #[.int .u64 a2_0, .int .u64 a2_1] 24 (0, 0)) (by (with_reducible repeat (first | refine blk_drewN ?_ _ | refine blk_drew ?_ | refine blk_alloc ?_ _)); exact BK244.out) hb); have n3_ := Aside0.mk (blk_below (g := gb259) (o := .cells #[.int .u64 ((rd_T24 t246 x95_2).f0), .int .u64 ((rd_T24 t246 x95_2).f1)] 24 (0, 0)) (by (with_reducible repeat (first | refine blk_drewN ?_ _ | refine blk_drew ?_ | refine blk_alloc ?_ _)); exact BK259.out) hb); have n4_ := Aside0.mk (below_step (by repeat (first | (with_reducible first | exact HB.out | apply below_alloc | apply pw_below_drewN | apply below_drew1 | refine below_set ?_ GE244.out | refine below_set ?_ GE259.out) | exact HB.out)) hb); clear HO_93; clear BK244; clear BK259; clear HB; have HO_93 := n0_; have HO264 := n1_; have BK244 := n2_; have BK259 := n3_; have HB := n4_; clear n0_ n1_ n2_ n3_ n4_; (try clear hb); (try clear hb2); (try clear hk); (try clear hi); (try clear ho0); obtain ⟨Ao47, co47, eo47⟩ := Kd.R_slice HO264.out; subst eo47) | ((with_reducible refine gate_callee (f := 12) rfl ?_); refine goesL_ (some 115) rfl rfl Try.func12 (by kernel_rfl) rfl #[.int .i64 a0, .slice Ao47 t262.length co47] rfl (by (try simp only [List.map_toArray, List.map_cons, List.map_nil]); first | done | rfl | (simp only [List.length_drop, List.length_take]; rfl)) ?_; (with_reducible refine (leaf_Many.calls k2 a0 _ _ t262 t266 t267 _ ?side1 ?side2 A39.out).mono ?_); (case side1 => repeat (first | exact (Kd.R_reads' HO264.out).2.2 | (with_reducible refine Kd.C_alloc ?_ _) | (with_reducible refine Kd.C_drewN ?_ _) | (with_reducible refine Kd.C_drew ?_))); (case side2 => exact (Kd.R_reads' HO264.out).2.1); rintro e w48 ⟨rfl, hb⟩; refine ⟨_, rfl, ?_⟩; have n0_ := Aside0.mk (Kd.R_below (by (with_reducible repeat (first | apply Kd.R_alloc | apply Kd.R_drewN | apply Kd.R_drew)); exact HO_93.out) hb); have n1_ := Aside0.mk (Kd.R_below (by (with_reducible repeat (first | apply Kd.R_alloc | apply Kd.R_drewN | apply Kd.R_drew)); exact HO264.out) hb); have n2_ := Aside0.mk (blk_below (g := gb244) (o := .cells #[.int .u64 a2_0, .int .u64 a2_1] 24 (0, 0)) (by (with_reducible repeat (first | refine blk_drewN ?_ _ | refine blk_drew ?_ | refine blk_alloc ?_ _)); exact BK244.out) hb); have n3_ := Aside0.mk (blk_below (g := gb259) (o := .cells #[.int .u64 ((rd_T24 t246 x95_2).f0), .int .u64 ((rd_T24 t246 x95_2).f1)] 24 (0, 0)) (by (with_reducible repeat (first | refine blk_drewN ?_ _ | refine blk_drew ?_ | refine blk_alloc ?_ _)); exact BK259.out) hb); have n4_ := Aside0.mk (below_step (by repeat (first | (with_reducible first | exact HB.out | apply below_alloc | apply pw_below_drewN | apply below_drew1 | refine below_set ?_ GE244.out | refine below_set ?_ GE259.out) | exact HB.out)) hb); clear HO_93; clear HO264; clear BK244; clear BK259; clear HB; have HO_93 := n0_; have HO264 := n1_; have BK244 := n2_; have BK259 := n3_; have HB := n4_; clear n0_ n1_ n2_ n3_ n4_; (try clear hb); (try clear hb2); (try clear hk); (try clear hi)))
                        (try simp only [Act.put, List.setIfInBounds_toArray, List.set_cons_zero, List.set_cons_succ])
                        go_cut [131] (fun v131 wc => ∃ (kq : Nat) (x131_39 : Bool), v131 = .bool x131_39 ∧ Aside0 (medlarlaw23_TraceHalves.j2 kq a0 a1 a3 t245 t254 t256 t257 x18_2 x19_2 t266 t246 (t246.length : Int) x95_2 x131_39 ((rd_T24 t246 x95_2).f0) ((rd_T24 t246 x95_2).f1) = some r) ∧ Aside0 (kq ≤ k2) ∧ Aside0 (Kd.R k24 24 wc w.heap.size (fun k_ => k_ ≠ gb244 ∧ k_ ≠ gb259) (.slice (some ad258) t246.length co33) t246) ∧ Aside0 (wc.heap[gb244]? = some (.cells #[.int .u64 a2_0, .int .u64 a2_1] 24 (0, 0))) ∧ Aside0 (wc.heap[gb259]? = some (.cells #[.int .u64 ((rd_T24 t246 x95_2).f0), .int .u64 ((rd_T24 t246 x95_2).f1)] 24 (0, 0))) ∧ Aside0 (Below w.heap.size w wc))
                        case first =>
                          have H := HC40.out
                          clear HC40
                          by_cases c49 : t261 = 0
                          · rw [if_pos c49] at H
                            have c49b0 : (t261 == 0) = true := beq_iff_eq.mpr c49
                            have c49b1 : (t261 != 0) = false := bne_eq_false_iff_eq.mpr c49
                            clear c49
                            (first | rw [c49b0] | (simp only [i64_w, i32_w]; rw [c49b0]) | skip)
                            by_cases c50 : t260 = true
                            · subst c50
                              have H1 : (if t265 = 0 then (medlarlaw23_TraceHalves.j2 k2 a0 a1 a3 t245 t254 t256 t257 x18_2 x19_2 t266 t246 (t246.length : Int) x95_2 (t267 != 0) ((rd_T24 t246 x95_2).f0) ((rd_T24 t246 x95_2).f1)) else (medlarlaw23_TraceHalves.j2 k2 a0 a1 a3 t245 t254 t256 t257 x18_2 x19_2 t266 t246 (t246.length : Int) x95_2 true ((rd_T24 t246 x95_2).f0) ((rd_T24 t246 x95_2).f1))) = some r := by rw [if_pos rfl] at H; exact H
                              clear H
                              have H := H1
                              clear H1
                              by_cases c51 : t265 = 0
                              · rw [if_pos c51] at H
                                have c51b0 : (t265 == 0) = true := beq_iff_eq.mpr c51
                                have c51b1 : (t265 != 0) = false := bne_eq_false_iff_eq.mpr c51
                                clear c51
                                have H' := Aside0.mk H
                                clear H
                                go_wp2
                                go_meet
                                case rel => exact ⟨_, ((t267 != 0)), (by first | rfl | (simp; done) | (simp [*]; done)), H', ⟨by have := HJ15.out; have := HK2.out; first | omega | exact Nat.le_refl _⟩, ⟨by (with_reducible repeat (first | apply Kd.R_alloc | apply Kd.R_drewN | apply Kd.R_drew)); exact HO_93.out⟩, ⟨by (with_reducible repeat (first | refine blk_drewN ?_ _ | refine blk_drew ?_ | refine blk_alloc ?_ _)); exact BK244.out⟩, ⟨by (with_reducible repeat (first | refine blk_drewN ?_ _ | refine blk_drew ?_ | refine blk_alloc ?_ _)); exact BK259.out⟩, ⟨by repeat (first | (with_reducible first | exact HB.out | apply below_alloc | apply pw_below_drewN | apply below_drew1 | refine below_set ?_ GE244.out | refine below_set ?_ GE259.out) | exact HB.out)⟩⟩
                              · rw [if_neg c51] at H
                                have c51b0 : (t265 == 0) = false := beq_eq_false_iff_ne.mpr c51
                                have c51b1 : (t265 != 0) = true := bne_iff_ne.mpr c51
                                have H' := Aside0.mk H
                                clear H
                                go_wp2
                                go_meet
                                case rel => exact ⟨_, (true), (by first | rfl | (simp; done) | (simp [*]; done)), H', ⟨by have := HJ15.out; have := HK2.out; first | omega | exact Nat.le_refl _⟩, ⟨by (with_reducible repeat (first | apply Kd.R_alloc | apply Kd.R_drewN | apply Kd.R_drew)); exact HO_93.out⟩, ⟨by (with_reducible repeat (first | refine blk_drewN ?_ _ | refine blk_drew ?_ | refine blk_alloc ?_ _)); exact BK244.out⟩, ⟨by (with_reducible repeat (first | refine blk_drewN ?_ _ | refine blk_drew ?_ | refine blk_alloc ?_ _)); exact BK259.out⟩, ⟨by repeat (first | (with_reducible first | exact HB.out | apply below_alloc | apply pw_below_drewN | apply below_drew1 | refine below_set ?_ GE244.out | refine below_set ?_ GE259.out) | exact HB.out)⟩⟩
                            · replace c50 := Bool.eq_false_iff.mpr c50
                              subst c50
                              have H1 : (medlarlaw23_TraceHalves.j2 k2 a0 a1 a3 t245 t254 t256 t257 x18_2 x19_2 t266 t246 (t246.length : Int) x95_2 true ((rd_T24 t246 x95_2).f0) ((rd_T24 t246 x95_2).f1)) = some r := by rw [if_neg (show ¬ (false = true) by decide)] at H; exact H
                              clear H
                              have H := H1
                              clear H1
                              have H' := Aside0.mk H
                              clear H
                              go_wp2
                              go_meet
                              case rel => exact ⟨_, (true), (by first | rfl | (simp; done) | (simp [*]; done)), H', ⟨by have := HJ15.out; have := HK2.out; first | omega | exact Nat.le_refl _⟩, ⟨by (with_reducible repeat (first | apply Kd.R_alloc | apply Kd.R_drewN | apply Kd.R_drew)); exact HO_93.out⟩, ⟨by (with_reducible repeat (first | refine blk_drewN ?_ _ | refine blk_drew ?_ | refine blk_alloc ?_ _)); exact BK244.out⟩, ⟨by (with_reducible repeat (first | refine blk_drewN ?_ _ | refine blk_drew ?_ | refine blk_alloc ?_ _)); exact BK259.out⟩, ⟨by repeat (first | (with_reducible first | exact HB.out | apply below_alloc | apply pw_below_drewN | apply below_drew1 | refine below_set ?_ GE244.out | refine below_set ?_ GE259.out) | exact HB.out)⟩⟩
                          · rw [if_neg c49] at H
                            have c49b0 : (t261 == 0) = false := beq_eq_false_iff_ne.mpr c49
                            have c49b1 : (t261 != 0) = true := bne_iff_ne.mpr c49
                            (first | rw [c49b0] | (simp only [i64_w, i32_w]; rw [c49b0]) | skip)
                            have H' := Aside0.mk H
                            clear H
                            go_wp2
                            go_meet
                            case rel => exact ⟨_, (true), (by first | rfl | (simp; done) | (simp [*]; done)), H', ⟨by have := HJ15.out; have := HK2.out; first | omega | exact Nat.le_refl _⟩, ⟨by (with_reducible repeat (first | apply Kd.R_alloc | apply Kd.R_drewN | apply Kd.R_drew)); exact HO_93.out⟩, ⟨by (with_reducible repeat (first | refine blk_drewN ?_ _ | refine blk_drew ?_ | refine blk_alloc ?_ _)); exact BK244.out⟩, ⟨by (with_reducible repeat (first | refine blk_drewN ?_ _ | refine blk_drew ?_ | refine blk_alloc ?_ _)); exact BK259.out⟩, ⟨by repeat (first | (with_reducible first | exact HB.out | apply below_alloc | apply pw_below_drewN | apply below_drew1 | refine below_set ?_ GE244.out | refine below_set ?_ GE259.out) | exact HB.out)⟩⟩
                        case rest =>
                          clear HC40
                          try clear c1
                          try clear c2
                          try clear p2
                          try clear q2
                          try clear hx2
                          try clear c3
                          try clear c4
                          try clear c5
                          try clear c7
                          try clear c7b0
                          try clear c7b1
                          try clear c8
                          try clear c9
                          try clear c10
                          try clear c11
                          try clear c12
                          try clear c13
                          try clear c14
                          try clear c25
                          try clear c25b0
                          try clear c25b1
                          try clear p25
                          try clear q25
                          try clear hx25
                          try clear c26
                          try clear c26b0
                          try clear c26b1
                          try clear c27
                          try clear c28
                          try clear c28b0
                          try clear c28b1
                          try clear c30
                          try clear c30b0
                          try clear c30b1
                          try clear c34
                          try clear c34b0
                          try clear c35
                          try clear c35b0
                          try clear c36
                          try clear c36b0
                          try clear c42
                          try clear c49
                          try clear c49b0
                          try clear c49b1
                          try clear c50
                          try clear c51
                          try clear c51b0
                          try clear c51b1
                          try clear hcz11_0
                          try clear hcz11_1
                          try clear hcz19_0
                          try clear hcz19_1
                          try clear hcz21_0
                          try clear hcz21_1
                          try clear hcz31_0
                          try clear hcz31_1
                          try clear hcz43_0
                          try clear hcz43_1
                          try clear hcz45_0
                          try clear hcz45_1
                          try clear hfz11_0
                          try clear hfz11_1
                          try clear hfz19_0
                          try clear hfz19_1
                          try clear hfz21_0
                          try clear hfz21_1
                          try clear hfz31_0
                          try clear hfz31_1
                          try clear hfz43_0
                          try clear hfz43_1
                          try clear hfz45_0
                          try clear hfz45_1
                          try clear hx258_0
                          try clear hx258_1
                          try clear p2
                          try clear p258
                          try clear q258
                          obtain ⟨kq, x131_39, rfl, HA, HJ39, HO_93, BK244, BK259, HB⟩ := hcut
                          cases kq with
                          | zero => exact absurd HA.out (by simp [medlarlaw23_TraceHalves.j2])
                          | succ kj39 =>
                            have H := HA.out
                            clear HA
                            simp only [medlarlaw23_TraceHalves.j2] at H
                            by_cases c52 : x131_39 = true
                            · subst c52
                              have H1 : (some false) = some r := by rw [if_pos rfl] at H; exact H
                              clear H
                              have H := H1
                              clear H1
                              exact absurd ((Option.some.inj H).trans hT.out) Bool.false_ne_true
                            · replace c52 := Bool.eq_false_iff.mpr c52
                              subst c52
                              have H1 : ((sub_Has.f kj39 a0 ((rd_T24 t246 x95_2).f0) ((rd_T24 t246 x95_2).f1) a3).bind fun bt268 => (if bt268.2 = 0 then (if bt268.1 = true then (medlarlaw23_TraceHalves.l0 kj39 a0 a1 a3 t245 t254 t256 t257 (IntKind.u64.wrap (x18_2 + t266)) (wrap64 (x19_2 + 1)) t246 (t246.length : Int) (wrap64 (x95_2 + 1))) else (medlarlaw23_TraceHalves.l0 kj39 a0 a1 a3 t245 t254 t256 t257 (IntKind.u64.wrap (x18_2 + t266)) x19_2 t246 (t246.length : Int) (wrap64 (x95_2 + 1)))) else (medlarlaw23_TraceHalves.l0 kj39 a0 a1 a3 t245 t254 t256 t257 (IntKind.u64.wrap (x18_2 + t266)) x19_2 t246 (t246.length : Int) (wrap64 (x95_2 + 1))))) = some r := by rw [if_neg (show ¬ (false = true) by decide)] at H; exact H
                              clear H
                              have H := H1
                              clear H1
                              replace H := Option.bind_eq_some_iff.mp H
                              obtain ⟨⟨t268, t269⟩, A530, H⟩ := H
                              replace H : (if t269 = 0 then (if t268 = true then (medlarlaw23_TraceHalves.l0 kj39 a0 a1 a3 t245 t254 t256 t257 (IntKind.u64.wrap (x18_2 + t266)) (wrap64 (x19_2 + 1)) t246 (t246.length : Int) (wrap64 (x95_2 + 1))) else (medlarlaw23_TraceHalves.l0 kj39 a0 a1 a3 t245 t254 t256 t257 (IntKind.u64.wrap (x18_2 + t266)) x19_2 t246 (t246.length : Int) (wrap64 (x95_2 + 1)))) else (medlarlaw23_TraceHalves.l0 kj39 a0 a1 a3 t245 t254 t256 t257 (IntKind.u64.wrap (x18_2 + t266)) x19_2 t246 (t246.length : Int) (wrap64 (x95_2 + 1)))) = some r := H
                              have A53 := Aside0.mk A530
                              clear A530
                              by_cases c54 : t269 = 0
                              · rw [if_pos c54] at H
                                have c54b0 : (t269 == 0) = true := beq_iff_eq.mpr c54
                                have c54b1 : (t269 != 0) = false := bne_eq_false_iff_eq.mpr c54
                                clear c54
                                by_cases c55 : t268 = true
                                · subst c55
                                  have H1 : (medlarlaw23_TraceHalves.l0 kj39 a0 a1 a3 t245 t254 t256 t257 (IntKind.u64.wrap (x18_2 + t266)) (wrap64 (x19_2 + 1)) t246 (t246.length : Int) (wrap64 (x95_2 + 1))) = some r := by rw [if_pos rfl] at H; exact H
                                  clear H
                                  have H := H1
                                  clear H1
                                  have H' := Aside0.mk H
                                  clear H
                                  have hnb56 := NB259_244.out
                                  have hnc56 := NB244_259.out
                                  have hcz57_0 : wc.cell? ⟨gb259, 0, none⟩ = some (.int .u64 ((rd_T24 t246 x95_2).f0)) := (blk_cell BK259.out 0).trans rfl
                                  have hcz57_1 : wc.cell? ⟨gb259, 1, none⟩ = some (.int .u64 ((rd_T24 t246 x95_2).f1)) := (blk_cell BK259.out 1).trans rfl
                                  have hfz57_0 := blk_frozen BK259.out 0
                                  have hfz57_1 := blk_frozen BK259.out 1
                                  go_wp2_with (first | ((with_reducible refine gate_callee (f := 13) rfl ?_); refine goesL_ (some 139) rfl rfl Try.func13 (by kernel_rfl) rfl #[.int .i64 a0, .agg #[.int .u64 ((rd_T24 t246 x95_2).f0), .int .u64 ((rd_T24 t246 x95_2).f1)], .int .u64 a3] rfl (by (try simp only [List.map_toArray, List.map_cons, List.map_nil]); first | done | rfl | (simp only [List.length_drop, List.length_take]; rfl)) ?_; (with_reducible refine (sub_Has.calls kj39 a0 ((rd_T24 t246 x95_2).f0) ((rd_T24 t246 x95_2).f1) a3 true t269 _ A53.out).mono ?_); rintro e w58 ⟨rfl, hb⟩; refine ⟨_, rfl, ?_⟩; have n0_ := Aside0.mk (Kd.R_below (by (with_reducible repeat (first | apply Kd.R_alloc | apply Kd.R_drewN | apply Kd.R_drew)); exact HO_93.out) hb); have n1_ := Aside0.mk (blk_below (g := gb244) (o := .cells #[.int .u64 a2_0, .int .u64 a2_1] 24 (0, 0)) (by (with_reducible repeat (first | refine blk_drewN ?_ _ | refine blk_drew ?_ | refine blk_alloc ?_ _)); exact BK244.out) hb); have n2_ := Aside0.mk (blk_below (g := gb259) (o := .cells #[.int .u64 ((rd_T24 t246 x95_2).f0), .int .u64 ((rd_T24 t246 x95_2).f1)] 24 (0, 0)) (by (with_reducible repeat (first | refine blk_drewN ?_ _ | refine blk_drew ?_ | refine blk_alloc ?_ _)); exact BK259.out) hb); have n3_ := Aside0.mk (below_step (by repeat (first | (with_reducible first | exact HB.out | apply below_alloc | apply pw_below_drewN | apply below_drew1 | refine below_set ?_ GE244.out | refine below_set ?_ GE259.out) | exact HB.out)) hb); clear HO_93; clear BK244; clear BK259; clear HB; have HO_93 := n0_; have BK244 := n1_; have BK259 := n2_; have HB := n3_; clear n0_ n1_ n2_ n3_; (try clear hb); (try clear hb2); (try clear hk); (try clear hi)))
                                  go_roundg kj39
                                  case measure => have := HJ15.out; have := HK2.out; have := HJ39.out; omega
                                  case rel => exact ⟨(IntKind.u64.wrap (x18_2 + t266)), (wrap64 (x19_2 + 1)), (wrap64 (x95_2 + 1)), (by first | rfl | (simp; done) | (simp [*]; done)), (by first | rfl | (simp; done) | (simp [*]; done)), (by first | rfl | (simp; done) | (simp [*]; done)), H', ⟨by have := HJ15.out; have := HK2.out; have := HJ39.out; omega⟩, ⟨by (with_reducible repeat (first | apply Kd.R_alloc | apply Kd.R_drewN | apply Kd.R_drew)); exact Kd.R_mono HO_93.out (fun _ hk => hk.1)⟩, ⟨by (with_reducible repeat (first | refine blk_drewN ?_ _ | refine blk_drew ?_ | refine blk_alloc ?_ _)); exact BK244.out⟩, ⟨by repeat (first | (with_reducible first | exact HB.out | apply below_alloc | apply pw_below_drewN | apply below_drew1 | refine below_set ?_ GE244.out | refine below_set ?_ GE259.out) | exact HB.out)⟩⟩
                                · replace c55 := Bool.eq_false_iff.mpr c55
                                  subst c55
                                  have H1 : (medlarlaw23_TraceHalves.l0 kj39 a0 a1 a3 t245 t254 t256 t257 (IntKind.u64.wrap (x18_2 + t266)) x19_2 t246 (t246.length : Int) (wrap64 (x95_2 + 1))) = some r := by rw [if_neg (show ¬ (false = true) by decide)] at H; exact H
                                  clear H
                                  have H := H1
                                  clear H1
                                  have H' := Aside0.mk H
                                  clear H
                                  have hnb59 := NB259_244.out
                                  have hnc59 := NB244_259.out
                                  have hcz60_0 : wc.cell? ⟨gb259, 0, none⟩ = some (.int .u64 ((rd_T24 t246 x95_2).f0)) := (blk_cell BK259.out 0).trans rfl
                                  have hcz60_1 : wc.cell? ⟨gb259, 1, none⟩ = some (.int .u64 ((rd_T24 t246 x95_2).f1)) := (blk_cell BK259.out 1).trans rfl
                                  have hfz60_0 := blk_frozen BK259.out 0
                                  have hfz60_1 := blk_frozen BK259.out 1
                                  go_wp2_with (first | ((with_reducible refine gate_callee (f := 13) rfl ?_); refine goesL_ (some 139) rfl rfl Try.func13 (by kernel_rfl) rfl #[.int .i64 a0, .agg #[.int .u64 ((rd_T24 t246 x95_2).f0), .int .u64 ((rd_T24 t246 x95_2).f1)], .int .u64 a3] rfl (by (try simp only [List.map_toArray, List.map_cons, List.map_nil]); first | done | rfl | (simp only [List.length_drop, List.length_take]; rfl)) ?_; (with_reducible refine (sub_Has.calls kj39 a0 ((rd_T24 t246 x95_2).f0) ((rd_T24 t246 x95_2).f1) a3 false t269 _ A53.out).mono ?_); rintro e w61 ⟨rfl, hb⟩; refine ⟨_, rfl, ?_⟩; have n0_ := Aside0.mk (Kd.R_below (by (with_reducible repeat (first | apply Kd.R_alloc | apply Kd.R_drewN | apply Kd.R_drew)); exact HO_93.out) hb); have n1_ := Aside0.mk (blk_below (g := gb244) (o := .cells #[.int .u64 a2_0, .int .u64 a2_1] 24 (0, 0)) (by (with_reducible repeat (first | refine blk_drewN ?_ _ | refine blk_drew ?_ | refine blk_alloc ?_ _)); exact BK244.out) hb); have n2_ := Aside0.mk (blk_below (g := gb259) (o := .cells #[.int .u64 ((rd_T24 t246 x95_2).f0), .int .u64 ((rd_T24 t246 x95_2).f1)] 24 (0, 0)) (by (with_reducible repeat (first | refine blk_drewN ?_ _ | refine blk_drew ?_ | refine blk_alloc ?_ _)); exact BK259.out) hb); have n3_ := Aside0.mk (below_step (by repeat (first | (with_reducible first | exact HB.out | apply below_alloc | apply pw_below_drewN | apply below_drew1 | refine below_set ?_ GE244.out | refine below_set ?_ GE259.out) | exact HB.out)) hb); clear HO_93; clear BK244; clear BK259; clear HB; have HO_93 := n0_; have BK244 := n1_; have BK259 := n2_; have HB := n3_; clear n0_ n1_ n2_ n3_; (try clear hb); (try clear hb2); (try clear hk); (try clear hi)))
                                  go_roundg kj39
                                  case measure => have := HJ15.out; have := HK2.out; have := HJ39.out; omega
                                  case rel => exact ⟨(IntKind.u64.wrap (x18_2 + t266)), (x19_2), (wrap64 (x95_2 + 1)), (by first | rfl | (simp; done) | (simp [*]; done)), (by first | rfl | (simp; done) | (simp [*]; done)), (by first | rfl | (simp; done) | (simp [*]; done)), H', ⟨by have := HJ15.out; have := HK2.out; have := HJ39.out; omega⟩, ⟨by (with_reducible repeat (first | apply Kd.R_alloc | apply Kd.R_drewN | apply Kd.R_drew)); exact Kd.R_mono HO_93.out (fun _ hk => hk.1)⟩, ⟨by (with_reducible repeat (first | refine blk_drewN ?_ _ | refine blk_drew ?_ | refine blk_alloc ?_ _)); exact BK244.out⟩, ⟨by repeat (first | (with_reducible first | exact HB.out | apply below_alloc | apply pw_below_drewN | apply below_drew1 | refine below_set ?_ GE244.out | refine below_set ?_ GE259.out) | exact HB.out)⟩⟩
                              · rw [if_neg c54] at H
                                have c54b0 : (t269 == 0) = false := beq_eq_false_iff_ne.mpr c54
                                have c54b1 : (t269 != 0) = true := bne_iff_ne.mpr c54
                                have H' := Aside0.mk H
                                clear H
                                have hnb62 := NB259_244.out
                                have hnc62 := NB244_259.out
                                have hcz63_0 : wc.cell? ⟨gb259, 0, none⟩ = some (.int .u64 ((rd_T24 t246 x95_2).f0)) := (blk_cell BK259.out 0).trans rfl
                                have hcz63_1 : wc.cell? ⟨gb259, 1, none⟩ = some (.int .u64 ((rd_T24 t246 x95_2).f1)) := (blk_cell BK259.out 1).trans rfl
                                have hfz63_0 := blk_frozen BK259.out 0
                                have hfz63_1 := blk_frozen BK259.out 1
                                go_wp2_with (first | ((with_reducible refine gate_callee (f := 13) rfl ?_); refine goesL_ (some 139) rfl rfl Try.func13 (by kernel_rfl) rfl #[.int .i64 a0, .agg #[.int .u64 ((rd_T24 t246 x95_2).f0), .int .u64 ((rd_T24 t246 x95_2).f1)], .int .u64 a3] rfl (by (try simp only [List.map_toArray, List.map_cons, List.map_nil]); first | done | rfl | (simp only [List.length_drop, List.length_take]; rfl)) ?_; (with_reducible refine (sub_Has.calls kj39 a0 ((rd_T24 t246 x95_2).f0) ((rd_T24 t246 x95_2).f1) a3 t268 t269 _ A53.out).mono ?_); rintro e w64 ⟨rfl, hb⟩; refine ⟨_, rfl, ?_⟩; have n0_ := Aside0.mk (Kd.R_below (by (with_reducible repeat (first | apply Kd.R_alloc | apply Kd.R_drewN | apply Kd.R_drew)); exact HO_93.out) hb); have n1_ := Aside0.mk (blk_below (g := gb244) (o := .cells #[.int .u64 a2_0, .int .u64 a2_1] 24 (0, 0)) (by (with_reducible repeat (first | refine blk_drewN ?_ _ | refine blk_drew ?_ | refine blk_alloc ?_ _)); exact BK244.out) hb); have n2_ := Aside0.mk (blk_below (g := gb259) (o := .cells #[.int .u64 ((rd_T24 t246 x95_2).f0), .int .u64 ((rd_T24 t246 x95_2).f1)] 24 (0, 0)) (by (with_reducible repeat (first | refine blk_drewN ?_ _ | refine blk_drew ?_ | refine blk_alloc ?_ _)); exact BK259.out) hb); have n3_ := Aside0.mk (below_step (by repeat (first | (with_reducible first | exact HB.out | apply below_alloc | apply pw_below_drewN | apply below_drew1 | refine below_set ?_ GE244.out | refine below_set ?_ GE259.out) | exact HB.out)) hb); clear HO_93; clear BK244; clear BK259; clear HB; have HO_93 := n0_; have BK244 := n1_; have BK259 := n2_; have HB := n3_; clear n0_ n1_ n2_ n3_; (try clear hb); (try clear hb2); (try clear hk); (try clear hi)))
                                go_roundg kj39
                                case measure => have := HJ15.out; have := HK2.out; have := HJ39.out; omega
                                case rel => exact ⟨(IntKind.u64.wrap (x18_2 + t266)), (x19_2), (wrap64 (x95_2 + 1)), (by first | rfl | (simp; done) | (simp [*]; done)), (by first | rfl | (simp; done) | (simp [*]; done)), (by first | rfl | (simp; done) | (simp [*]; done)), H', ⟨by have := HJ15.out; have := HK2.out; have := HJ39.out; omega⟩, ⟨by (with_reducible repeat (first | apply Kd.R_alloc | apply Kd.R_drewN | apply Kd.R_drew)); exact Kd.R_mono HO_93.out (fun _ hk => hk.1)⟩, ⟨by (with_reducible repeat (first | refine blk_drewN ?_ _ | refine blk_drew ?_ | refine blk_alloc ?_ _)); exact BK244.out⟩, ⟨by repeat (first | (with_reducible first | exact HB.out | apply below_alloc | apply pw_below_drewN | apply below_drew1 | refine below_set ?_ GE244.out | refine below_set ?_ GE259.out) | exact HB.out)⟩⟩
                      · rw [if_neg c36] at H
                        exact absurd H (by simp)
                    · rw [if_neg c35] at H
                      exact absurd H (by simp)
                  · rw [if_neg c34] at H
                    have c34b0 : decide (x95_2 < (t246.length : Int)) = false := decide_eq_false c34
                    clear c34
                    by_cases c65 : t245 = true
                    · subst c65
                      have H1 : (if x18_2 = t254 then (if t257 = 0 then (if x19_2 ≤ 1 then (some ((x19_2 == 1) == t256)) else (some false)) else (some true)) else (some false)) = some r := by rw [if_pos rfl] at H; exact H
                      clear H
                      have H := H1
                      clear H1
                      by_cases c66 : x18_2 = t254
                      · rw [if_pos c66] at H
                        have c66b0 : (x18_2 == t254) = true := beq_iff_eq.mpr c66
                        have c66b1 : (x18_2 != t254) = false := bne_eq_false_iff_eq.mpr c66
                        clear c66
                        by_cases c67 : t257 = 0
                        · rw [if_pos c67] at H
                          have c67b0 : (t257 == 0) = true := beq_iff_eq.mpr c67
                          have c67b1 : (t257 != 0) = false := bne_eq_false_iff_eq.mpr c67
                          clear c67
                          by_cases c68 : x19_2 ≤ 1
                          · rw [if_pos c68] at H
                            have c68b0 : decide (x19_2 ≤ 1) = true := decide_eq_true c68
                            clear c68
                            obtain rfl := Option.some.inj H
                            go_wp2
                            go_ret
                            exact ⟨by first | rfl | (simp [errW_none, errW_some] <;> rfl) | (simp [*, errW_none, errW_some] <;> rfl), by repeat (first | (with_reducible first | exact HB.out | apply below_alloc | apply pw_below_drewN | apply below_drew1 | refine below_set ?_ GE244.out) | exact HB.out)⟩
                          · rw [if_neg c68] at H
                            have c68b0 : decide (x19_2 ≤ 1) = false := decide_eq_false c68
                            clear c68
                            exact absurd ((Option.some.inj H).trans hT.out) Bool.false_ne_true
                        · rw [if_neg c67] at H
                          have c67b0 : (t257 == 0) = false := beq_eq_false_iff_ne.mpr c67
                          have c67b1 : (t257 != 0) = true := bne_iff_ne.mpr c67
                          obtain rfl := Option.some.inj H
                          go_wp2
                          go_ret
                          exact ⟨by first | rfl | (simp [errW_none, errW_some] <;> rfl) | (simp [*, errW_none, errW_some] <;> rfl), by repeat (first | (with_reducible first | exact HB.out | apply below_alloc | apply pw_below_drewN | apply below_drew1 | refine below_set ?_ GE244.out) | exact HB.out)⟩
                      · rw [if_neg c66] at H
                        have c66b0 : (x18_2 == t254) = false := beq_eq_false_iff_ne.mpr c66
                        have c66b1 : (x18_2 != t254) = true := bne_iff_ne.mpr c66
                        exact absurd ((Option.some.inj H).trans hT.out) Bool.false_ne_true
                    · replace c65 := Bool.eq_false_iff.mpr c65
                      subst c65
                      have H1 : (some false) = some r := by rw [if_neg (show ¬ (false = true) by decide)] at H; exact H
                      clear H
                      have H := H1
                      clear H1
                      exact absurd ((Option.some.inj H).trans hT.out) Bool.false_ne_true
            · rw [if_neg c30] at H
              have c30b0 : ((t246.length : Int) == 2) = false := beq_eq_false_iff_ne.mpr c30
              have c30b1 : ((t246.length : Int) != 2) = true := bne_iff_ne.mpr c30
              exact absurd ((Option.some.inj H).trans hT.out) Bool.false_ne_true
          · rw [if_neg c28] at H
            have c28b0 : (t249 == 0) = false := beq_eq_false_iff_ne.mpr c28
            have c28b1 : (t249 != 0) = true := bne_iff_ne.mpr c28
            by_cases c69 : t245 = true
            · subst c69
              have H1 : (if t249 = 4 then (some ((t246.length : Int) == 0)) else (some false)) = some r := by rw [if_pos rfl] at H; exact H
              clear H
              have H := H1
              clear H1
              by_cases c70 : t249 = 4
              · rw [if_pos c70] at H
                have c70b0 : (t249 == 4) = true := beq_iff_eq.mpr c70
                have c70b1 : (t249 != 4) = false := bne_eq_false_iff_eq.mpr c70
                clear c70
                obtain rfl := Option.some.inj H
                obtain ⟨Ao71, co71, eo71⟩ := Kd.R_slice HO_10.out
                subst eo71
                go_wp2
                go_ret
                exact ⟨by first | rfl | (simp [errW_none, errW_some] <;> rfl) | (simp [*, errW_none, errW_some] <;> rfl), by repeat (first | (with_reducible first | exact HB.out | apply below_alloc | apply pw_below_drewN | apply below_drew1 | refine below_set ?_ GE244.out) | exact HB.out)⟩
              · rw [if_neg c70] at H
                have c70b0 : (t249 == 4) = false := beq_eq_false_iff_ne.mpr c70
                have c70b1 : (t249 != 4) = true := bne_iff_ne.mpr c70
                exact absurd ((Option.some.inj H).trans hT.out) Bool.false_ne_true
            · replace c69 := Bool.eq_false_iff.mpr c69
              subst c69
              have H1 : (some false) = some r := by rw [if_neg (show ¬ (false = true) by decide)] at H; exact H
              clear H
              have H := H1
              clear H1
              exact absurd ((Option.some.inj H).trans hT.out) Bool.false_ne_true

/-- THE ONE PURE STATEMENT of medlarlaw23_TraceHalves: yours. -/
def medlarlaw23_TraceHalves.Pure : Prop := ∀ (a0 : Int) (a1 : Int) (a2_0 : Int) (a2_1 : Int) (a3 : Int), (Lit.int .i64 a0).wf = true → (Lit.int .i64 a1).wf = true → (Lit.int .u64 a2_0).wf = true → (Lit.int .u64 a2_1).wf = true → (Lit.int .u64 a3).wf = true → ∃ k, medlarlaw23_TraceHalves.f k a0 a1 a2_0 a2_1 a3 = some true
theorem medlarlaw23_TraceHalves.walk (P : medlarlaw23_TraceHalves.Pure) (a0 : Int) (a1 : Int) (a2_0 : Int) (a2_1 : Int) (a3 : Int) (w : World) (w0 : (Lit.int .i64 a0).wf = true) (w1 : (Lit.int .i64 a1).wf = true) (w2_0 : (Lit.int .u64 a2_0).wf = true) (w2_1 : (Lit.int .u64 a2_1).wf = true) (w3 : (Lit.int .u64 a3).wf = true) :
    Calls Try.prog 3 #[.int .i64 a0, .int .i64 a1, .agg #[.int .u64 a2_0, .int .u64 a2_1], .int .u64 a3] w fun e w' => e = .returned (.bool true) ∧ Below w.heap.size w w' := by
  obtain ⟨k, h⟩ := P a0 a1 a2_0 a2_1 a3 w0 w1 w2_0 w2_1 w3
  refine (medlarlaw23_TraceHalves.calls k a0 a1 a2_0 a2_1 a3 true w h ⟨rfl⟩).mono ?_
  rintro e w' ⟨rfl, hd⟩
  exact ⟨rfl, hd⟩

end Go.Proofs.Ytnbiddloiiljjaa.MP
