-- written by a program of this session (wip/tools/mprint.sh) for this seat
import Derived.Test.YtnbiddloiiljjaaMPx0
import Derived.Test.YtnbiddloiiljjaaMPx1
import Derived.Test.YtnbiddloiiljjaaMPx4
import Derived.Test.YtnbiddloiiljjaaMPx7
import Derived.Test.YtnbiddloiiljjaaMPx10
import Derived.Test.YtnbiddloiiljjaaMPx14
namespace Go.Proofs.Ytnbiddloiiljjaa.MP
open Go.RowKit Go.Proofs.YtnbiddloiiljjaaW.PrintWords Go.Proofs.YtnbiddloiiljjaaW.PrintLast Go.Proofs.YtnbiddloiiljjaaW.PrintMore
attribute [local go_sem] max2_int min2_int max_two min_two max_three min_three max_four min_four   -- for this text's walks alone
set_option linter.unusedVariables false
set_option linter.unusedSimpArgs false

attribute [local go_sem high] eqA48
/-! ### medlarlaw23_TraceFinds: function 5 -/
mutual
def medlarlaw23_TraceFinds.l0 : Nat → Int → List Int → Bool → Int → Int → Bool → List (S24) → Int → Int → Bool → Int → Int → Option (Bool)
  | 0, _, _, _, _, _, _, _, _, _, _, _, _ => none
  | k + 1, x0, x3, x9, x13, x14, x15, x53, x54, x55, x479000, x479001, x479002 => if x55 < x54 then (if 0 ≤ x55 then (if x55 < (x53.length : Int) then (medlarlaw23_TraceFinds.l1 k x0 x3 x9 x13 x14 x15 x53 x54 x55 x3 (x3.length : Int) 0 x479000 x479001 x479002 ((rd_T24 x53 x55).f0) ((rd_T24 x53 x55).f1)) else (none)) else (none)) else (if x9 = true then (if x14 = 0 then (if x479002 ≤ x13 then (if (x479000 == x15) = true then (if x479000 = true then ((medlarref02_In.f k x3 x479001).bind fun t481 => (some t481)) else (some true)) else (some false)) else (some false)) else (some false)) else (some false))
def medlarlaw23_TraceFinds.l1 : Nat → Int → List Int → Bool → Int → Int → Bool → List (S24) → Int → Int → List Int → Int → Int → Bool → Int → Int → Int → Int → Option (Bool)
  | 0, _, _, _, _, _, _, _, _, _, _, _, _, _, _, _, _, _ => none
  | k + 1, x0, x3, x9, x13, x14, x15, x53, x54, x55, x59, x60, x61, x479000, x479001, x479002, x484000, x484001 => if x61 < x60 then (if 0 ≤ x61 then (if x61 < (x59.length : Int) then ((sub_Has.f k x0 x484000 x484001 (rd x59 x61)).bind fun bt485 => (if bt485.2 = 0 then (if x15 = true then (medlarlaw23_TraceFinds.l1 k x0 x3 x9 x13 x14 true x53 x54 x55 x59 x60 (wrap64 (x61 + 1)) x479000 x479001 x479002 x484000 x484001) else (medlarlaw23_TraceFinds.l1 k x0 x3 x9 x13 x14 bt485.1 x53 x54 x55 x59 x60 (wrap64 (x61 + 1)) x479000 x479001 x479002 x484000 x484001)) else (some false))) else (none)) else (none)) else (medlarlaw23_TraceFinds.l0 k x0 x3 x9 x13 x14 x15 x53 x54 (wrap64 (x55 + 1)) x479000 x479001 x479002)
end
def medlarlaw23_TraceFinds.f (k : Nat) (a0 : Int) (a1 : Int) (l2 : List (S24)) (l3 : List Int) : Option (Bool) := (medlarlaw23_live.f k).bind fun t471 => ((medlarlaw23_few.f false l3 ([] : List Bool) l2).bind fun t473 => (if t473 = true then ((trace_Trace.f k a0 a1 l2 false l3 ([] : List Bool)).bind fun bt474 => ((trace_Bound.f k a0 (l2.length : Int)).bind fun bt479 => (if bt474.2.2.2 = 0 then (medlarlaw23_TraceFinds.l0 k a0 l3 t471 bt479.1 bt479.2 false l2 (l2.length : Int) 0 bt474.1 bt474.2.1 bt474.2.2.1) else (if t471 = true then (some (!bt474.1 && (bt474.2.1 == 0 && (bt474.2.2.1 == 0)))) else (some false))))) else (some t471)))
theorem medlarlaw23_TraceFinds.mono_l : ∀ k, (∀ y0 y1 y2 y3 y4 y5 y6 y7 y8 y9 y10 y11, LeO (medlarlaw23_TraceFinds.l0 k y0 y1 y2 y3 y4 y5 y6 y7 y8 y9 y10 y11) (medlarlaw23_TraceFinds.l0 (k + 1) y0 y1 y2 y3 y4 y5 y6 y7 y8 y9 y10 y11)) ∧ (∀ y0 y1 y2 y3 y4 y5 y6 y7 y8 y9 y10 y11 y12 y13 y14 y15 y16, LeO (medlarlaw23_TraceFinds.l1 k y0 y1 y2 y3 y4 y5 y6 y7 y8 y9 y10 y11 y12 y13 y14 y15 y16) (medlarlaw23_TraceFinds.l1 (k + 1) y0 y1 y2 y3 y4 y5 y6 y7 y8 y9 y10 y11 y12 y13 y14 y15 y16))
  | 0 => ⟨fun _ _ _ _ _ _ _ _ _ _ _ _ r h => by simp [medlarlaw23_TraceFinds.l0] at h, fun _ _ _ _ _ _ _ _ _ _ _ _ _ _ _ _ _ r h => by simp [medlarlaw23_TraceFinds.l1] at h⟩
  | k + 1 => by
    obtain ⟨ih0, ih1⟩ := medlarlaw23_TraceFinds.mono_l k
    refine ⟨?_, ?_⟩
    · intro y0 y1 y2 y3 y4 y5 y6 y7 y8 y9 y10 y11
      unfold medlarlaw23_TraceFinds.l0
      repeat' first
      | (with_reducible exact ih0 _ _ _ _ _ _ _ _ _ _ _ _)
      | (with_reducible exact ih1 _ _ _ _ _ _ _ _ _ _ _ _ _ _ _ _ _)
      | (with_reducible exact medlarlaw23_live.mono _)
      | (with_reducible exact medlarref02_In.mono _ _ _)
      | (with_reducible exact sub_Has.mono _ _ _ _ _)
      | (with_reducible exact trace_Bound.mono _ _ _)
      | (with_reducible exact trace_Trace.mono _ _ _ _ _ _ _)
      | (with_reducible exact LeO.refl _)
      | (with_reducible exact LeO.none _)
      | (with_reducible refine LeO.ite ?_ ?_)
      | (with_reducible refine LeO.bind ?_ (fun _ => ?_))
      | exact ih0 _ _ _ _ _ _ _ _ _ _ _ _
      | exact ih1 _ _ _ _ _ _ _ _ _ _ _ _ _ _ _ _ _
      | exact medlarlaw23_live.mono _
      | exact medlarref02_In.mono _ _ _
      | exact sub_Has.mono _ _ _ _ _
      | exact trace_Bound.mono _ _ _
      | exact trace_Trace.mono _ _ _ _ _ _ _
      | exact LeO.none _
      | refine LeO.ite ?_ ?_
      | refine LeO.bind ?_ (fun _ => ?_)
    · intro y0 y1 y2 y3 y4 y5 y6 y7 y8 y9 y10 y11 y12 y13 y14 y15 y16
      unfold medlarlaw23_TraceFinds.l1
      repeat' first
      | (with_reducible exact ih0 _ _ _ _ _ _ _ _ _ _ _ _)
      | (with_reducible exact ih1 _ _ _ _ _ _ _ _ _ _ _ _ _ _ _ _ _)
      | (with_reducible exact medlarlaw23_live.mono _)
      | (with_reducible exact medlarref02_In.mono _ _ _)
      | (with_reducible exact sub_Has.mono _ _ _ _ _)
      | (with_reducible exact trace_Bound.mono _ _ _)
      | (with_reducible exact trace_Trace.mono _ _ _ _ _ _ _)
      | (with_reducible exact LeO.refl _)
      | (with_reducible exact LeO.none _)
      | (with_reducible refine LeO.ite ?_ ?_)
      | (with_reducible refine LeO.bind ?_ (fun _ => ?_))
      | exact ih0 _ _ _ _ _ _ _ _ _ _ _ _
      | exact ih1 _ _ _ _ _ _ _ _ _ _ _ _ _ _ _ _ _
      | exact medlarlaw23_live.mono _
      | exact medlarref02_In.mono _ _ _
      | exact sub_Has.mono _ _ _ _ _
      | exact trace_Bound.mono _ _ _
      | exact trace_Trace.mono _ _ _ _ _ _ _
      | exact LeO.none _
      | refine LeO.ite ?_ ?_
      | refine LeO.bind ?_ (fun _ => ?_)
theorem medlarlaw23_TraceFinds.mono : ∀ a0 a1 a2 a3 k, LeO (medlarlaw23_TraceFinds.f k a0 a1 a2 a3) (medlarlaw23_TraceFinds.f (k + 1) a0 a1 a2 a3) := by
  intro a0 a1 a2 a3 k
  obtain ⟨ih0, ih1⟩ := medlarlaw23_TraceFinds.mono_l k
  unfold medlarlaw23_TraceFinds.f
  repeat' first
      | (with_reducible exact ih0 _ _ _ _ _ _ _ _ _ _ _ _)
      | (with_reducible exact ih1 _ _ _ _ _ _ _ _ _ _ _ _ _ _ _ _ _)
      | (with_reducible exact medlarlaw23_live.mono _)
      | (with_reducible exact medlarref02_In.mono _ _ _)
      | (with_reducible exact sub_Has.mono _ _ _ _ _)
      | (with_reducible exact trace_Bound.mono _ _ _)
      | (with_reducible exact trace_Trace.mono _ _ _ _ _ _ _)
      | (with_reducible exact LeO.refl _)
      | (with_reducible exact LeO.none _)
      | (with_reducible refine LeO.ite ?_ ?_)
      | (with_reducible refine LeO.bind ?_ (fun _ => ?_))
      | exact ih0 _ _ _ _ _ _ _ _ _ _ _ _
      | exact ih1 _ _ _ _ _ _ _ _ _ _ _ _ _ _ _ _ _
      | exact medlarlaw23_live.mono _
      | exact medlarref02_In.mono _ _ _
      | exact sub_Has.mono _ _ _ _ _
      | exact trace_Bound.mono _ _ _
      | exact trace_Trace.mono _ _ _ _ _ _ _
      | exact LeO.none _
      | refine LeO.ite ?_ ?_
      | refine LeO.bind ?_ (fun _ => ?_)
set_option maxHeartbeats 8000000 in
set_option maxRecDepth 100000 in
theorem medlarlaw23_TraceFinds.calls (k : Nat) (a0 : Int) (a1 : Int) (A2 : Option Addr) (c2 : Nat) (l2 : List (S24)) (A3 : Option Addr) (c3 : Nat) (l3 : List Int) (r : Bool) (w : World) (hr2 : Kd.C k24 w A2 l2.length l2) (hc2 : l2.length ≤ c2) (hr3 : Kd.C (Kd.int .u64) w A3 l3.length l3) (hc3 : l3.length ≤ c3) (h : medlarlaw23_TraceFinds.f k a0 a1 l2 l3 = some r) (hT : Aside0 (r = true)) :
    Calls Try.prog 5 #[.int .i64 a0, .int .i64 a1, .slice A2 l2.length c2, .slice A3 l3.length c3] w fun e w' => e = .returned (.bool r) ∧ Below w.heap.size w w' := by
  have hu42 := Try.underlying42
  have hu48 := Try.underlying48
  have hu24 := Try.underlying24
  have HR2 := Aside0.mk hr2
  have HC2 := Aside0.mk hc2
  clear hr2 hc2
  have HR3 := Aside0.mk hr3
  have HC3 := Aside0.mk hc3
  clear hr3 hc3
  have HB := Aside0.mk (Below.refl w.heap.size w)
  have H : ((medlarlaw23_live.f k).bind fun t471 => ((medlarlaw23_few.f false l3 ([] : List Bool) l2).bind fun t473 => (if t473 = true then ((trace_Trace.f k a0 a1 l2 false l3 ([] : List Bool)).bind fun bt474 => ((trace_Bound.f k a0 (l2.length : Int)).bind fun bt479 => (if bt474.2.2.2 = 0 then (medlarlaw23_TraceFinds.l0 k a0 l3 t471 bt479.1 bt479.2 false l2 (l2.length : Int) 0 bt474.1 bt474.2.1 bt474.2.2.1) else (if t471 = true then (some (!bt474.1 && (bt474.2.1 == 0 && (bt474.2.2.1 == 0)))) else (some false))))) else (some t471)))) = some r := h
  clear h
  replace H := Option.bind_eq_some_iff.mp H
  obtain ⟨t471, A50, H⟩ := H
  replace H : ((medlarlaw23_few.f false l3 ([] : List Bool) l2).bind fun t473 => (if t473 = true then ((trace_Trace.f k a0 a1 l2 false l3 ([] : List Bool)).bind fun bt474 => ((trace_Bound.f k a0 (l2.length : Int)).bind fun bt479 => (if bt474.2.2.2 = 0 then (medlarlaw23_TraceFinds.l0 k a0 l3 t471 bt479.1 bt479.2 false l2 (l2.length : Int) 0 bt474.1 bt474.2.1 bt474.2.2.1) else (if t471 = true then (some (!bt474.1 && (bt474.2.1 == 0 && (bt474.2.2.1 == 0)))) else (some false))))) else (some t471))) = some r := H
  have A5 := Aside0.mk A50
  clear A50
  replace H := Option.bind_eq_some_iff.mp H
  obtain ⟨t473, A60, H⟩ := H
  replace H : (if t473 = true then ((trace_Trace.f k a0 a1 l2 false l3 ([] : List Bool)).bind fun bt474 => ((trace_Bound.f k a0 (l2.length : Int)).bind fun bt479 => (if bt474.2.2.2 = 0 then (medlarlaw23_TraceFinds.l0 k a0 l3 t471 bt479.1 bt479.2 false l2 (l2.length : Int) 0 bt474.1 bt474.2.1 bt474.2.2.1) else (if t471 = true then (some (!bt474.1 && (bt474.2.1 == 0 && (bt474.2.2.1 == 0)))) else (some false))))) else (some t471)) = some r := H
  have A6 := Aside0.mk A60
  clear A60
  by_cases c7 : t473 = true
  · subst c7
    have H1 : ((trace_Trace.f k a0 a1 l2 false l3 ([] : List Bool)).bind fun bt474 => ((trace_Bound.f k a0 (l2.length : Int)).bind fun bt479 => (if bt474.2.2.2 = 0 then (medlarlaw23_TraceFinds.l0 k a0 l3 t471 bt479.1 bt479.2 false l2 (l2.length : Int) 0 bt474.1 bt474.2.1 bt474.2.2.1) else (if t471 = true then (some (!bt474.1 && (bt474.2.1 == 0 && (bt474.2.2.1 == 0)))) else (some false))))) = some r := by rw [if_pos rfl] at H; exact H
    clear H
    have H := H1
    clear H1
    replace H := Option.bind_eq_some_iff.mp H
    obtain ⟨⟨t474, t475, t476, t477⟩, A80, H⟩ := H
    replace H : ((trace_Bound.f k a0 (l2.length : Int)).bind fun bt479 => (if t477 = 0 then (medlarlaw23_TraceFinds.l0 k a0 l3 t471 bt479.1 bt479.2 false l2 (l2.length : Int) 0 t474 t475 t476) else (if t471 = true then (some (!t474 && (t475 == 0 && (t476 == 0)))) else (some false)))) = some r := H
    have A8 := Aside0.mk A80
    clear A80
    replace H := Option.bind_eq_some_iff.mp H
    obtain ⟨⟨t479, t480⟩, A90, H⟩ := H
    replace H : (if t477 = 0 then (medlarlaw23_TraceFinds.l0 k a0 l3 t471 t479 t480 false l2 (l2.length : Int) 0 t474 t475 t476) else (if t471 = true then (some (!t474 && (t475 == 0 && (t476 == 0)))) else (some false))) = some r := H
    have A9 := Aside0.mk A90
    clear A90
    by_cases c10 : t477 = 0
    · rw [if_pos c10] at H
      have c10b0 : (t477 == 0) = true := beq_iff_eq.mpr c10
      have c10b1 : (t477 != 0) = false := bne_eq_false_iff_eq.mpr c10
      clear c10
      have H' := Aside0.mk H
      clear H
      go_enter Try.func5, Try.ntmps5
      go_wp2_with (first | ((with_reducible refine gate_callee (f := 9) rfl ?_); refine goesL_ (some 22) rfl rfl Try.func9 (by kernel_rfl) rfl #[] rfl (by (try simp only [List.map_toArray, List.map_cons, List.map_nil]); first | done | rfl | (simp only [List.length_drop, List.length_take]; rfl)) ?_; (with_reducible refine (medlarlaw23_live.calls k  t471 _ A5.out).mono ?_); rintro e w11 ⟨rfl, hb⟩; refine ⟨_, rfl, ?_⟩; have n0_ := Aside0.mk (below_step (by repeat (first | (with_reducible first | exact HB.out | apply below_alloc | apply pw_below_drewN | apply below_drew1) | exact HB.out)) hb); clear HB; have HB := n0_; clear n0_; (try clear hb); (try clear hb2); (try clear hk); (try clear hi)) | ((with_reducible refine gate_dst (N := 10) rfl ?_); refine box_event ?hg (N := 10) ?hd (cs := #[.bool false, .slice none 0 0, .slice none 0 0]) (t := 42) ?hr ?_; (case hd => rfl); (case hg => rfl); (case hr => first | (go_simp; done) | (go_simp; rfl)); intro gb472 hg w12 hbox hb; have n0_ := Aside0.mk (below_step (by repeat (first | (with_reducible first | exact HB.out | apply below_alloc | apply pw_below_drewN | apply below_drew1) | exact HB.out)) hb); have n1_ := Aside0.mk (hbox); have n2_ := Aside0.mk ((by rw [hg]; exact (below_size (by repeat (first | (with_reducible first | exact HB.out | apply below_alloc | apply pw_below_drewN | apply below_drew1) | exact HB.out))) : w.heap.size ≤ gb472)); have n3_ := Aside0.mk ((by rw [hg]; exact (below_size (by repeat (first | (with_reducible first | exact HB.out | apply below_alloc | apply pw_below_drewN | apply below_drew1) | exact HB.out))) : w.heap.size ≤ gb472)); clear HB; have HB := n0_; have BK472 := n1_; have GW472 := n2_; have GE472 := n3_; clear n0_ n1_ n2_ n3_; clear hb hbox hg; have hcz13_0 : w12.cell? ⟨gb472, 0, none⟩ = some (.bool false) := (blk_cell BK472.out 0).trans rfl; have hcz13_1 : w12.cell? ⟨gb472, 1, none⟩ = some (.slice none 0 0) := (blk_cell BK472.out 1).trans rfl; have hcz13_2 : w12.cell? ⟨gb472, 2, none⟩ = some (.slice none 0 0) := (blk_cell BK472.out 2).trans rfl; have hfz13_0 := blk_frozen BK472.out 0; have hfz13_1 := blk_frozen BK472.out 1; have hfz13_2 := blk_frozen BK472.out 2) | ((with_reducible refine gate_callee (f := 15) rfl ?_); refine goesL_ (some 27) rfl rfl Try.func15 (by kernel_rfl) rfl #[.agg #[.bool false, .slice A3 l3.length c3, .slice none 0 0], .slice A2 l2.length c2] rfl (by (try simp only [List.map_toArray, List.map_cons, List.map_nil]); first | done | rfl | (simp only [List.length_drop, List.length_take]; rfl)) ?_; (refine (medlarlaw23_few.calls false _ _ l3 _ _ ([] : List Bool) _ _ l2 true _ ?side1 ?side2 ?side3 ?side4 ?side5 ?side6 A6.out).mono ?_); (case side1 => exact Kd.C_below HR3.out (by repeat (first | (with_reducible first | exact HB.out | apply below_alloc | apply pw_below_drewN | apply below_drew1 | refine below_set ?_ GE472.out) | exact HB.out))); (case side2 => exact HC3.out); (case side3 => exact Kd.C_nil _ _); (case side4 => exact Nat.le_refl _); (case side5 => exact Kd.C_below HR2.out (by repeat (first | (with_reducible first | exact HB.out | apply below_alloc | apply pw_below_drewN | apply below_drew1 | refine below_set ?_ GE472.out) | exact HB.out))); (case side6 => exact HC2.out); rintro e w14 ⟨rfl, hb⟩; refine ⟨_, rfl, ?_⟩; have n0_ := Aside0.mk (blk_below (g := gb472) (o := .cells #[.bool false, .slice A3 l3.length c3, .slice none 0 0] 42 (0, 0)) (by (with_reducible repeat (first | refine blk_drewN ?_ _ | refine blk_drew ?_ | refine blk_alloc ?_ _)); refine blk_put (cs := #[.bool false, .slice A3 l3.length c3, .slice none 0 0]) ?_ 2 _ rfl; (with_reducible repeat (first | refine blk_drewN ?_ _ | refine blk_drew ?_ | refine blk_alloc ?_ _)); refine blk_put (cs := #[.bool false, .slice none 0 0, .slice none 0 0]) ?_ 1 _ rfl; (with_reducible repeat (first | refine blk_drewN ?_ _ | refine blk_drew ?_ | refine blk_alloc ?_ _)); refine blk_put (cs := #[.bool false, .slice none 0 0, .slice none 0 0]) ?_ 0 _ rfl; (with_reducible repeat (first | refine blk_drewN ?_ _ | refine blk_drew ?_ | refine blk_alloc ?_ _)); exact BK472.out) hb); have n1_ := Aside0.mk (below_step (by repeat (first | (with_reducible first | exact HB.out | apply below_alloc | apply pw_below_drewN | apply below_drew1 | refine below_set ?_ GE472.out) | exact HB.out)) hb); clear BK472; clear HB; have BK472 := n0_; have HB := n1_; clear n0_ n1_; (try clear hb); (try clear hb2); (try clear hk); (try clear hi); have hcz15_0 : w14.cell? ⟨gb472, 0, none⟩ = some (.bool false) := (blk_cell BK472.out 0).trans rfl; have hcz15_1 : w14.cell? ⟨gb472, 1, none⟩ = some (.slice A3 l3.length c3) := (blk_cell BK472.out 1).trans rfl; have hcz15_2 : w14.cell? ⟨gb472, 2, none⟩ = some (.slice none 0 0) := (blk_cell BK472.out 2).trans rfl; have hfz15_0 := blk_frozen BK472.out 0; have hfz15_1 := blk_frozen BK472.out 1; have hfz15_2 := blk_frozen BK472.out 2) | ((with_reducible refine gate_callee (f := 20) rfl ?_); refine goesL_ (some 35) rfl rfl Try.func20 (by kernel_rfl) rfl #[.int .i64 a0, .int .i64 a1, .slice A2 l2.length c2, .agg #[.bool false, .slice A3 l3.length c3, .slice none 0 0]] rfl (by (try simp only [List.map_toArray, List.map_cons, List.map_nil]); first | done | rfl | (simp only [List.length_drop, List.length_take]; rfl)) ?_; (refine (trace_Trace.calls k a0 a1 _ _ l2 false _ _ l3 _ _ ([] : List Bool) t474 t475 t476 t477 _ ?side1 ?side2 ?side3 ?side4 ?side5 ?side6 A8.out).mono ?_); (case side1 => repeat (first | exact (Kd.C_below HR2.out HB.out) | (with_reducible refine Kd.C_alloc ?_ _) | (with_reducible refine Kd.C_drewN ?_ _) | (with_reducible refine Kd.C_drew ?_))); (case side2 => exact HC2.out); (case side3 => repeat (first | exact (Kd.C_below HR3.out HB.out) | (with_reducible refine Kd.C_alloc ?_ _) | (with_reducible refine Kd.C_drewN ?_ _) | (with_reducible refine Kd.C_drew ?_))); (case side4 => exact HC3.out); (case side5 => exact Kd.C_nil _ _); (case side6 => exact Nat.le_refl _); rintro e w16 ⟨rfl, hb⟩; refine ⟨_, rfl, ?_⟩; have n0_ := Aside0.mk (blk_below (g := gb472) (o := .cells #[.bool false, .slice A3 l3.length c3, .slice none 0 0] 42 (0, 0)) (by (with_reducible repeat (first | refine blk_drewN ?_ _ | refine blk_drew ?_ | refine blk_alloc ?_ _)); exact BK472.out) hb); have n1_ := Aside0.mk (below_step (by repeat (first | (with_reducible first | exact HB.out | apply below_alloc | apply pw_below_drewN | apply below_drew1 | refine below_set ?_ GE472.out) | exact HB.out)) hb); clear BK472; clear HB; have BK472 := n0_; have HB := n1_; clear n0_ n1_; (try clear hb); (try clear hb2); (try clear hk); (try clear hi)) | ((with_reducible refine gate_dst (N := 11) rfl ?_); refine box_event ?hg (N := 11) ?hd (cs := #[.bool false, .int .u64 0, .int .i64 0]) (t := 48) ?hr ?_; (case hd => rfl); (case hg => rfl); (case hr => first | (go_simp; done) | (go_simp; rfl)); intro gb478 hg w17 hbox hb; have n0_ := Aside0.mk (blk_below (g := gb472) (o := .cells #[.bool false, .slice A3 l3.length c3, .slice none 0 0] 42 (0, 0)) (by (with_reducible repeat (first | refine blk_drewN ?_ _ | refine blk_drew ?_ | refine blk_alloc ?_ _)); exact BK472.out) hb); have n1_ := Aside0.mk (below_step (by repeat (first | (with_reducible first | exact HB.out | apply below_alloc | apply pw_below_drewN | apply below_drew1 | refine below_set ?_ GE472.out) | exact HB.out)) hb); have n2_ := Aside0.mk (hbox); have n3_ := Aside0.mk ((by rw [hg]; exact (below_size (by repeat (first | (with_reducible first | exact HB.out | apply below_alloc | apply pw_below_drewN | apply below_drew1 | refine below_set ?_ GE472.out) | exact HB.out))) : w.heap.size ≤ gb478)); have n4_ := Aside0.mk ((by rw [hg]; exact (below_size (by repeat (first | (with_reducible first | exact HB.out | apply below_alloc | apply pw_below_drewN | apply below_drew1 | refine below_set ?_ GE472.out) | exact HB.out))) : w.heap.size ≤ gb478)); have n5_ := Aside0.mk ((by rw [hg]; exact Nat.ne_of_lt (blk_lt (g := gb472) (o := .cells #[.bool false, .slice A3 l3.length c3, .slice none 0 0] 42 (0, 0)) (by (with_reducible repeat (first | refine blk_drewN ?_ _ | refine blk_drew ?_ | refine blk_alloc ?_ _)); exact BK472.out)) : gb472 ≠ gb478)); have n6_ := Aside0.mk ((by rw [hg]; exact Nat.ne_of_gt (blk_lt (g := gb472) (o := .cells #[.bool false, .slice A3 l3.length c3, .slice none 0 0] 42 (0, 0)) (by (with_reducible repeat (first | refine blk_drewN ?_ _ | refine blk_drew ?_ | refine blk_alloc ?_ _)); exact BK472.out)) : gb478 ≠ gb472)); clear BK472; clear HB; have BK472 := n0_; have HB := n1_; have BK478 := n2_; have GW478 := n3_; have GE478 := n4_; have NB472_478 := n5_; have NB478_472 := n6_; clear n0_ n1_ n2_ n3_ n4_ n5_ n6_; clear hb hbox hg; have hnb18 := NB478_472.out; have hnc18 := NB472_478.out; have hcz19_0 : w17.cell? ⟨gb478, 0, none⟩ = some (.bool false) := (blk_cell BK478.out 0).trans rfl; have hcz19_1 : w17.cell? ⟨gb478, 1, none⟩ = some (.int .u64 0) := (blk_cell BK478.out 1).trans rfl; have hcz19_2 : w17.cell? ⟨gb478, 2, none⟩ = some (.int .i64 0) := (blk_cell BK478.out 2).trans rfl; have hfz19_0 := blk_frozen BK478.out 0; have hfz19_1 := blk_frozen BK478.out 1; have hfz19_2 := blk_frozen BK478.out 2) | ((with_reducible refine gate_callee (f := 18) rfl ?_); refine goesL_ (some 42) rfl rfl Try.func18 (by kernel_rfl) rfl #[.int .i64 a0, .int .i64 (l2.length : Int)] rfl (by (try simp only [List.map_toArray, List.map_cons, List.map_nil]); first | done | rfl | (simp only [List.length_drop, List.length_take]; rfl)) ?_; (with_reducible refine (trace_Bound.calls k a0 (l2.length : Int) t479 t480 _ A9.out).mono ?_); rintro e w' ⟨rfl, ⟨nd, rfl⟩⟩; refine ⟨_, rfl, ?_⟩))
      go_loopg [15, 55] k (fun kq v15 v55 w' => ∃ (x15_1 : Bool) (x55_1 : Int), v15 = .bool x15_1 ∧ v55 = .int .i64 x55_1 ∧ Aside0 (medlarlaw23_TraceFinds.l0 kq a0 l3 t471 t479 t480 x15_1 l2 (l2.length : Int) x55_1 t474 t475 t476 = some r) ∧ Aside0 (kq ≤ k) ∧ Aside0 (w'.heap[gb472]? = some (.cells #[.bool false, (.slice A3 l3.length c3), (.slice none 0 0)] 42 (0, 0))) ∧ Aside0 (w'.heap[gb478]? = some (.cells #[.bool t474, .int .u64 t475, .int .i64 t476] 48 (0, 0))) ∧ Aside0 (Below w.heap.size w w'))
      case atStart => exact ⟨(false), (0), (by first | rfl | (simp; done) | (simp [*]; done)), (by first | rfl | (simp; done) | (simp [*]; done)), H', ⟨Nat.le_refl _⟩, ⟨by (with_reducible repeat (first | refine blk_drewN ?_ _ | refine blk_drew ?_ | refine blk_alloc ?_ _)); refine blk_far ?_ NB472_478.out _; (with_reducible repeat (first | refine blk_drewN ?_ _ | refine blk_drew ?_ | refine blk_alloc ?_ _)); refine blk_far ?_ NB472_478.out _; (with_reducible repeat (first | refine blk_drewN ?_ _ | refine blk_drew ?_ | refine blk_alloc ?_ _)); refine blk_far ?_ NB472_478.out _; (with_reducible repeat (first | refine blk_drewN ?_ _ | refine blk_drew ?_ | refine blk_alloc ?_ _)); exact BK472.out⟩, ⟨by (with_reducible repeat (first | refine blk_drewN ?_ _ | refine blk_drew ?_ | refine blk_alloc ?_ _)); refine blk_put (cs := #[.bool t474, .int .u64 t475, .int .i64 0]) ?_ 2 _ rfl; (with_reducible repeat (first | refine blk_drewN ?_ _ | refine blk_drew ?_ | refine blk_alloc ?_ _)); refine blk_put (cs := #[.bool t474, .int .u64 0, .int .i64 0]) ?_ 1 _ rfl; (with_reducible repeat (first | refine blk_drewN ?_ _ | refine blk_drew ?_ | refine blk_alloc ?_ _)); refine blk_put (cs := #[.bool false, .int .u64 0, .int .i64 0]) ?_ 0 _ rfl; (with_reducible repeat (first | refine blk_drewN ?_ _ | refine blk_drew ?_ | refine blk_alloc ?_ _)); exact BK478.out⟩, ⟨by repeat (first | (with_reducible first | exact HB.out | apply below_alloc | apply pw_below_drewN | apply below_drew1 | refine below_set ?_ GE472.out | refine below_set ?_ GE478.out) | exact HB.out)⟩⟩
      case round =>
        clear H'
        try clear c1
        try clear c2
        try clear p2
        try clear c3
        try clear c5
        try clear c7
        try clear c9
        try clear c10
        try clear c10b0
        try clear c10b1
        try clear c15
        try clear c18
        try clear hcz13_0
        try clear hcz13_1
        try clear hcz13_2
        try clear hcz15_0
        try clear hcz15_1
        try clear hcz15_2
        try clear hcz19_0
        try clear hcz19_1
        try clear hcz19_2
        try clear hfz13_0
        try clear hfz13_1
        try clear hfz13_2
        try clear hfz15_0
        try clear hfz15_1
        try clear hfz15_2
        try clear hfz19_0
        try clear hfz19_1
        try clear hfz19_2
        obtain ⟨x15_1, x55_1, rfl, rfl, HA, HK1, BK472, BK478, HB⟩ := hrel
        cases gk with
        | zero => exact absurd HA.out (by simp [medlarlaw23_TraceFinds.l0])
        | succ k1 =>
          have H := HA.out
          clear HA
          simp only [medlarlaw23_TraceFinds.l0] at H
          by_cases c20 : x55_1 < (l2.length : Int)
          · rw [if_pos c20] at H
            have c20b0 : decide (x55_1 < (l2.length : Int)) = true := decide_eq_true c20
            clear c20
            by_cases c21 : 0 ≤ x55_1
            · rw [if_pos c21] at H
              have c21b0 : decide (0 ≤ x55_1) = true := decide_eq_true c21
              clear c21
              by_cases c22 : x55_1 < (l2.length : Int)
              · rw [if_pos c22] at H
                have c22b0 : decide (x55_1 < (l2.length : Int)) = true := decide_eq_true c22
                clear c22
                have H' := Aside0.mk H
                clear H
                have p482 : 0 ≤ (x55_1 : Int) := of_decide_eq_true (by first | (with_reducible assumption) | assumption)
                have q482 : x55_1 < (l2.length : Int) := of_decide_eq_true (by first | (with_reducible assumption) | assumption)
                obtain ⟨ad482, e482, hx482_0, hx482_1⟩ := at_T24 HR2.out x55_1 p482 q482
                cases e482
                replace hx482_0 := (HB.out.cell (World.block_lt_of_cell? w _ hx482_0)).trans hx482_0
                replace hx482_1 := (HB.out.cell (World.block_lt_of_cell? w _ hx482_1)).trans hx482_1
                replace p482 := eq_true p482
                replace q482 := eq_true q482
                go_wp2_with (first | ((with_reducible refine gate_dst (N := 17) rfl ?_); refine box_event ?hg (N := 17) ?hd (cs := #[.int .u64 0, .int .u64 0]) (t := 24) ?hr ?_; (case hd => rfl); (case hg => rfl); (case hr => first | (go_simp; done) | (go_simp; rfl)); intro gb483 hg w23 hbox hb; have n0_ := Aside0.mk (blk_below (g := gb472) (o := .cells #[.bool false, .slice A3 l3.length c3, .slice none 0 0] 42 (0, 0)) (by (with_reducible repeat (first | refine blk_drewN ?_ _ | refine blk_drew ?_ | refine blk_alloc ?_ _)); exact BK472.out) hb); have n1_ := Aside0.mk (blk_below (g := gb478) (o := .cells #[.bool t474, .int .u64 t475, .int .i64 t476] 48 (0, 0)) (by (with_reducible repeat (first | refine blk_drewN ?_ _ | refine blk_drew ?_ | refine blk_alloc ?_ _)); exact BK478.out) hb); have n2_ := Aside0.mk (below_step (by repeat (first | (with_reducible first | exact HB.out | apply below_alloc | apply pw_below_drewN | apply below_drew1 | refine below_set ?_ GE472.out | refine below_set ?_ GE478.out) | exact HB.out)) hb); have n3_ := Aside0.mk (hbox); have n4_ := Aside0.mk ((by rw [hg]; exact (below_size (by repeat (first | (with_reducible first | exact HB.out | apply below_alloc | apply pw_below_drewN | apply below_drew1 | refine below_set ?_ GE472.out | refine below_set ?_ GE478.out) | exact HB.out))) : w.heap.size ≤ gb483)); have n5_ := Aside0.mk ((by rw [hg]; exact (below_size (by repeat (first | (with_reducible first | exact HB.out | apply below_alloc | apply pw_below_drewN | apply below_drew1 | refine below_set ?_ GE472.out | refine below_set ?_ GE478.out) | exact HB.out))) : w.heap.size ≤ gb483)); have n6_ := Aside0.mk ((by rw [hg]; exact Nat.ne_of_lt (blk_lt (g := gb472) (o := .cells #[.bool false, .slice A3 l3.length c3, .slice none 0 0] 42 (0, 0)) (by (with_reducible repeat (first | refine blk_drewN ?_ _ | refine blk_drew ?_ | refine blk_alloc ?_ _)); exact BK472.out)) : gb472 ≠ gb483)); have n7_ := Aside0.mk ((by rw [hg]; exact Nat.ne_of_gt (blk_lt (g := gb472) (o := .cells #[.bool false, .slice A3 l3.length c3, .slice none 0 0] 42 (0, 0)) (by (with_reducible repeat (first | refine blk_drewN ?_ _ | refine blk_drew ?_ | refine blk_alloc ?_ _)); exact BK472.out)) : gb483 ≠ gb472)); have n8_ := Aside0.mk ((by rw [hg]; exact Nat.ne_of_lt (blk_lt (g := gb478) (o := .cells #[.bool t474, .int .u64 t475, .int .i64 t476] 48 (0, 0)) (by (with_reducible repeat (first | refine blk_drewN ?_ _ | refine blk_drew ?_ | refine blk_alloc ?_ _)); exact BK478.out)) : gb478 ≠ gb483)); have n9_ := Aside0.mk ((by rw [hg]; exact Nat.ne_of_gt (blk_lt (g := gb478) (o := .cells #[.bool t474, .int .u64 t475, .int .i64 t476] 48 (0, 0)) (by (with_reducible repeat (first | refine blk_drewN ?_ _ | refine blk_drew ?_ | refine blk_alloc ?_ _)); exact BK478.out)) : gb483 ≠ gb478)); clear BK472; clear BK478; clear HB; have BK472 := n0_; have BK478 := n1_; have HB := n2_; have BK483 := n3_; have GW483 := n4_; have GE483 := n5_; have NB472_483 := n6_; have NB483_472 := n7_; have NB478_483 := n8_; have NB483_478 := n9_; clear n0_ n1_ n2_ n3_ n4_ n5_ n6_ n7_ n8_ n9_; clear hb hbox hg; have hnb24 := NB483_472.out; have hnc24 := NB472_483.out; have hnb25 := NB483_478.out; have hnc25 := NB478_483.out; have hcz26_0 : w23.cell? ⟨gb483, 0, none⟩ = some (.int .u64 0) := (blk_cell BK483.out 0).trans rfl; have hcz26_1 : w23.cell? ⟨gb483, 1, none⟩ = some (.int .u64 0) := (blk_cell BK483.out 1).trans rfl; have hfz26_0 := blk_frozen BK483.out 0; have hfz26_1 := blk_frozen BK483.out 1))
                go_loopg [15, 61] k1 (fun kq v15 v61 w' => ∃ (x15_2 : Bool) (x61_2 : Int), v15 = .bool x15_2 ∧ v61 = .int .i64 x61_2 ∧ Aside0 (medlarlaw23_TraceFinds.l1 kq a0 l3 t471 t479 t480 x15_2 l2 (l2.length : Int) x55_1 l3 (l3.length : Int) x61_2 t474 t475 t476 ((rd_T24 l2 x55_1).f0) ((rd_T24 l2 x55_1).f1) = some r) ∧ Aside0 (kq ≤ k1) ∧ Aside0 (w'.heap[gb472]? = some (.cells #[.bool false, (.slice A3 l3.length c3), (.slice none 0 0)] 42 (0, 0))) ∧ Aside0 (w'.heap[gb478]? = some (.cells #[.bool t474, .int .u64 t475, .int .i64 t476] 48 (0, 0))) ∧ Aside0 (w'.heap[gb483]? = some (.cells #[.int .u64 ((rd_T24 l2 x55_1).f0), .int .u64 ((rd_T24 l2 x55_1).f1)] 24 (0, 0))) ∧ Aside0 (Below w.heap.size w w'))
                case atStart => exact ⟨(x15_1), (0), (by first | rfl | (simp; done) | (simp [*]; done)), (by first | rfl | (simp; done) | (simp [*]; done)), H', ⟨Nat.le_refl _⟩, ⟨by (with_reducible repeat (first | refine blk_drewN ?_ _ | refine blk_drew ?_ | refine blk_alloc ?_ _)); refine blk_far ?_ NB472_483.out _; (with_reducible repeat (first | refine blk_drewN ?_ _ | refine blk_drew ?_ | refine blk_alloc ?_ _)); refine blk_far ?_ NB472_483.out _; (with_reducible repeat (first | refine blk_drewN ?_ _ | refine blk_drew ?_ | refine blk_alloc ?_ _)); exact BK472.out⟩, ⟨by (with_reducible repeat (first | refine blk_drewN ?_ _ | refine blk_drew ?_ | refine blk_alloc ?_ _)); refine blk_far ?_ NB478_483.out _; (with_reducible repeat (first | refine blk_drewN ?_ _ | refine blk_drew ?_ | refine blk_alloc ?_ _)); refine blk_far ?_ NB478_483.out _; (with_reducible repeat (first | refine blk_drewN ?_ _ | refine blk_drew ?_ | refine blk_alloc ?_ _)); exact BK478.out⟩, ⟨by (with_reducible repeat (first | refine blk_drewN ?_ _ | refine blk_drew ?_ | refine blk_alloc ?_ _)); refine blk_put (cs := #[.int .u64 ((rd_T24 l2 x55_1).f0), .int .u64 0]) ?_ 1 _ rfl; (with_reducible repeat (first | refine blk_drewN ?_ _ | refine blk_drew ?_ | refine blk_alloc ?_ _)); refine blk_put (cs := #[.int .u64 0, .int .u64 0]) ?_ 0 _ rfl; (with_reducible repeat (first | refine blk_drewN ?_ _ | refine blk_drew ?_ | refine blk_alloc ?_ _)); exact BK483.out⟩, ⟨by repeat (first | (with_reducible first | exact HB.out | apply below_alloc | apply pw_below_drewN | apply below_drew1 | refine below_set ?_ GE472.out | refine below_set ?_ GE478.out | refine below_set ?_ GE483.out) | exact HB.out)⟩⟩
                case round =>
                  clear H'
                  try clear c1
                  try clear c2
                  try clear p2
                  try clear c3
                  try clear p4
                  try clear q4
                  try clear hx4
                  try clear c5
                  try clear c7
                  try clear c9
                  try clear c10
                  try clear c10b0
                  try clear c10b1
                  try clear c15
                  try clear c18
                  try clear c20
                  try clear c20b0
                  try clear c21
                  try clear c21b0
                  try clear c22
                  try clear c22b0
                  try clear c24
                  try clear c25
                  try clear hcz13_0
                  try clear hcz13_1
                  try clear hcz13_2
                  try clear hcz15_0
                  try clear hcz15_1
                  try clear hcz15_2
                  try clear hcz19_0
                  try clear hcz19_1
                  try clear hcz19_2
                  try clear hcz26_0
                  try clear hcz26_1
                  try clear hfz13_0
                  try clear hfz13_1
                  try clear hfz13_2
                  try clear hfz15_0
                  try clear hfz15_1
                  try clear hfz15_2
                  try clear hfz19_0
                  try clear hfz19_1
                  try clear hfz19_2
                  try clear hfz26_0
                  try clear hfz26_1
                  try clear hx482_0
                  try clear hx482_1
                  try clear p2
                  try clear p482
                  try clear q482
                  obtain ⟨x15_2, x61_2, rfl, rfl, HA, HK2, BK472, BK478, BK483, HB⟩ := hrel
                  cases gk with
                  | zero => exact absurd HA.out (by simp [medlarlaw23_TraceFinds.l1])
                  | succ k2 =>
                    have H := HA.out
                    clear HA
                    simp only [medlarlaw23_TraceFinds.l1] at H
                    by_cases c27 : x61_2 < (l3.length : Int)
                    · rw [if_pos c27] at H
                      have c27b0 : decide (x61_2 < (l3.length : Int)) = true := decide_eq_true c27
                      clear c27
                      by_cases c28 : 0 ≤ x61_2
                      · rw [if_pos c28] at H
                        have c28b0 : decide (0 ≤ x61_2) = true := decide_eq_true c28
                        clear c28
                        by_cases c29 : x61_2 < (l3.length : Int)
                        · rw [if_pos c29] at H
                          have c29b0 : decide (x61_2 < (l3.length : Int)) = true := decide_eq_true c29
                          clear c29
                          replace H := Option.bind_eq_some_iff.mp H
                          obtain ⟨⟨t485, t486⟩, A300, H⟩ := H
                          replace H : (if t486 = 0 then (if x15_2 = true then (medlarlaw23_TraceFinds.l1 k2 a0 l3 t471 t479 t480 true l2 (l2.length : Int) x55_1 l3 (l3.length : Int) (wrap64 (x61_2 + 1)) t474 t475 t476 ((rd_T24 l2 x55_1).f0) ((rd_T24 l2 x55_1).f1)) else (medlarlaw23_TraceFinds.l1 k2 a0 l3 t471 t479 t480 t485 l2 (l2.length : Int) x55_1 l3 (l3.length : Int) (wrap64 (x61_2 + 1)) t474 t475 t476 ((rd_T24 l2 x55_1).f0) ((rd_T24 l2 x55_1).f1))) else (some false)) = some r := H
                          have A30 := Aside0.mk A300
                          clear A300
                          by_cases c31 : t486 = 0
                          · rw [if_pos c31] at H
                            have c31b0 : (t486 == 0) = true := beq_iff_eq.mpr c31
                            have c31b1 : (t486 != 0) = false := bne_eq_false_iff_eq.mpr c31
                            clear c31
                            by_cases c32 : x15_2 = true
                            · subst c32
                              have H1 : (medlarlaw23_TraceFinds.l1 k2 a0 l3 t471 t479 t480 true l2 (l2.length : Int) x55_1 l3 (l3.length : Int) (wrap64 (x61_2 + 1)) t474 t475 t476 ((rd_T24 l2 x55_1).f0) ((rd_T24 l2 x55_1).f1)) = some r := by rw [if_pos rfl] at H; exact H
                              clear H
                              have H := H1
                              clear H1
                              have H' := Aside0.mk H
                              clear H
                              have p484 : 0 ≤ (x61_2 : Int) := of_decide_eq_true (by first | (with_reducible assumption) | assumption)
                              have q484 : x61_2 < (l3.length : Int) := of_decide_eq_true (by first | (with_reducible assumption) | assumption)
                              obtain ⟨ad484, e484, hx484_0⟩ := Kd.at_int HR3.out x61_2 p484 q484
                              cases e484
                              replace hx484_0 := (HB.out.cell (World.block_lt_of_cell? w _ hx484_0)).trans hx484_0
                              replace p484 := eq_true p484
                              replace q484 := eq_true q484
                              have hnb33 := NB483_472.out
                              have hnc33 := NB472_483.out
                              have hnb34 := NB483_478.out
                              have hnc34 := NB478_483.out
                              have hcz35_0 : wr.cell? ⟨gb483, 0, none⟩ = some (.int .u64 ((rd_T24 l2 x55_1).f0)) := (blk_cell BK483.out 0).trans rfl
                              have hcz35_1 : wr.cell? ⟨gb483, 1, none⟩ = some (.int .u64 ((rd_T24 l2 x55_1).f1)) := (blk_cell BK483.out 1).trans rfl
                              have hfz35_0 := blk_frozen BK483.out 0
                              have hfz35_1 := blk_frozen BK483.out 1
                              go_wp2_with (first | ((with_reducible refine gate_callee (f := 13) rfl ?_); refine goesL_ (some 69) rfl rfl Try.func13 (by kernel_rfl) rfl #[.int .i64 a0, .agg #[.int .u64 ((rd_T24 l2 x55_1).f0), .int .u64 ((rd_T24 l2 x55_1).f1)], .int .u64 (rd l3 x61_2)] rfl (by (try simp only [List.map_toArray, List.map_cons, List.map_nil]); first | done | rfl | (simp only [List.length_drop, List.length_take]; rfl)) ?_; (with_reducible refine (sub_Has.calls k2 a0 ((rd_T24 l2 x55_1).f0) ((rd_T24 l2 x55_1).f1) (rd l3 x61_2) t485 t486 _ A30.out).mono ?_); rintro e w36 ⟨rfl, hb⟩; refine ⟨_, rfl, ?_⟩; have n0_ := Aside0.mk (blk_below (g := gb472) (o := .cells #[.bool false, .slice (some ad484) l3.length c3, .slice none 0 0] 42 (0, 0)) (by (with_reducible repeat (first | refine blk_drewN ?_ _ | refine blk_drew ?_ | refine blk_alloc ?_ _)); exact BK472.out) hb); have n1_ := Aside0.mk (blk_below (g := gb478) (o := .cells #[.bool t474, .int .u64 t475, .int .i64 t476] 48 (0, 0)) (by (with_reducible repeat (first | refine blk_drewN ?_ _ | refine blk_drew ?_ | refine blk_alloc ?_ _)); exact BK478.out) hb); have n2_ := Aside0.mk (blk_below (g := gb483) (o := .cells #[.int .u64 ((rd_T24 l2 x55_1).f0), .int .u64 ((rd_T24 l2 x55_1).f1)] 24 (0, 0)) (by (with_reducible repeat (first | refine blk_drewN ?_ _ | refine blk_drew ?_ | refine blk_alloc ?_ _)); exact BK483.out) hb); have n3_ := Aside0.mk (below_step (by repeat (first | (with_reducible first | exact HB.out | apply below_alloc | apply pw_below_drewN | apply below_drew1 | refine below_set ?_ GE472.out | refine below_set ?_ GE478.out | refine below_set ?_ GE483.out) | exact HB.out)) hb); clear BK472; clear BK478; clear BK483; clear HB; have BK472 := n0_; have BK478 := n1_; have BK483 := n2_; have HB := n3_; clear n0_ n1_ n2_ n3_; (try clear hb); (try clear hb2); (try clear hk); (try clear hi)))
                              go_roundg k2
                              case measure => have := HK1.out; have := HK2.out; omega
                              case rel => exact ⟨(true), (wrap64 (x61_2 + 1)), (by first | rfl | (simp; done) | (simp [*]; done)), (by first | rfl | (simp; done) | (simp [*]; done)), H', ⟨by have := HK1.out; have := HK2.out; omega⟩, ⟨by (with_reducible repeat (first | refine blk_drewN ?_ _ | refine blk_drew ?_ | refine blk_alloc ?_ _)); exact BK472.out⟩, ⟨by (with_reducible repeat (first | refine blk_drewN ?_ _ | refine blk_drew ?_ | refine blk_alloc ?_ _)); exact BK478.out⟩, ⟨by (with_reducible repeat (first | refine blk_drewN ?_ _ | refine blk_drew ?_ | refine blk_alloc ?_ _)); exact BK483.out⟩, ⟨by repeat (first | (with_reducible first | exact HB.out | apply below_alloc | apply pw_below_drewN | apply below_drew1 | refine below_set ?_ GE472.out | refine below_set ?_ GE478.out | refine below_set ?_ GE483.out) | exact HB.out)⟩⟩
                            · replace c32 := Bool.eq_false_iff.mpr c32
                              subst c32
                              have H1 : (medlarlaw23_TraceFinds.l1 k2 a0 l3 t471 t479 t480 t485 l2 (l2.length : Int) x55_1 l3 (l3.length : Int) (wrap64 (x61_2 + 1)) t474 t475 t476 ((rd_T24 l2 x55_1).f0) ((rd_T24 l2 x55_1).f1)) = some r := by rw [if_neg (show ¬ (false = true) by decide)] at H; exact H
                              clear H
                              have H := H1
                              clear H1
                              have H' := Aside0.mk H
                              clear H
                              have p484 : 0 ≤ (x61_2 : Int) := of_decide_eq_true (by first | (with_reducible assumption) | assumption)
                              have q484 : x61_2 < (l3.length : Int) := of_decide_eq_true (by first | (with_reducible assumption) | assumption)
                              obtain ⟨ad484, e484, hx484_0⟩ := Kd.at_int HR3.out x61_2 p484 q484
                              cases e484
                              replace hx484_0 := (HB.out.cell (World.block_lt_of_cell? w _ hx484_0)).trans hx484_0
                              replace p484 := eq_true p484
                              replace q484 := eq_true q484
                              have hnb37 := NB483_472.out
                              have hnc37 := NB472_483.out
                              have hnb38 := NB483_478.out
                              have hnc38 := NB478_483.out
                              have hcz39_0 : wr.cell? ⟨gb483, 0, none⟩ = some (.int .u64 ((rd_T24 l2 x55_1).f0)) := (blk_cell BK483.out 0).trans rfl
                              have hcz39_1 : wr.cell? ⟨gb483, 1, none⟩ = some (.int .u64 ((rd_T24 l2 x55_1).f1)) := (blk_cell BK483.out 1).trans rfl
                              have hfz39_0 := blk_frozen BK483.out 0
                              have hfz39_1 := blk_frozen BK483.out 1
                              go_wp2_with (first | ((with_reducible refine gate_callee (f := 13) rfl ?_); refine goesL_ (some 69) rfl rfl Try.func13 (by kernel_rfl) rfl #[.int .i64 a0, .agg #[.int .u64 ((rd_T24 l2 x55_1).f0), .int .u64 ((rd_T24 l2 x55_1).f1)], .int .u64 (rd l3 x61_2)] rfl (by (try simp only [List.map_toArray, List.map_cons, List.map_nil]); first | done | rfl | (simp only [List.length_drop, List.length_take]; rfl)) ?_; (with_reducible refine (sub_Has.calls k2 a0 ((rd_T24 l2 x55_1).f0) ((rd_T24 l2 x55_1).f1) (rd l3 x61_2) t485 t486 _ A30.out).mono ?_); rintro e w40 ⟨rfl, hb⟩; refine ⟨_, rfl, ?_⟩; have n0_ := Aside0.mk (blk_below (g := gb472) (o := .cells #[.bool false, .slice (some ad484) l3.length c3, .slice none 0 0] 42 (0, 0)) (by (with_reducible repeat (first | refine blk_drewN ?_ _ | refine blk_drew ?_ | refine blk_alloc ?_ _)); exact BK472.out) hb); have n1_ := Aside0.mk (blk_below (g := gb478) (o := .cells #[.bool t474, .int .u64 t475, .int .i64 t476] 48 (0, 0)) (by (with_reducible repeat (first | refine blk_drewN ?_ _ | refine blk_drew ?_ | refine blk_alloc ?_ _)); exact BK478.out) hb); have n2_ := Aside0.mk (blk_below (g := gb483) (o := .cells #[.int .u64 ((rd_T24 l2 x55_1).f0), .int .u64 ((rd_T24 l2 x55_1).f1)] 24 (0, 0)) (by (with_reducible repeat (first | refine blk_drewN ?_ _ | refine blk_drew ?_ | refine blk_alloc ?_ _)); exact BK483.out) hb); have n3_ := Aside0.mk (below_step (by repeat (first | (with_reducible first | exact HB.out | apply below_alloc | apply pw_below_drewN | apply below_drew1 | refine below_set ?_ GE472.out | refine below_set ?_ GE478.out | refine below_set ?_ GE483.out) | exact HB.out)) hb); clear BK472; clear BK478; clear BK483; clear HB; have BK472 := n0_; have BK478 := n1_; have BK483 := n2_; have HB := n3_; clear n0_ n1_ n2_ n3_; (try clear hb); (try clear hb2); (try clear hk); (try clear hi)))
                              go_roundg k2
                              case measure => have := HK1.out; have := HK2.out; omega
                              case rel => exact ⟨(t485), (wrap64 (x61_2 + 1)), (by first | rfl | (simp; done) | (simp [*]; done)), (by first | rfl | (simp; done) | (simp [*]; done)), H', ⟨by have := HK1.out; have := HK2.out; omega⟩, ⟨by (with_reducible repeat (first | refine blk_drewN ?_ _ | refine blk_drew ?_ | refine blk_alloc ?_ _)); exact BK472.out⟩, ⟨by (with_reducible repeat (first | refine blk_drewN ?_ _ | refine blk_drew ?_ | refine blk_alloc ?_ _)); exact BK478.out⟩, ⟨by (with_reducible repeat (first | refine blk_drewN ?_ _ | refine blk_drew ?_ | refine blk_alloc ?_ _)); exact BK483.out⟩, ⟨by repeat (first | (with_reducible first | exact HB.out | apply below_alloc | apply pw_below_drewN | apply below_drew1 | refine below_set ?_ GE472.out | refine below_set ?_ GE478.out | refine below_set ?_ GE483.out) | exact HB.out)⟩⟩
                          · rw [if_neg c31] at H
                            have c31b0 : (t486 == 0) = false := beq_eq_false_iff_ne.mpr c31
                            have c31b1 : (t486 != 0) = true := bne_iff_ne.mpr c31
                            exact absurd ((Option.some.inj H).trans hT.out) Bool.false_ne_true
                        · rw [if_neg c29] at H
                          exact absurd H (by simp)
                      · rw [if_neg c28] at H
                        exact absurd H (by simp)
                    · rw [if_neg c27] at H
                      have c27b0 : decide (x61_2 < (l3.length : Int)) = false := decide_eq_false c27
                      clear c27
                      have H' := Aside0.mk H
                      clear H
                      go_wp2
                      go_roundg k2
                      case measure => have := HK1.out; have := HK2.out; omega
                      case rel => exact ⟨(x15_2), (wrap64 (x55_1 + 1)), (by first | rfl | (simp; done) | (simp [*]; done)), (by first | rfl | (simp; done) | (simp [*]; done)), H', ⟨by have := HK1.out; have := HK2.out; omega⟩, ⟨by (with_reducible repeat (first | refine blk_drewN ?_ _ | refine blk_drew ?_ | refine blk_alloc ?_ _)); exact BK472.out⟩, ⟨by (with_reducible repeat (first | refine blk_drewN ?_ _ | refine blk_drew ?_ | refine blk_alloc ?_ _)); exact BK478.out⟩, ⟨by repeat (first | (with_reducible first | exact HB.out | apply below_alloc | apply pw_below_drewN | apply below_drew1 | refine below_set ?_ GE472.out | refine below_set ?_ GE478.out | refine below_set ?_ GE483.out) | exact HB.out)⟩⟩
              · rw [if_neg c22] at H
                exact absurd H (by simp)
            · rw [if_neg c21] at H
              exact absurd H (by simp)
          · rw [if_neg c20] at H
            have c20b0 : decide (x55_1 < (l2.length : Int)) = false := decide_eq_false c20
            clear c20
            by_cases c41 : t471 = true
            · subst c41
              have H1 : (if t480 = 0 then (if t476 ≤ t479 then (if (t474 == x15_1) = true then (if t474 = true then ((medlarref02_In.f k1 l3 t475).bind fun t481 => (some t481)) else (some true)) else (some false)) else (some false)) else (some false)) = some r := by rw [if_pos rfl] at H; exact H
              clear H
              have H := H1
              clear H1
              by_cases c42 : t480 = 0
              · rw [if_pos c42] at H
                have c42b0 : (t480 == 0) = true := beq_iff_eq.mpr c42
                have c42b1 : (t480 != 0) = false := bne_eq_false_iff_eq.mpr c42
                clear c42
                by_cases c43 : t476 ≤ t479
                · rw [if_pos c43] at H
                  have c43b0 : decide (t476 ≤ t479) = true := decide_eq_true c43
                  clear c43
                  by_cases c44 : (t474 == x15_1) = true
                  · rw [if_pos c44] at H
                    have c44b0 : (t474 == x15_1) = true := c44
                    (try (have c44b1 : decide (t474 = x15_1) = true := by simpa using c44))
                    (try (have c44b2 : (t474 == x15_1) = true := by simpa using c44))
                    clear c44
                    by_cases c45 : t474 = true
                    · subst c45
                      have H1 : ((medlarref02_In.f k1 l3 t475).bind fun t481 => (some t481)) = some r := by rw [if_pos rfl] at H; exact H
                      clear H
                      have H := H1
                      clear H1
                      replace H := Option.bind_eq_some_iff.mp H
                      obtain ⟨t481, A460, H⟩ := H
                      replace H : (some t481) = some r := H
                      have A46 := Aside0.mk A460
                      clear A460
                      obtain rfl := Option.some.inj H
                      have hnb47 := NB478_472.out
                      have hnc47 := NB472_478.out
                      have hcz48_0 : wr.cell? ⟨gb478, 0, none⟩ = some (.bool true) := (blk_cell BK478.out 0).trans rfl
                      have hcz48_1 : wr.cell? ⟨gb478, 1, none⟩ = some (.int .u64 t475) := (blk_cell BK478.out 1).trans rfl
                      have hcz48_2 : wr.cell? ⟨gb478, 2, none⟩ = some (.int .i64 t476) := (blk_cell BK478.out 2).trans rfl
                      have hfz48_0 := blk_frozen BK478.out 0
                      have hfz48_1 := blk_frozen BK478.out 1
                      have hfz48_2 := blk_frozen BK478.out 2
                      go_wp2_with (first | (go_at_call 24; (with_reducible refine (medlarref02_In.calls k1 _ _ l3 t475 t481 _ ?side1 ?side2 A46.out).mono ?_); (case side1 => repeat (first | exact (Kd.C_below HR3.out HB.out) | (with_reducible refine Kd.C_alloc ?_ _) | (with_reducible refine Kd.C_drewN ?_ _) | (with_reducible refine Kd.C_drew ?_))); (case side2 => exact HC3.out); rintro e w' ⟨rfl, ⟨nd, rfl⟩⟩))
                      go_ret
                      exact ⟨by first | rfl | (simp [errW_none, errW_some] <;> rfl) | (simp [*, errW_none, errW_some] <;> rfl), by repeat (first | (with_reducible first | exact HB.out | apply below_alloc | apply pw_below_drewN | apply below_drew1 | refine below_set ?_ GE472.out | refine below_set ?_ GE478.out) | exact HB.out)⟩
                    · replace c45 := Bool.eq_false_iff.mpr c45
                      subst c45
                      have H1 : (some true) = some r := by rw [if_neg (show ¬ (false = true) by decide)] at H; exact H
                      clear H
                      have H := H1
                      clear H1
                      obtain rfl := Option.some.inj H
                      have hnb49 := NB478_472.out
                      have hnc49 := NB472_478.out
                      have hcz50_0 : wr.cell? ⟨gb478, 0, none⟩ = some (.bool false) := (blk_cell BK478.out 0).trans rfl
                      have hcz50_1 : wr.cell? ⟨gb478, 1, none⟩ = some (.int .u64 t475) := (blk_cell BK478.out 1).trans rfl
                      have hcz50_2 : wr.cell? ⟨gb478, 2, none⟩ = some (.int .i64 t476) := (blk_cell BK478.out 2).trans rfl
                      have hfz50_0 := blk_frozen BK478.out 0
                      have hfz50_1 := blk_frozen BK478.out 1
                      have hfz50_2 := blk_frozen BK478.out 2
                      go_wp2
                      go_ret
                      exact ⟨by first | rfl | (simp [errW_none, errW_some] <;> rfl) | (simp [*, errW_none, errW_some] <;> rfl), by repeat (first | (with_reducible first | exact HB.out | apply below_alloc | apply pw_below_drewN | apply below_drew1 | refine below_set ?_ GE472.out | refine below_set ?_ GE478.out) | exact HB.out)⟩
                  · rw [if_neg c44] at H
                    have c44b0 : (t474 == x15_1) = false := by simpa using c44
                    (try (have c44b1 : decide (t474 = x15_1) = false := by simpa using c44))
                    (try (have c44b2 : (t474 == x15_1) = false := by simpa using c44))
                    (try (have c44b3 : ¬ (t474 = x15_1) := by simpa using c44))
                    clear c44
                    exact absurd ((Option.some.inj H).trans hT.out) Bool.false_ne_true
                · rw [if_neg c43] at H
                  have c43b0 : decide (t476 ≤ t479) = false := decide_eq_false c43
                  clear c43
                  exact absurd ((Option.some.inj H).trans hT.out) Bool.false_ne_true
              · rw [if_neg c42] at H
                have c42b0 : (t480 == 0) = false := beq_eq_false_iff_ne.mpr c42
                have c42b1 : (t480 != 0) = true := bne_iff_ne.mpr c42
                exact absurd ((Option.some.inj H).trans hT.out) Bool.false_ne_true
            · replace c41 := Bool.eq_false_iff.mpr c41
              subst c41
              have H1 : (some false) = some r := by rw [if_neg (show ¬ (false = true) by decide)] at H; exact H
              clear H
              have H := H1
              clear H1
              exact absurd ((Option.some.inj H).trans hT.out) Bool.false_ne_true
    · rw [if_neg c10] at H
      have c10b0 : (t477 == 0) = false := beq_eq_false_iff_ne.mpr c10
      have c10b1 : (t477 != 0) = true := bne_iff_ne.mpr c10
      by_cases c51 : t471 = true
      · subst c51
        have H1 : (some (!t474 && (t475 == 0 && (t476 == 0)))) = some r := by rw [if_pos rfl] at H; exact H
        clear H
        have H := H1
        clear H1
        obtain rfl := Option.some.inj H
        go_enter Try.func5, Try.ntmps5
        go_wp2_with (first | ((with_reducible refine gate_callee (f := 9) rfl ?_); refine goesL_ (some 22) rfl rfl Try.func9 (by kernel_rfl) rfl #[] rfl (by (try simp only [List.map_toArray, List.map_cons, List.map_nil]); first | done | rfl | (simp only [List.length_drop, List.length_take]; rfl)) ?_; (with_reducible refine (medlarlaw23_live.calls k  true _ A5.out).mono ?_); rintro e w52 ⟨rfl, hb⟩; refine ⟨_, rfl, ?_⟩; have n0_ := Aside0.mk (below_step (by repeat (first | (with_reducible first | exact HB.out | apply below_alloc | apply pw_below_drewN | apply below_drew1) | exact HB.out)) hb); clear HB; have HB := n0_; clear n0_; (try clear hb); (try clear hb2); (try clear hk); (try clear hi)) | ((with_reducible refine gate_dst (N := 10) rfl ?_); refine box_event ?hg (N := 10) ?hd (cs := #[.bool false, .slice none 0 0, .slice none 0 0]) (t := 42) ?hr ?_; (case hd => rfl); (case hg => rfl); (case hr => first | (go_simp; done) | (go_simp; rfl)); intro gb472 hg w53 hbox hb; have n0_ := Aside0.mk (below_step (by repeat (first | (with_reducible first | exact HB.out | apply below_alloc | apply pw_below_drewN | apply below_drew1) | exact HB.out)) hb); have n1_ := Aside0.mk (hbox); have n2_ := Aside0.mk ((by rw [hg]; exact (below_size (by repeat (first | (with_reducible first | exact HB.out | apply below_alloc | apply pw_below_drewN | apply below_drew1) | exact HB.out))) : w.heap.size ≤ gb472)); have n3_ := Aside0.mk ((by rw [hg]; exact (below_size (by repeat (first | (with_reducible first | exact HB.out | apply below_alloc | apply pw_below_drewN | apply below_drew1) | exact HB.out))) : w.heap.size ≤ gb472)); clear HB; have HB := n0_; have BK472 := n1_; have GW472 := n2_; have GE472 := n3_; clear n0_ n1_ n2_ n3_; clear hb hbox hg; have hcz54_0 : w53.cell? ⟨gb472, 0, none⟩ = some (.bool false) := (blk_cell BK472.out 0).trans rfl; have hcz54_1 : w53.cell? ⟨gb472, 1, none⟩ = some (.slice none 0 0) := (blk_cell BK472.out 1).trans rfl; have hcz54_2 : w53.cell? ⟨gb472, 2, none⟩ = some (.slice none 0 0) := (blk_cell BK472.out 2).trans rfl; have hfz54_0 := blk_frozen BK472.out 0; have hfz54_1 := blk_frozen BK472.out 1; have hfz54_2 := blk_frozen BK472.out 2) | ((with_reducible refine gate_callee (f := 15) rfl ?_); refine goesL_ (some 27) rfl rfl Try.func15 (by kernel_rfl) rfl #[.agg #[.bool false, .slice A3 l3.length c3, .slice none 0 0], .slice A2 l2.length c2] rfl (by (try simp only [List.map_toArray, List.map_cons, List.map_nil]); first | done | rfl | (simp only [List.length_drop, List.length_take]; rfl)) ?_; (refine (medlarlaw23_few.calls false _ _ l3 _ _ ([] : List Bool) _ _ l2 true _ ?side1 ?side2 ?side3 ?side4 ?side5 ?side6 A6.out).mono ?_); (case side1 => exact Kd.C_below HR3.out (by repeat (first | (with_reducible first | exact HB.out | apply below_alloc | apply pw_below_drewN | apply below_drew1 | refine below_set ?_ GE472.out) | exact HB.out))); (case side2 => exact HC3.out); (case side3 => exact Kd.C_nil _ _); (case side4 => exact Nat.le_refl _); (case side5 => exact Kd.C_below HR2.out (by repeat (first | (with_reducible first | exact HB.out | apply below_alloc | apply pw_below_drewN | apply below_drew1 | refine below_set ?_ GE472.out) | exact HB.out))); (case side6 => exact HC2.out); rintro e w55 ⟨rfl, hb⟩; refine ⟨_, rfl, ?_⟩; have n0_ := Aside0.mk (blk_below (g := gb472) (o := .cells #[.bool false, .slice A3 l3.length c3, .slice none 0 0] 42 (0, 0)) (by (with_reducible repeat (first | refine blk_drewN ?_ _ | refine blk_drew ?_ | refine blk_alloc ?_ _)); refine blk_put (cs := #[.bool false, .slice A3 l3.length c3, .slice none 0 0]) ?_ 2 _ rfl; (with_reducible repeat (first | refine blk_drewN ?_ _ | refine blk_drew ?_ | refine blk_alloc ?_ _)); refine blk_put (cs := #[.bool false, .slice none 0 0, .slice none 0 0]) ?_ 1 _ rfl; (with_reducible repeat (first | refine blk_drewN ?_ _ | refine blk_drew ?_ | refine blk_alloc ?_ _)); refine blk_put (cs := #[.bool false, .slice none 0 0, .slice none 0 0]) ?_ 0 _ rfl; (with_reducible repeat (first | refine blk_drewN ?_ _ | refine blk_drew ?_ | refine blk_alloc ?_ _)); exact BK472.out) hb); have n1_ := Aside0.mk (below_step (by repeat (first | (with_reducible first | exact HB.out | apply below_alloc | apply pw_below_drewN | apply below_drew1 | refine below_set ?_ GE472.out) | exact HB.out)) hb); clear BK472; clear HB; have BK472 := n0_; have HB := n1_; clear n0_ n1_; (try clear hb); (try clear hb2); (try clear hk); (try clear hi); have hcz56_0 : w55.cell? ⟨gb472, 0, none⟩ = some (.bool false) := (blk_cell BK472.out 0).trans rfl; have hcz56_1 : w55.cell? ⟨gb472, 1, none⟩ = some (.slice A3 l3.length c3) := (blk_cell BK472.out 1).trans rfl; have hcz56_2 : w55.cell? ⟨gb472, 2, none⟩ = some (.slice none 0 0) := (blk_cell BK472.out 2).trans rfl; have hfz56_0 := blk_frozen BK472.out 0; have hfz56_1 := blk_frozen BK472.out 1; have hfz56_2 := blk_frozen BK472.out 2) | ((with_reducible refine gate_callee (f := 20) rfl ?_); refine goesL_ (some 35) rfl rfl Try.func20 (by kernel_rfl) rfl #[.int .i64 a0, .int .i64 a1, .slice A2 l2.length c2, .agg #[.bool false, .slice A3 l3.length c3, .slice none 0 0]] rfl (by (try simp only [List.map_toArray, List.map_cons, List.map_nil]); first | done | rfl | (simp only [List.length_drop, List.length_take]; rfl)) ?_; (refine (trace_Trace.calls k a0 a1 _ _ l2 false _ _ l3 _ _ ([] : List Bool) t474 t475 t476 t477 _ ?side1 ?side2 ?side3 ?side4 ?side5 ?side6 A8.out).mono ?_); (case side1 => repeat (first | exact (Kd.C_below HR2.out HB.out) | (with_reducible refine Kd.C_alloc ?_ _) | (with_reducible refine Kd.C_drewN ?_ _) | (with_reducible refine Kd.C_drew ?_))); (case side2 => exact HC2.out); (case side3 => repeat (first | exact (Kd.C_below HR3.out HB.out) | (with_reducible refine Kd.C_alloc ?_ _) | (with_reducible refine Kd.C_drewN ?_ _) | (with_reducible refine Kd.C_drew ?_))); (case side4 => exact HC3.out); (case side5 => exact Kd.C_nil _ _); (case side6 => exact Nat.le_refl _); rintro e w57 ⟨rfl, hb⟩; refine ⟨_, rfl, ?_⟩; have n0_ := Aside0.mk (blk_below (g := gb472) (o := .cells #[.bool false, .slice A3 l3.length c3, .slice none 0 0] 42 (0, 0)) (by (with_reducible repeat (first | refine blk_drewN ?_ _ | refine blk_drew ?_ | refine blk_alloc ?_ _)); exact BK472.out) hb); have n1_ := Aside0.mk (below_step (by repeat (first | (with_reducible first | exact HB.out | apply below_alloc | apply pw_below_drewN | apply below_drew1 | refine below_set ?_ GE472.out) | exact HB.out)) hb); clear BK472; clear HB; have BK472 := n0_; have HB := n1_; clear n0_ n1_; (try clear hb); (try clear hb2); (try clear hk); (try clear hi)) | ((with_reducible refine gate_dst (N := 11) rfl ?_); refine box_event ?hg (N := 11) ?hd (cs := #[.bool false, .int .u64 0, .int .i64 0]) (t := 48) ?hr ?_; (case hd => rfl); (case hg => rfl); (case hr => first | (go_simp; done) | (go_simp; rfl)); intro gb478 hg w58 hbox hb; have n0_ := Aside0.mk (blk_below (g := gb472) (o := .cells #[.bool false, .slice A3 l3.length c3, .slice none 0 0] 42 (0, 0)) (by (with_reducible repeat (first | refine blk_drewN ?_ _ | refine blk_drew ?_ | refine blk_alloc ?_ _)); exact BK472.out) hb); have n1_ := Aside0.mk (below_step (by repeat (first | (with_reducible first | exact HB.out | apply below_alloc | apply pw_below_drewN | apply below_drew1 | refine below_set ?_ GE472.out) | exact HB.out)) hb); have n2_ := Aside0.mk (hbox); have n3_ := Aside0.mk ((by rw [hg]; exact (below_size (by repeat (first | (with_reducible first | exact HB.out | apply below_alloc | apply pw_below_drewN | apply below_drew1 | refine below_set ?_ GE472.out) | exact HB.out))) : w.heap.size ≤ gb478)); have n4_ := Aside0.mk ((by rw [hg]; exact (below_size (by repeat (first | (with_reducible first | exact HB.out | apply below_alloc | apply pw_below_drewN | apply below_drew1 | refine below_set ?_ GE472.out) | exact HB.out))) : w.heap.size ≤ gb478)); have n5_ := Aside0.mk ((by rw [hg]; exact Nat.ne_of_lt (blk_lt (g := gb472) (o := .cells #[.bool false, .slice A3 l3.length c3, .slice none 0 0] 42 (0, 0)) (by (with_reducible repeat (first | refine blk_drewN ?_ _ | refine blk_drew ?_ | refine blk_alloc ?_ _)); exact BK472.out)) : gb472 ≠ gb478)); have n6_ := Aside0.mk ((by rw [hg]; exact Nat.ne_of_gt (blk_lt (g := gb472) (o := .cells #[.bool false, .slice A3 l3.length c3, .slice none 0 0] 42 (0, 0)) (by (with_reducible repeat (first | refine blk_drewN ?_ _ | refine blk_drew ?_ | refine blk_alloc ?_ _)); exact BK472.out)) : gb478 ≠ gb472)); clear BK472; clear HB; have BK472 := n0_; have HB := n1_; have BK478 := n2_; have GW478 := n3_; have GE478 := n4_; have NB472_478 := n5_; have NB478_472 := n6_; clear n0_ n1_ n2_ n3_ n4_ n5_ n6_; clear hb hbox hg; have hnb59 := NB478_472.out; have hnc59 := NB472_478.out; have hcz60_0 : w58.cell? ⟨gb478, 0, none⟩ = some (.bool false) := (blk_cell BK478.out 0).trans rfl; have hcz60_1 : w58.cell? ⟨gb478, 1, none⟩ = some (.int .u64 0) := (blk_cell BK478.out 1).trans rfl; have hcz60_2 : w58.cell? ⟨gb478, 2, none⟩ = some (.int .i64 0) := (blk_cell BK478.out 2).trans rfl; have hfz60_0 := blk_frozen BK478.out 0; have hfz60_1 := blk_frozen BK478.out 1; have hfz60_2 := blk_frozen BK478.out 2) | ((with_reducible refine gate_callee (f := 18) rfl ?_); refine goesL_ (some 42) rfl rfl Try.func18 (by kernel_rfl) rfl #[.int .i64 a0, .int .i64 (l2.length : Int)] rfl (by (try simp only [List.map_toArray, List.map_cons, List.map_nil]); first | done | rfl | (simp only [List.length_drop, List.length_take]; rfl)) ?_; (with_reducible refine (trace_Bound.calls k a0 (l2.length : Int) t479 t480 _ A9.out).mono ?_); rintro e w' ⟨rfl, ⟨nd, rfl⟩⟩; refine ⟨_, rfl, ?_⟩))
        go_ret
        exact ⟨by first | rfl | (simp [errW_none, errW_some] <;> rfl) | (simp [*, errW_none, errW_some] <;> rfl), by repeat (first | (with_reducible first | exact HB.out | apply below_alloc | apply pw_below_drewN | apply below_drew1 | refine below_set ?_ GE472.out | refine below_set ?_ GE478.out) | exact HB.out)⟩
      · replace c51 := Bool.eq_false_iff.mpr c51
        subst c51
        have H1 : (some false) = some r := by rw [if_neg (show ¬ (false = true) by decide)] at H; exact H
        clear H
        have H := H1
        clear H1
        exact absurd ((Option.some.inj H).trans hT.out) Bool.false_ne_true
  · replace c7 := Bool.eq_false_iff.mpr c7
    subst c7
    have H1 : (some t471) = some r := by rw [if_neg (show ¬ (false = true) by decide)] at H; exact H
    clear H
    have H := H1
    clear H1
    obtain rfl := Option.some.inj H
    go_enter Try.func5, Try.ntmps5
    go_wp2_with (first | ((with_reducible refine gate_callee (f := 9) rfl ?_); refine goesL_ (some 22) rfl rfl Try.func9 (by kernel_rfl) rfl #[] rfl (by (try simp only [List.map_toArray, List.map_cons, List.map_nil]); first | done | rfl | (simp only [List.length_drop, List.length_take]; rfl)) ?_; (with_reducible refine (medlarlaw23_live.calls k  t471 _ A5.out).mono ?_); rintro e w61 ⟨rfl, hb⟩; refine ⟨_, rfl, ?_⟩; have n0_ := Aside0.mk (below_step (by repeat (first | (with_reducible first | exact HB.out | apply below_alloc | apply pw_below_drewN | apply below_drew1) | exact HB.out)) hb); clear HB; have HB := n0_; clear n0_; (try clear hb); (try clear hb2); (try clear hk); (try clear hi)) | ((with_reducible refine gate_dst (N := 10) rfl ?_); refine box_event ?hg (N := 10) ?hd (cs := #[.bool false, .slice none 0 0, .slice none 0 0]) (t := 42) ?hr ?_; (case hd => rfl); (case hg => rfl); (case hr => first | (go_simp; done) | (go_simp; rfl)); intro gb472 hg w62 hbox hb; have n0_ := Aside0.mk (below_step (by repeat (first | (with_reducible first | exact HB.out | apply below_alloc | apply pw_below_drewN | apply below_drew1) | exact HB.out)) hb); have n1_ := Aside0.mk (hbox); have n2_ := Aside0.mk ((by rw [hg]; exact (below_size (by repeat (first | (with_reducible first | exact HB.out | apply below_alloc | apply pw_below_drewN | apply below_drew1) | exact HB.out))) : w.heap.size ≤ gb472)); have n3_ := Aside0.mk ((by rw [hg]; exact (below_size (by repeat (first | (with_reducible first | exact HB.out | apply below_alloc | apply pw_below_drewN | apply below_drew1) | exact HB.out))) : w.heap.size ≤ gb472)); clear HB; have HB := n0_; have BK472 := n1_; have GW472 := n2_; have GE472 := n3_; clear n0_ n1_ n2_ n3_; clear hb hbox hg; have hcz63_0 : w62.cell? ⟨gb472, 0, none⟩ = some (.bool false) := (blk_cell BK472.out 0).trans rfl; have hcz63_1 : w62.cell? ⟨gb472, 1, none⟩ = some (.slice none 0 0) := (blk_cell BK472.out 1).trans rfl; have hcz63_2 : w62.cell? ⟨gb472, 2, none⟩ = some (.slice none 0 0) := (blk_cell BK472.out 2).trans rfl; have hfz63_0 := blk_frozen BK472.out 0; have hfz63_1 := blk_frozen BK472.out 1; have hfz63_2 := blk_frozen BK472.out 2) | ((with_reducible refine gate_callee (f := 15) rfl ?_); refine goesL_ (some 27) rfl rfl Try.func15 (by kernel_rfl) rfl #[.agg #[.bool false, .slice A3 l3.length c3, .slice none 0 0], .slice A2 l2.length c2] rfl (by (try simp only [List.map_toArray, List.map_cons, List.map_nil]); first | done | rfl | (simp only [List.length_drop, List.length_take]; rfl)) ?_; (refine (medlarlaw23_few.calls false _ _ l3 _ _ ([] : List Bool) _ _ l2 false _ ?side1 ?side2 ?side3 ?side4 ?side5 ?side6 A6.out).mono ?_); (case side1 => exact Kd.C_below HR3.out (by repeat (first | (with_reducible first | exact HB.out | apply below_alloc | apply pw_below_drewN | apply below_drew1 | refine below_set ?_ GE472.out) | exact HB.out))); (case side2 => exact HC3.out); (case side3 => exact Kd.C_nil _ _); (case side4 => exact Nat.le_refl _); (case side5 => exact Kd.C_below HR2.out (by repeat (first | (with_reducible first | exact HB.out | apply below_alloc | apply pw_below_drewN | apply below_drew1 | refine below_set ?_ GE472.out) | exact HB.out))); (case side6 => exact HC2.out); rintro e w64 ⟨rfl, hb⟩; refine ⟨_, rfl, ?_⟩; have n0_ := Aside0.mk (blk_below (g := gb472) (o := .cells #[.bool false, .slice A3 l3.length c3, .slice none 0 0] 42 (0, 0)) (by (with_reducible repeat (first | refine blk_drewN ?_ _ | refine blk_drew ?_ | refine blk_alloc ?_ _)); refine blk_put (cs := #[.bool false, .slice A3 l3.length c3, .slice none 0 0]) ?_ 2 _ rfl; (with_reducible repeat (first | refine blk_drewN ?_ _ | refine blk_drew ?_ | refine blk_alloc ?_ _)); refine blk_put (cs := #[.bool false, .slice none 0 0, .slice none 0 0]) ?_ 1 _ rfl; (with_reducible repeat (first | refine blk_drewN ?_ _ | refine blk_drew ?_ | refine blk_alloc ?_ _)); refine blk_put (cs := #[.bool false, .slice none 0 0, .slice none 0 0]) ?_ 0 _ rfl; (with_reducible repeat (first | refine blk_drewN ?_ _ | refine blk_drew ?_ | refine blk_alloc ?_ _)); exact BK472.out) hb); have n1_ := Aside0.mk (below_step (by repeat (first | (with_reducible first | exact HB.out | apply below_alloc | apply pw_below_drewN | apply below_drew1 | refine below_set ?_ GE472.out) | exact HB.out)) hb); clear BK472; clear HB; have BK472 := n0_; have HB := n1_; clear n0_ n1_; (try clear hb); (try clear hb2); (try clear hk); (try clear hi)))
    go_ret
    exact ⟨by first | rfl | (simp [errW_none, errW_some] <;> rfl) | (simp [*, errW_none, errW_some] <;> rfl), by repeat (first | (with_reducible first | exact HB.out | apply below_alloc | apply pw_below_drewN | apply below_drew1 | refine below_set ?_ GE472.out) | exact HB.out)⟩

end Go.Proofs.Ytnbiddloiiljjaa.MP
