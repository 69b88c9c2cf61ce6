-- written by a program of this session (wip/tools/mprint.sh) for this seat
import Derived.Test.YtmffkfakcbopcaaMPx0
import Derived.Test.YtmffkfakcbopcaaMPx2
import Derived.Test.YtmffkfakcbopcaaMPx3
import Derived.Test.YtmffkfakcbopcaaMPx4
namespace Go.Proofs.Ytmffkfakcbopcaa.MP
open Go.RowKit Go.Proofs.YtmffkfakcbopcaaW.PrintWords Go.Proofs.YtmffkfakcbopcaaW.PrintLast Go.Proofs.YtmffkfakcbopcaaW.PrintMore
open List (setIfInBounds_toArray set_cons_zero set_cons_succ map_toArray map_cons map_nil length_drop length_take)
attribute [local go_sem] max2_int min2_int max_two min_two max_three min_three max_four min_four   -- for this text's walks alone
set_option linter.unusedVariables false
set_option linter.unusedSimpArgs false

/-! ### sub_Useful: function 36 -/
def sub_Useful.f (k : Nat) (a0 : Int) (a1_0 : Int) (a1_1 : Int) : Option (Bool × Int) := (sub_Check.f k a0 a1_0 a1_1).bind fun t306 => (if t306 = 0 then (if a1_1 = 0 then (some ((a1_0 == 1), 0)) else ((sub_depths.f k a0 a1_0 a1_1).bind fun bt307 => (if bt307.2.2.2.2 = 0 then (if bt307.2.2.2.1 = true then (some (true, bt307.2.2.2.2)) else (some (decide (bt307.2.1 ≤ bt307.2.2.1), bt307.2.2.2.2))) else (some (false, bt307.2.2.2.2))))) else (some (false, t306)))
theorem sub_Useful.mono : ∀ a0 a1 a2 k, LeO (sub_Useful.f k a0 a1 a2) (sub_Useful.f (k + 1) a0 a1 a2) := by
  intro a0 a1 a2 k
  unfold sub_Useful.f
  repeat' first
    | (with_reducible exact sub_Check.mono _ _ _ _)
    | (with_reducible exact sub_depths.mono _ _ _ _)
    | (with_reducible exact LeO.refl _)
    | (with_reducible exact LeO.none _)
    | (with_reducible refine LeO.ite ?_ ?_)
    | (with_reducible refine LeO.bind ?_ (fun _ => ?_))
    | exact sub_Check.mono _ _ _ _
    | exact sub_depths.mono _ _ _ _
    | exact LeO.none _
    | refine LeO.ite ?_ ?_
    | refine LeO.bind ?_ (fun _ => ?_)
set_option maxHeartbeats 8000000 in
set_option maxRecDepth 100000 in
theorem sub_Useful.calls (k : Nat) (a0 : Int) (a1_0 : Int) (a1_1 : Int) (r1 : Bool) (r2 : Int) (w : World) (h : sub_Useful.f k a0 a1_0 a1_1 = some (r1, r2)) :
   Calls Try.prog 36 #[.int .i64 a0, .agg #[.int .u64 a1_0, .int .u64 a1_1]] w fun e w' => e = .returned (.tuple #[.bool r1, .int .i64 r2]) ∧ Below w.heap.size w w' := by
  have hu34 := Try.underlying34
  have HB := ak_ (Below.refl w.heap.size w)
  have H : ((sub_Check.f k a0 a1_0 a1_1).bind fun t306 => (if t306 = 0 then (if a1_1 = 0 then (some ((a1_0 == 1), 0)) else ((sub_depths.f k a0 a1_0 a1_1).bind fun bt307 => (if bt307.2.2.2.2 = 0 then (if bt307.2.2.2.1 = true then (some (true, bt307.2.2.2.2)) else (some (decide (bt307.2.1 ≤ bt307.2.2.1), bt307.2.2.2.2))) else (some (false, bt307.2.2.2.2))))) else (some (false, t306)))) = some (r1, r2) := h
  clear h
  replace H := Option.bind_eq_some_iff.mp H
  obtain ⟨t306, A30, H⟩ := H
  replace H : (if t306 = 0 then (if a1_1 = 0 then (some ((a1_0 == 1), 0)) else ((sub_depths.f k a0 a1_0 a1_1).bind fun bt307 => (if bt307.2.2.2.2 = 0 then (if bt307.2.2.2.1 = true then (some (true, bt307.2.2.2.2)) else (some (decide (bt307.2.1 ≤ bt307.2.2.1), bt307.2.2.2.2))) else (some (false, bt307.2.2.2.2))))) else (some (false, t306))) = some (r1, r2) := H
  have A3 := ak_ A30
  clear A30
  by_cases c4 : t306 = 0
  ·rw [if_pos c4] at H
   have c4b0 : (t306 == 0) = true := beq_iff_eq.mpr c4
   have c4b1 : (t306 != 0) = false := bne_eq_false_iff_eq.mpr c4
   clear c4
   by_cases c5 : a1_1 = 0
   ·rw [if_pos c5] at H
    have c5b0 : (a1_1 == 0) = true := beq_iff_eq.mpr c5
    have c5b1 : (a1_1 != 0) = false := bne_eq_false_iff_eq.mpr c5
    clear c5
    simp only [Option.some.injEq, Prod.mk.injEq] at H
    obtain ⟨rfl, rfl⟩ := H
    go_enter Try.func36, Try.ntmps36
    go_wp2_with (first | ((with_reducible refine gate_dst (N := 3) rfl ?_); refine box_event ?hg (N := 3) ?hd (cs := #[.int .u64 a1_0, .int .u64 a1_1]) (t := 34) ?hr ?_; (case hd => rfl); (case hg => rfl); (case hr => first | (go_simp; done) | (go_simp; rfl)); intro gb305 hg w6 hbox hb; have n0_ := ak_ (below_step (by repeat (first | (with_reducible first | exact HB.out | apply ba_ | apply bn_ | apply bd_) | exact HB.out)) hb); have n1_ := ak_ (hbox); have n2_ := ak_ ((by rw [hg]; exact (below_size (by repeat (first | (with_reducible first | exact HB.out | apply ba_ | apply bn_ | apply bd_) | exact HB.out))) : w.heap.size ≤ gb305)); have n3_ := ak_ ((by rw [hg]; exact (below_size (by repeat (first | (with_reducible first | exact HB.out | apply ba_ | apply bn_ | apply bd_) | exact HB.out))) : w.heap.size ≤ gb305)); clear HB; have HB := n0_; have BK305 := n1_; have GW305 := n2_; have GE305 := n3_; clear n0_ n1_ n2_ n3_; clear hb hbox hg; have hcz7_0 : w6.cell? ⟨gb305, 0, none⟩ = some (.int .u64 a1_0) := (blk_cell BK305.out 0).trans rfl; have hcz7_1 : w6.cell? ⟨gb305, 1, none⟩ = some (.int .u64 a1_1) := (blk_cell BK305.out 1).trans rfl; have hfz7_0 := blk_frozen BK305.out 0; have hfz7_1 := blk_frozen BK305.out 1) | ((with_reducible refine gate_callee (f := 75) rfl ?_); refine goesL_ (some 14) rfl rfl Try.func75 (by kernel_rfl) rfl #[.int .i64 a0, .agg #[.int .u64 a1_0, .int .u64 a1_1]] rfl (by (try simp only [map_toArray, map_cons, map_nil]); first | done | rfl | (simp only [length_drop, length_take]; rfl)) ?_; (with_reducible refine (sub_Check.calls k a0 a1_0 a1_1 t306 _ A3.out).mono ?_); rintro e w8 ⟨rfl, hb⟩; refine ⟨_, rfl, ?_⟩; have n0_ := ak_ (blk_below (g := gb305) (o := .cells #[.int .u64 a1_0, .int .u64 a1_1] 34 (0, 0)) (by (with_reducible repeat (first | refine kn_ ?_ _ | refine kd_ ?_ | refine ka_ ?_ _)); exact BK305.out) hb); have n1_ := ak_ (below_step (by repeat (first | (with_reducible first | exact HB.out | apply ba_ | apply bn_ | apply bd_ | refine below_set ?_ GE305.out) | exact HB.out)) hb); clear BK305; clear HB; have BK305 := n0_; have HB := n1_; clear n0_ n1_; (try clear hb); (try clear hb2); (try clear hk); (try clear hi); have hcz9_0 : w8.cell? ⟨gb305, 0, none⟩ = some (.int .u64 a1_0) := (blk_cell BK305.out 0).trans rfl; have hcz9_1 : w8.cell? ⟨gb305, 1, none⟩ = some (.int .u64 a1_1) := (blk_cell BK305.out 1).trans rfl; have hfz9_0 := blk_frozen BK305.out 0; have hfz9_1 := blk_frozen BK305.out 1))
    go_ret2
    exact ⟨by first | rfl | (simp <;> rfl) | (simp [*] <;> rfl), by repeat (first | (with_reducible first | exact HB.out | apply ba_ | apply bn_ | apply bd_ | refine below_set ?_ GE305.out) | exact HB.out)⟩
   ·rw [if_neg c5] at H
    have c5b0 : (a1_1 == 0) = false := beq_eq_false_iff_ne.mpr c5
    have c5b1 : (a1_1 != 0) = true := bne_iff_ne.mpr c5
    replace H := Option.bind_eq_some_iff.mp H
    obtain ⟨⟨t307, t308, t309, t310, t311⟩, A100, H⟩ := H
    replace H : (if t311 = 0 then (if t310 = true then (some (true, t311)) else (some (decide (t308 ≤ t309), t311))) else (some (false, t311))) = some (r1, r2) := H
    have A10 := ak_ A100
    clear A100
    by_cases c11 : t311 = 0
    ·rw [if_pos c11] at H
     have c11b0 : (t311 == 0) = true := beq_iff_eq.mpr c11
     have c11b1 : (t311 != 0) = false := bne_eq_false_iff_eq.mpr c11
     clear c11
     by_cases c12 : t310 = true
     ·subst c12
      have H1 : (some (true, t311)) = some (r1, r2) := by rw [if_pos rfl] at H; exact H
      clear H
      have H := H1
      clear H1
      simp only [Option.some.injEq, Prod.mk.injEq] at H
      obtain ⟨rfl, rfl⟩ := H
      go_enter Try.func36, Try.ntmps36
      go_wp2_with (first | ((with_reducible refine gate_dst (N := 3) rfl ?_); refine box_event ?hg (N := 3) ?hd (cs := #[.int .u64 a1_0, .int .u64 a1_1]) (t := 34) ?hr ?_; (case hd => rfl); (case hg => rfl); (case hr => first | (go_simp; done) | (go_simp; rfl)); intro gb305 hg w13 hbox hb; have n0_ := ak_ (below_step (by repeat (first | (with_reducible first | exact HB.out | apply ba_ | apply bn_ | apply bd_) | exact HB.out)) hb); have n1_ := ak_ (hbox); have n2_ := ak_ ((by rw [hg]; exact (below_size (by repeat (first | (with_reducible first | exact HB.out | apply ba_ | apply bn_ | apply bd_) | exact HB.out))) : w.heap.size ≤ gb305)); have n3_ := ak_ ((by rw [hg]; exact (below_size (by repeat (first | (with_reducible first | exact HB.out | apply ba_ | apply bn_ | apply bd_) | exact HB.out))) : w.heap.size ≤ gb305)); clear HB; have HB := n0_; have BK305 := n1_; have GW305 := n2_; have GE305 := n3_; clear n0_ n1_ n2_ n3_; clear hb hbox hg; have hcz14_0 : w13.cell? ⟨gb305, 0, none⟩ = some (.int .u64 a1_0) := (blk_cell BK305.out 0).trans rfl; have hcz14_1 : w13.cell? ⟨gb305, 1, none⟩ = some (.int .u64 a1_1) := (blk_cell BK305.out 1).trans rfl; have hfz14_0 := blk_frozen BK305.out 0; have hfz14_1 := blk_frozen BK305.out 1) | ((with_reducible refine gate_callee (f := 75) rfl ?_); refine goesL_ (some 14) rfl rfl Try.func75 (by kernel_rfl) rfl #[.int .i64 a0, .agg #[.int .u64 a1_0, .int .u64 a1_1]] rfl (by (try simp only [map_toArray, map_cons, map_nil]); first | done | rfl | (simp only [length_drop, length_take]; rfl)) ?_; (with_reducible refine (sub_Check.calls k a0 a1_0 a1_1 t306 _ A3.out).mono ?_); rintro e w15 ⟨rfl, hb⟩; refine ⟨_, rfl, ?_⟩; have n0_ := ak_ (blk_below (g := gb305) (o := .cells #[.int .u64 a1_0, .int .u64 a1_1] 34 (0, 0)) (by (with_reducible repeat (first | refine kn_ ?_ _ | refine kd_ ?_ | refine ka_ ?_ _)); exact BK305.out) hb); have n1_ := ak_ (below_step (by repeat (first | (with_reducible first | exact HB.out | apply ba_ | apply bn_ | apply bd_ | refine below_set ?_ GE305.out) | exact HB.out)) hb); clear BK305; clear HB; have BK305 := n0_; have HB := n1_; clear n0_ n1_; (try clear hb); (try clear hb2); (try clear hk); (try clear hi); have hcz16_0 : w15.cell? ⟨gb305, 0, none⟩ = some (.int .u64 a1_0) := (blk_cell BK305.out 0).trans rfl; have hcz16_1 : w15.cell? ⟨gb305, 1, none⟩ = some (.int .u64 a1_1) := (blk_cell BK305.out 1).trans rfl; have hfz16_0 := blk_frozen BK305.out 0; have hfz16_1 := blk_frozen BK305.out 1) | ((with_reducible refine gate_callee (f := 76) rfl ?_); refine goesL_ (some 27) rfl rfl Try.func76 (by kernel_rfl) rfl #[.int .i64 a0, .agg #[.int .u64 a1_0, .int .u64 a1_1]] rfl (by (try simp only [map_toArray, map_cons, map_nil]); first | done | rfl | (simp only [length_drop, length_take]; rfl)) ?_; (with_reducible refine (sub_depths.calls k a0 a1_0 a1_1 t307 t308 t309 true t311 _ A10.out).mono ?_); rintro e w17 ⟨rfl, hb⟩; refine ⟨_, rfl, ?_⟩; have n0_ := ak_ (blk_below (g := gb305) (o := .cells #[.int .u64 a1_0, .int .u64 a1_1] 34 (0, 0)) (by (with_reducible repeat (first | refine kn_ ?_ _ | refine kd_ ?_ | refine ka_ ?_ _)); exact BK305.out) hb); have n1_ := ak_ (below_step (by repeat (first | (with_reducible first | exact HB.out | apply ba_ | apply bn_ | apply bd_ | refine below_set ?_ GE305.out) | exact HB.out)) hb); clear BK305; clear HB; have BK305 := n0_; have HB := n1_; clear n0_ n1_; (try clear hb); (try clear hb2); (try clear hk); (try clear hi)))
      go_ret2
      exact ⟨by first | rfl | (simp <;> rfl) | (simp [*] <;> rfl), by repeat (first | (with_reducible first | exact HB.out | apply ba_ | apply bn_ | apply bd_ | refine below_set ?_ GE305.out) | exact HB.out)⟩
     ·replace c12 := Bool.eq_false_iff.mpr c12
      subst c12
      have H1 : (some (decide (t308 ≤ t309), t311)) = some (r1, r2) := by rw [if_neg (show ¬ (false = true) by decide)] at H; exact H
      clear H
      have H := H1
      clear H1
      simp only [Option.some.injEq, Prod.mk.injEq] at H
      obtain ⟨rfl, rfl⟩ := H
      go_enter Try.func36, Try.ntmps36
      go_wp2_with (first | ((with_reducible refine gate_dst (N := 3) rfl ?_); refine box_event ?hg (N := 3) ?hd (cs := #[.int .u64 a1_0, .int .u64 a1_1]) (t := 34) ?hr ?_; (case hd => rfl); (case hg => rfl); (case hr => first | (go_simp; done) | (go_simp; rfl)); intro gb305 hg w18 hbox hb; have n0_ := ak_ (below_step (by repeat (first | (with_reducible first | exact HB.out | apply ba_ | apply bn_ | apply bd_) | exact HB.out)) hb); have n1_ := ak_ (hbox); have n2_ := ak_ ((by rw [hg]; exact (below_size (by repeat (first | (with_reducible first | exact HB.out | apply ba_ | apply bn_ | apply bd_) | exact HB.out))) : w.heap.size ≤ gb305)); have n3_ := ak_ ((by rw [hg]; exact (below_size (by repeat (first | (with_reducible first | exact HB.out | apply ba_ | apply bn_ | apply bd_) | exact HB.out))) : w.heap.size ≤ gb305)); clear HB; have HB := n0_; have BK305 := n1_; have GW305 := n2_; have GE305 := n3_; clear n0_ n1_ n2_ n3_; clear hb hbox hg; have hcz19_0 : w18.cell? ⟨gb305, 0, none⟩ = some (.int .u64 a1_0) := (blk_cell BK305.out 0).trans rfl; have hcz19_1 : w18.cell? ⟨gb305, 1, none⟩ = some (.int .u64 a1_1) := (blk_cell BK305.out 1).trans rfl; have hfz19_0 := blk_frozen BK305.out 0; have hfz19_1 := blk_frozen BK305.out 1) | ((with_reducible refine gate_callee (f := 75) rfl ?_); refine goesL_ (some 14) rfl rfl Try.func75 (by kernel_rfl) rfl #[.int .i64 a0, .agg #[.int .u64 a1_0, .int .u64 a1_1]] rfl (by (try simp only [map_toArray, map_cons, map_nil]); first | done | rfl | (simp only [length_drop, length_take]; rfl)) ?_; (with_reducible refine (sub_Check.calls k a0 a1_0 a1_1 t306 _ A3.out).mono ?_); rintro e w20 ⟨rfl, hb⟩; refine ⟨_, rfl, ?_⟩; have n0_ := ak_ (blk_below (g := gb305) (o := .cells #[.int .u64 a1_0, .int .u64 a1_1] 34 (0, 0)) (by (with_reducible repeat (first | refine kn_ ?_ _ | refine kd_ ?_ | refine ka_ ?_ _)); exact BK305.out) hb); have n1_ := ak_ (below_step (by repeat (first | (with_reducible first | exact HB.out | apply ba_ | apply bn_ | apply bd_ | refine below_set ?_ GE305.out) | exact HB.out)) hb); clear BK305; clear HB; have BK305 := n0_; have HB := n1_; clear n0_ n1_; (try clear hb); (try clear hb2); (try clear hk); (try clear hi); have hcz21_0 : w20.cell? ⟨gb305, 0, none⟩ = some (.int .u64 a1_0) := (blk_cell BK305.out 0).trans rfl; have hcz21_1 : w20.cell? ⟨gb305, 1, none⟩ = some (.int .u64 a1_1) := (blk_cell BK305.out 1).trans rfl; have hfz21_0 := blk_frozen BK305.out 0; have hfz21_1 := blk_frozen BK305.out 1) | ((with_reducible refine gate_callee (f := 76) rfl ?_); refine goesL_ (some 27) rfl rfl Try.func76 (by kernel_rfl) rfl #[.int .i64 a0, .agg #[.int .u64 a1_0, .int .u64 a1_1]] rfl (by (try simp only [map_toArray, map_cons, map_nil]); first | done | rfl | (simp only [length_drop, length_take]; rfl)) ?_; (with_reducible refine (sub_depths.calls k a0 a1_0 a1_1 t307 t308 t309 false t311 _ A10.out).mono ?_); rintro e w22 ⟨rfl, hb⟩; refine ⟨_, rfl, ?_⟩; have n0_ := ak_ (blk_below (g := gb305) (o := .cells #[.int .u64 a1_0, .int .u64 a1_1] 34 (0, 0)) (by (with_reducible repeat (first | refine kn_ ?_ _ | refine kd_ ?_ | refine ka_ ?_ _)); exact BK305.out) hb); have n1_ := ak_ (below_step (by repeat (first | (with_reducible first | exact HB.out | apply ba_ | apply bn_ | apply bd_ | refine below_set ?_ GE305.out) | exact HB.out)) hb); clear BK305; clear HB; have BK305 := n0_; have HB := n1_; clear n0_ n1_; (try clear hb); (try clear hb2); (try clear hk); (try clear hi)))
      go_ret2
      exact ⟨by first | rfl | (simp <;> rfl) | (simp [*] <;> rfl), by repeat (first | (with_reducible first | exact HB.out | apply ba_ | apply bn_ | apply bd_ | refine below_set ?_ GE305.out) | exact HB.out)⟩
    ·rw [if_neg c11] at H
     have c11b0 : (t311 == 0) = false := beq_eq_false_iff_ne.mpr c11
     have c11b1 : (t311 != 0) = true := bne_iff_ne.mpr c11
     simp only [Option.some.injEq, Prod.mk.injEq] at H
     obtain ⟨rfl, rfl⟩ := H
     go_enter Try.func36, Try.ntmps36
     go_wp2_with (first | ((with_reducible refine gate_dst (N := 3) rfl ?_); refine box_event ?hg (N := 3) ?hd (cs := #[.int .u64 a1_0, .int .u64 a1_1]) (t := 34) ?hr ?_; (case hd => rfl); (case hg => rfl); (case hr => first | (go_simp; done) | (go_simp; rfl)); intro gb305 hg w23 hbox hb; have n0_ := ak_ (below_step (by repeat (first | (with_reducible first | exact HB.out | apply ba_ | apply bn_ | apply bd_) | exact HB.out)) hb); have n1_ := ak_ (hbox); have n2_ := ak_ ((by rw [hg]; exact (below_size (by repeat (first | (with_reducible first | exact HB.out | apply ba_ | apply bn_ | apply bd_) | exact HB.out))) : w.heap.size ≤ gb305)); have n3_ := ak_ ((by rw [hg]; exact (below_size (by repeat (first | (with_reducible first | exact HB.out | apply ba_ | apply bn_ | apply bd_) | exact HB.out))) : w.heap.size ≤ gb305)); clear HB; have HB := n0_; have BK305 := n1_; have GW305 := n2_; have GE305 := n3_; clear n0_ n1_ n2_ n3_; clear hb hbox hg; have hcz24_0 : w23.cell? ⟨gb305, 0, none⟩ = some (.int .u64 a1_0) := (blk_cell BK305.out 0).trans rfl; have hcz24_1 : w23.cell? ⟨gb305, 1, none⟩ = some (.int .u64 a1_1) := (blk_cell BK305.out 1).trans rfl; have hfz24_0 := blk_frozen BK305.out 0; have hfz24_1 := blk_frozen BK305.out 1) | ((with_reducible refine gate_callee (f := 75) rfl ?_); refine goesL_ (some 14) rfl rfl Try.func75 (by kernel_rfl) rfl #[.int .i64 a0, .agg #[.int .u64 a1_0, .int .u64 a1_1]] rfl (by (try simp only [map_toArray, map_cons, map_nil]); first | done | rfl | (simp only [length_drop, length_take]; rfl)) ?_; (with_reducible refine (sub_Check.calls k a0 a1_0 a1_1 t306 _ A3.out).mono ?_); rintro e w25 ⟨rfl, hb⟩; refine ⟨_, rfl, ?_⟩; have n0_ := ak_ (blk_below (g := gb305) (o := .cells #[.int .u64 a1_0, .int .u64 a1_1] 34 (0, 0)) (by (with_reducible repeat (first | refine kn_ ?_ _ | refine kd_ ?_ | refine ka_ ?_ _)); exact BK305.out) hb); have n1_ := ak_ (below_step (by repeat (first | (with_reducible first | exact HB.out | apply ba_ | apply bn_ | apply bd_ | refine below_set ?_ GE305.out) | exact HB.out)) hb); clear BK305; clear HB; have BK305 := n0_; have HB := n1_; clear n0_ n1_; (try clear hb); (try clear hb2); (try clear hk); (try clear hi); have hcz26_0 : w25.cell? ⟨gb305, 0, none⟩ = some (.int .u64 a1_0) := (blk_cell BK305.out 0).trans rfl; have hcz26_1 : w25.cell? ⟨gb305, 1, none⟩ = some (.int .u64 a1_1) := (blk_cell BK305.out 1).trans rfl; have hfz26_0 := blk_frozen BK305.out 0; have hfz26_1 := blk_frozen BK305.out 1) | ((with_reducible refine gate_callee (f := 76) rfl ?_); refine goesL_ (some 27) rfl rfl Try.func76 (by kernel_rfl) rfl #[.int .i64 a0, .agg #[.int .u64 a1_0, .int .u64 a1_1]] rfl (by (try simp only [map_toArray, map_cons, map_nil]); first | done | rfl | (simp only [length_drop, length_take]; rfl)) ?_; (with_reducible refine (sub_depths.calls k a0 a1_0 a1_1 t307 t308 t309 t310 t311 _ A10.out).mono ?_); rintro e w27 ⟨rfl, hb⟩; refine ⟨_, rfl, ?_⟩; have n0_ := ak_ (blk_below (g := gb305) (o := .cells #[.int .u64 a1_0, .int .u64 a1_1] 34 (0, 0)) (by (with_reducible repeat (first | refine kn_ ?_ _ | refine kd_ ?_ | refine ka_ ?_ _)); exact BK305.out) hb); have n1_ := ak_ (below_step (by repeat (first | (with_reducible first | exact HB.out | apply ba_ | apply bn_ | apply bd_ | refine below_set ?_ GE305.out) | exact HB.out)) hb); clear BK305; clear HB; have BK305 := n0_; have HB := n1_; clear n0_ n1_; (try clear hb); (try clear hb2); (try clear hk); (try clear hi)))
     go_ret2
     exact ⟨by first | rfl | (simp <;> rfl) | (simp [*] <;> rfl), by repeat (first | (with_reducible first | exact HB.out | apply ba_ | apply bn_ | apply bd_ | refine below_set ?_ GE305.out) | exact HB.out)⟩
  ·rw [if_neg c4] at H
   have c4b0 : (t306 == 0) = false := beq_eq_false_iff_ne.mpr c4
   have c4b1 : (t306 != 0) = true := bne_iff_ne.mpr c4
   simp only [Option.some.injEq, Prod.mk.injEq] at H
   obtain ⟨rfl, rfl⟩ := H
   go_enter Try.func36, Try.ntmps36
   go_wp2_with (first | ((with_reducible refine gate_dst (N := 3) rfl ?_); refine box_event ?hg (N := 3) ?hd (cs := #[.int .u64 a1_0, .int .u64 a1_1]) (t := 34) ?hr ?_; (case hd => rfl); (case hg => rfl); (case hr => first | (go_simp; done) | (go_simp; rfl)); intro gb305 hg w28 hbox hb; have n0_ := ak_ (below_step (by repeat (first | (with_reducible first | exact HB.out | apply ba_ | apply bn_ | apply bd_) | exact HB.out)) hb); have n1_ := ak_ (hbox); have n2_ := ak_ ((by rw [hg]; exact (below_size (by repeat (first | (with_reducible first | exact HB.out | apply ba_ | apply bn_ | apply bd_) | exact HB.out))) : w.heap.size ≤ gb305)); have n3_ := ak_ ((by rw [hg]; exact (below_size (by repeat (first | (with_reducible first | exact HB.out | apply ba_ | apply bn_ | apply bd_) | exact HB.out))) : w.heap.size ≤ gb305)); clear HB; have HB := n0_; have BK305 := n1_; have GW305 := n2_; have GE305 := n3_; clear n0_ n1_ n2_ n3_; clear hb hbox hg; have hcz29_0 : w28.cell? ⟨gb305, 0, none⟩ = some (.int .u64 a1_0) := (blk_cell BK305.out 0).trans rfl; have hcz29_1 : w28.cell? ⟨gb305, 1, none⟩ = some (.int .u64 a1_1) := (blk_cell BK305.out 1).trans rfl; have hfz29_0 := blk_frozen BK305.out 0; have hfz29_1 := blk_frozen BK305.out 1) | ((with_reducible refine gate_callee (f := 75) rfl ?_); refine goesL_ (some 14) rfl rfl Try.func75 (by kernel_rfl) rfl #[.int .i64 a0, .agg #[.int .u64 a1_0, .int .u64 a1_1]] rfl (by (try simp only [map_toArray, map_cons, map_nil]); first | done | rfl | (simp only [length_drop, length_take]; rfl)) ?_; (with_reducible refine (sub_Check.calls k a0 a1_0 a1_1 t306 _ A3.out).mono ?_); rintro e w30 ⟨rfl, hb⟩; refine ⟨_, rfl, ?_⟩; have n0_ := ak_ (blk_below (g := gb305) (o := .cells #[.int .u64 a1_0, .int .u64 a1_1] 34 (0, 0)) (by (with_reducible repeat (first | refine kn_ ?_ _ | refine kd_ ?_ | refine ka_ ?_ _)); exact BK305.out) hb); have n1_ := ak_ (below_step (by repeat (first | (with_reducible first | exact HB.out | apply ba_ | apply bn_ | apply bd_ | refine below_set ?_ GE305.out) | exact HB.out)) hb); clear BK305; clear HB; have BK305 := n0_; have HB := n1_; clear n0_ n1_; (try clear hb); (try clear hb2); (try clear hk); (try clear hi)))
   go_ret2
   exact ⟨by first | rfl | (simp <;> rfl) | (simp [*] <;> rfl), by repeat (first | (with_reducible first | exact HB.out | apply ba_ | apply bn_ | apply bd_ | refine below_set ?_ GE305.out) | exact HB.out)⟩

/-! ### node_Up: function 113 -/
def node_Up.f (k : Nat) (a0 : Int) (a1 : Int) (a2 : Int) : Option (Int × Int) := (node_Check.f k a0 a1).bind fun t312 => (if t312 = 0 then (if a2 < 0 then (some (0, 4)) else ((node_depth.f k a1).bind fun t313 => (if a2 > t313 then (some (0, 4)) else ((node_depth.f k a1).bind fun t314 => (if 0 ≤ (wrap64 (t314 - a2)) then (some (shr .u64 a1 (wrap64 (t314 - a2)), 0)) else (none)))))) else (some (0, t312)))
theorem node_Up.mono : ∀ a0 a1 a2 k, LeO (node_Up.f k a0 a1 a2) (node_Up.f (k + 1) a0 a1 a2) := by
  intro a0 a1 a2 k
  unfold node_Up.f
  repeat' first
    | (with_reducible exact node_Check.mono _ _ _)
    | (with_reducible exact node_depth.mono _ _)
    | (with_reducible exact LeO.refl _)
    | (with_reducible exact LeO.none _)
    | (with_reducible refine LeO.ite ?_ ?_)
    | (with_reducible refine LeO.bind ?_ (fun _ => ?_))
    | exact node_Check.mono _ _ _
    | exact node_depth.mono _ _
    | exact LeO.none _
    | refine LeO.ite ?_ ?_
    | refine LeO.bind ?_ (fun _ => ?_)
set_option maxHeartbeats 8000000 in
set_option maxRecDepth 100000 in
theorem node_Up.calls (k : Nat) (a0 : Int) (a1 : Int) (a2 : Int) (r1 : Int) (r2 : Int) (w : World) (h : node_Up.f k a0 a1 a2 = some (r1, r2)) :
   Calls Try.prog 113 #[.int .i64 a0, .int .u64 a1, .int .i64 a2] w fun e w' => e = .returned (.tuple #[.int .u64 r1, .int .i64 r2]) ∧ Drawn0 w w' := by
  have H : ((node_Check.f k a0 a1).bind fun t312 => (if t312 = 0 then (if a2 < 0 then (some (0, 4)) else ((node_depth.f k a1).bind fun t313 => (if a2 > t313 then (some (0, 4)) else ((node_depth.f k a1).bind fun t314 => (if 0 ≤ (wrap64 (t314 - a2)) then (some (shr .u64 a1 (wrap64 (t314 - a2)), 0)) else (none)))))) else (some (0, t312)))) = some (r1, r2) := h
  clear h
  replace H := Option.bind_eq_some_iff.mp H
  obtain ⟨t312, A40, H⟩ := H
  replace H : (if t312 = 0 then (if a2 < 0 then (some (0, 4)) else ((node_depth.f k a1).bind fun t313 => (if a2 > t313 then (some (0, 4)) else ((node_depth.f k a1).bind fun t314 => (if 0 ≤ (wrap64 (t314 - a2)) then (some (shr .u64 a1 (wrap64 (t314 - a2)), 0)) else (none)))))) else (some (0, t312))) = some (r1, r2) := H
  have A4 := ak_ A40
  clear A40
  by_cases c5 : t312 = 0
  ·rw [if_pos c5] at H
   have c5b0 : (t312 == 0) = true := beq_iff_eq.mpr c5
   have c5b1 : (t312 != 0) = false := bne_eq_false_iff_eq.mpr c5
   clear c5
   by_cases c6 : a2 < 0
   ·rw [if_pos c6] at H
    have c6b0 : decide (a2 < 0) = true := decide_eq_true c6
    clear c6
    simp only [Option.some.injEq, Prod.mk.injEq] at H
    obtain ⟨rfl, rfl⟩ := H
    go_enter Try.func113, Try.ntmps113
    go_wp2_with (first | ((with_reducible refine gate_callee (f := 64) rfl ?_); refine goesL_ (some 11) rfl rfl Try.func64 (by kernel_rfl) rfl #[.int .i64 a0, .int .u64 a1] rfl (by (try simp only [map_toArray, map_cons, map_nil]); first | done | rfl | (simp only [length_drop, length_take]; rfl)) ?_; (with_reducible refine (node_Check.calls k a0 a1 t312 _ A4.out).mono ?_); rintro e w' ⟨rfl, ⟨nd, rfl⟩⟩; refine ⟨_, rfl, ?_⟩))
    go_ret2
    exact ⟨by first | rfl | (simp; done) | (simp [*]; done), by repeat (first | exact Drawn0.refl _ | apply Drawn0.step)⟩
   ·rw [if_neg c6] at H
    have c6b0 : decide (a2 < 0) = false := decide_eq_false c6
    clear c6
    replace H := Option.bind_eq_some_iff.mp H
    obtain ⟨t313, A70, H⟩ := H
    replace H : (if a2 > t313 then (some (0, 4)) else ((node_depth.f k a1).bind fun t314 => (if 0 ≤ (wrap64 (t314 - a2)) then (some (shr .u64 a1 (wrap64 (t314 - a2)), 0)) else (none)))) = some (r1, r2) := H
    have A7 := ak_ A70
    clear A70
    by_cases c8 : a2 > t313
    ·rw [if_pos c8] at H
     have c8b0 : decide (t313 < a2) = true := decide_eq_true c8
     clear c8
     simp only [Option.some.injEq, Prod.mk.injEq] at H
     obtain ⟨rfl, rfl⟩ := H
     go_enter Try.func113, Try.ntmps113
     go_wp2_with (first | ((with_reducible refine gate_callee (f := 64) rfl ?_); refine goesL_ (some 11) rfl rfl Try.func64 (by kernel_rfl) rfl #[.int .i64 a0, .int .u64 a1] rfl (by (try simp only [map_toArray, map_cons, map_nil]); first | done | rfl | (simp only [length_drop, length_take]; rfl)) ?_; (with_reducible refine (node_Check.calls k a0 a1 t312 _ A4.out).mono ?_); rintro e w' ⟨rfl, ⟨nd, rfl⟩⟩; refine ⟨_, rfl, ?_⟩) | (go_at_call 102; (with_reducible refine (node_depth.calls k a1 t313 _ A7.out).mono ?_); rintro e w' ⟨rfl, ⟨nd, rfl⟩⟩))
     go_ret2
     exact ⟨by first | rfl | (simp; done) | (simp [*]; done), by repeat (first | exact Drawn0.refl _ | apply Drawn0.step)⟩
    ·rw [if_neg c8] at H
     have c8b0 : decide (t313 < a2) = false := decide_eq_false c8
     clear c8
     replace H := Option.bind_eq_some_iff.mp H
     obtain ⟨t314, A90, H⟩ := H
     replace H : (if 0 ≤ (wrap64 (t314 - a2)) then (some (shr .u64 a1 (wrap64 (t314 - a2)), 0)) else (none)) = some (r1, r2) := H
     have A9 := ak_ A90
     clear A90
     obtain ⟨ji10, hji10⟩ : ∃ j_ : Int, (wrap64 (t314 - a2)) = j_ := ⟨_, rfl⟩
     replace H : (if 0 ≤ (ji10) then (some (shr .u64 a1 (ji10), 0)) else (none)) = some (r1, r2) := by first | (rw [hji10] at H; exact H) | (simp only [hji10] at H ⊢; exact H)
     (try rw [hji10] at A4)
     (try rw [hji10] at A7)
     (try rw [hji10] at A9)
     have hji10w : (IntKind.i64.wrap (t314 - a2)) = ji10 := (i64_w _).trans hji10
     by_cases c11 : 0 ≤ (ji10)
     ·rw [if_pos c11] at H
      have c11b0 := eq_true c11
      have c11b1 : decide (0 ≤ (ji10)) = true := decide_eq_true c11
      clear c11
      obtain ⟨ji12, hji12⟩ : ∃ j_ : Int, (shr .u64 a1 (ji10)) = j_ := ⟨_, rfl⟩
      replace H : (some (ji12, 0)) = some (r1, r2) := by first | (rw [hji12] at H; exact H) | (simp only [hji12] at H ⊢; exact H)
      (try rw [hji12] at A4)
      (try rw [hji12] at A7)
      (try rw [hji12] at A9)
      have hji12_ : (a1 / 2 ^ min (ji10).toNat 64) = ji12 := hji12
      have hji12z : (ji10) ≤ 64 → (a1 / 2 ^ (ji10).toNat) = ji12 := shr_small hji12
      simp only [Option.some.injEq, Prod.mk.injEq] at H
      obtain ⟨rfl, rfl⟩ := H
      go_enter Try.func113, Try.ntmps113
      go_wp2_with (first | ((with_reducible refine gate_callee (f := 64) rfl ?_); refine goesL_ (some 11) rfl rfl Try.func64 (by kernel_rfl) rfl #[.int .i64 a0, .int .u64 a1] rfl (by (try simp only [map_toArray, map_cons, map_nil]); first | done | rfl | (simp only [length_drop, length_take]; rfl)) ?_; (with_reducible refine (node_Check.calls k a0 a1 t312 _ A4.out).mono ?_); rintro e w' ⟨rfl, ⟨nd, rfl⟩⟩; refine ⟨_, rfl, ?_⟩) | (go_at_call 102; (with_reducible refine (node_depth.calls k a1 t313 _ A7.out).mono ?_); rintro e w' ⟨rfl, ⟨nd, rfl⟩⟩) | ((with_reducible refine gate_callee (f := 102) rfl ?_); refine goesL_ (some 25) rfl rfl Try.func102 (by kernel_rfl) rfl #[.int .u64 a1] rfl (by (try simp only [map_toArray, map_cons, map_nil]); first | done | rfl | (simp only [length_drop, length_take]; rfl)) ?_; (with_reducible refine (node_depth.calls k a1 t314 _ A9.out).mono ?_); rintro e w' ⟨rfl, ⟨nd, rfl⟩⟩; refine ⟨_, rfl, ?_⟩))
      go_ret2
      exact ⟨by first | rfl | (simp; done) | (simp only [← hji10, ← hji12] <;> (first | rfl | simp)) | (simp [*]; done), by repeat (first | exact Drawn0.refl _ | apply Drawn0.step)⟩
     ·rw [if_neg c11] at H
      exact absurd H (by simp)
  ·rw [if_neg c5] at H
   have c5b0 : (t312 == 0) = false := beq_eq_false_iff_ne.mpr c5
   have c5b1 : (t312 != 0) = true := bne_iff_ne.mpr c5
   simp only [Option.some.injEq, Prod.mk.injEq] at H
   obtain ⟨rfl, rfl⟩ := H
   go_enter Try.func113, Try.ntmps113
   go_wp2_with (first | ((with_reducible refine gate_callee (f := 64) rfl ?_); refine goesL_ (some 11) rfl rfl Try.func64 (by kernel_rfl) rfl #[.int .i64 a0, .int .u64 a1] rfl (by (try simp only [map_toArray, map_cons, map_nil]); first | done | rfl | (simp only [length_drop, length_take]; rfl)) ?_; (with_reducible refine (node_Check.calls k a0 a1 t312 _ A4.out).mono ?_); rintro e w' ⟨rfl, ⟨nd, rfl⟩⟩; refine ⟨_, rfl, ?_⟩))
   go_ret2
   exact ⟨by first | rfl | (simp; done) | (simp [*]; done), by repeat (first | exact Drawn0.refl _ | apply Drawn0.step)⟩

/-! ### sub_Split: function 74 -/
def sub_Split.f (k : Nat) (a0 : Int) (a1_0 : Int) (a1_1 : Int) : Option ((List (S34)) × Int) := (sub_Useful.f k a0 a1_0 a1_1).bind fun bt316 => (if bt316.2 = 0 then (if bt316.1 = true then (some ((([(⟨a1_0, a1_1⟩ : S34)] : List (S34))), 0)) else (if a1_1 = 0 then (some ((([(⟨a1_0, a1_1⟩ : S34)] : List (S34))), 0)) else ((sub_depths.f k a0 a1_0 a1_1).bind fun bt324 => (if bt324.2.2.2.2 = 0 then ((node_Up.f k a0 a1_1 bt324.2.2.1).bind fun bt329 => (some ((([(⟨a1_0, bt329.1⟩ : S34), (⟨bt329.1, a1_1⟩ : S34)] : List (S34))), bt329.2))) else (some (([] : List (S34)), bt324.2.2.2.2)))))) else (some (([] : List (S34)), bt316.2)))
theorem sub_Split.mono : ∀ a0 a1 a2 k, LeO (sub_Split.f k a0 a1 a2) (sub_Split.f (k + 1) a0 a1 a2) := by
  intro a0 a1 a2 k
  unfold sub_Split.f
  repeat' first
    | (with_reducible exact node_Up.mono _ _ _ _)
    | (with_reducible exact sub_Useful.mono _ _ _ _)
    | (with_reducible exact sub_depths.mono _ _ _ _)
    | (with_reducible exact LeO.refl _)
    | (with_reducible exact LeO.none _)
    | (with_reducible refine LeO.ite ?_ ?_)
    | (with_reducible refine LeO.bind ?_ (fun _ => ?_))
    | exact node_Up.mono _ _ _ _
    | exact sub_Useful.mono _ _ _ _
    | exact sub_depths.mono _ _ _ _
    | exact LeO.none _
    | refine LeO.ite ?_ ?_
    | refine LeO.bind ?_ (fun _ => ?_)
set_option maxHeartbeats 8000000 in
set_option maxRecDepth 100000 in
theorem sub_Split.calls (k : Nat) (a0 : Int) (a1_0 : Int) (a1_1 : Int) (r1 : List (S34)) (r2 : Int) (w : World) (h : sub_Split.f k a0 a1_0 a1_1 = some (r1, r2)) :
   Calls Try.prog 74 #[.int .i64 a0, .agg #[.int .u64 a1_0, .int .u64 a1_1]] w fun e w' => ∃ v0_ : Value, e = .returned (.tuple #[v0_, .int .i64 r2]) ∧ Kd.R k34 34 w' w.heap.size (fun _ => True) v0_ r1 ∧ Below w.heap.size w w' := by
  have hu34 := Try.underlying34
  have HB := ak_ (Below.refl w.heap.size w)
  have H : ((sub_Useful.f k a0 a1_0 a1_1).bind fun bt316 => (if bt316.2 = 0 then (if bt316.1 = true then (some ((([(⟨a1_0, a1_1⟩ : S34)] : List (S34))), 0)) else (if a1_1 = 0 then (some ((([(⟨a1_0, a1_1⟩ : S34)] : List (S34))), 0)) else ((sub_depths.f k a0 a1_0 a1_1).bind fun bt324 => (if bt324.2.2.2.2 = 0 then ((node_Up.f k a0 a1_1 bt324.2.2.1).bind fun bt329 => (some ((([(⟨a1_0, bt329.1⟩ : S34), (⟨bt329.1, a1_1⟩ : S34)] : List (S34))), bt329.2))) else (some (([] : List (S34)), bt324.2.2.2.2)))))) else (some (([] : List (S34)), bt316.2)))) = some (r1, r2) := h
  clear h
  replace H := Option.bind_eq_some_iff.mp H
  obtain ⟨⟨t316, t317⟩, A30, H⟩ := H
  replace H : (if t317 = 0 then (if t316 = true then (some ((([(⟨a1_0, a1_1⟩ : S34)] : List (S34))), 0)) else (if a1_1 = 0 then (some ((([(⟨a1_0, a1_1⟩ : S34)] : List (S34))), 0)) else ((sub_depths.f k a0 a1_0 a1_1).bind fun bt324 => (if bt324.2.2.2.2 = 0 then ((node_Up.f k a0 a1_1 bt324.2.2.1).bind fun bt329 => (some ((([(⟨a1_0, bt329.1⟩ : S34), (⟨bt329.1, a1_1⟩ : S34)] : List (S34))), bt329.2))) else (some (([] : List (S34)), bt324.2.2.2.2)))))) else (some (([] : List (S34)), t317))) = some (r1, r2) := H
  have A3 := ak_ A30
  clear A30
  by_cases c4 : t317 = 0
  ·rw [if_pos c4] at H
   have c4b0 : (t317 == 0) = true := beq_iff_eq.mpr c4
   have c4b1 : (t317 != 0) = false := bne_eq_false_iff_eq.mpr c4
   clear c4
   by_cases c5 : t316 = true
   ·subst c5
    have H1 : (some ((([(⟨a1_0, a1_1⟩ : S34)] : List (S34))), 0)) = some (r1, r2) := by rw [if_pos rfl] at H; exact H
    clear H
    have H := H1
    clear H1
    obtain ⟨y318, hy318⟩ : ∃ y_ : List (S34), y_ = (([(⟨a1_0, a1_1⟩ : S34)] : List (S34))) := ⟨_, rfl⟩
    replace H : (some (y318, 0)) = some (r1, r2) := by first | (rw [hy318]; with_reducible exact H) | (have H2_ := (Option.bind_some _ _).symm.trans H; rw [hy318]; with_reducible exact H2_) | (have H2_ := (Option.bind_some _ _).symm.trans H; with_reducible exact H2_) | with_reducible exact H | (rw [hy318]; exact H) | exact H
    have Ny318 := ak_ hy318
    clear hy318
    simp only [Option.some.injEq, Prod.mk.injEq] at H
    obtain ⟨rfl, rfl⟩ := H
    go_enter Try.func74, Try.ntmps74
    go_wp2_with (first | ((with_reducible refine gate_dst (N := 3) rfl ?_); refine box_event ?hg (N := 3) ?hd (cs := #[.int .u64 a1_0, .int .u64 a1_1]) (t := 34) ?hr ?_; (case hd => rfl); (case hg => rfl); (case hr => first | (go_simp; done) | (go_simp; rfl)); intro gb315 hg w6 hbox hb; have n0_ := ak_ (below_step (by repeat (first | (with_reducible first | exact HB.out | apply ba_ | apply bn_ | apply bd_) | exact HB.out)) hb); have n1_ := ak_ (hbox); have n2_ := ak_ ((by rw [hg]; exact (below_size (by repeat (first | (with_reducible first | exact HB.out | apply ba_ | apply bn_ | apply bd_) | exact HB.out))) : w.heap.size ≤ gb315)); have n3_ := ak_ ((by rw [hg]; exact (below_size (by repeat (first | (with_reducible first | exact HB.out | apply ba_ | apply bn_ | apply bd_) | exact HB.out))) : w.heap.size ≤ gb315)); clear HB; have HB := n0_; have BK315 := n1_; have GW315 := n2_; have GE315 := n3_; clear n0_ n1_ n2_ n3_; clear hb hbox hg; have hcz7_0 : w6.cell? ⟨gb315, 0, none⟩ = some (.int .u64 a1_0) := (blk_cell BK315.out 0).trans rfl; have hcz7_1 : w6.cell? ⟨gb315, 1, none⟩ = some (.int .u64 a1_1) := (blk_cell BK315.out 1).trans rfl; have hfz7_0 := blk_frozen BK315.out 0; have hfz7_1 := blk_frozen BK315.out 1) | ((with_reducible refine gate_callee (f := 36) rfl ?_); refine goesL_ (some 16) rfl rfl Try.func36 (by kernel_rfl) rfl #[.int .i64 a0, .agg #[.int .u64 a1_0, .int .u64 a1_1]] rfl (by (try simp only [map_toArray, map_cons, map_nil]); first | done | rfl | (simp only [length_drop, length_take]; rfl)) ?_; (with_reducible refine (sub_Useful.calls k a0 a1_0 a1_1 true t317 _ A3.out).mono ?_); rintro e w8 ⟨rfl, hb⟩; refine ⟨_, rfl, ?_⟩; have n0_ := ak_ (blk_below (g := gb315) (o := .cells #[.int .u64 a1_0, .int .u64 a1_1] 34 (0, 0)) (by (with_reducible repeat (first | refine kn_ ?_ _ | refine kd_ ?_ | refine ka_ ?_ _)); exact BK315.out) hb); have n1_ := ak_ (below_step (by repeat (first | (with_reducible first | exact HB.out | apply ba_ | apply bn_ | apply bd_ | refine below_set ?_ GE315.out) | exact HB.out)) hb); clear BK315; clear HB; have BK315 := n0_; have HB := n1_; clear n0_ n1_; (try clear hb); (try clear hb2); (try clear hk); (try clear hi); have hcz9_0 : w8.cell? ⟨gb315, 0, none⟩ = some (.int .u64 a1_0) := (blk_cell BK315.out 0).trans rfl; have hcz9_1 : w8.cell? ⟨gb315, 1, none⟩ = some (.int .u64 a1_1) := (blk_cell BK315.out 1).trans rfl; have hfz9_0 := blk_frozen BK315.out 0; have hfz9_1 := blk_frozen BK315.out 1) | ((with_reducible refine gate_dst (N := 31) rfl ?_); refine Kd.R_lit k34 _ 34 ?hg (N := 31) ?hd (xs := ([(⟨a1_0, a1_1⟩ : S34)] : List (S34))) (inner := [.int .u64 a1_0, .int .u64 a1_1]) (ok := fun _ => True) (okp := fun _ => True) ?hr ?hp (fun _ hk => hk) trivial (Below.refl _ _) (Nat.le_refl _) (by simp) ?_; (case hd => rfl); (case hg => rfl); (case hr => first | (go_simp; done) | (go_simp; rfl)); (case hp => exact (Reps.c2 (show Kd.M k34 _ _ _ (⟨a1_0, a1_1⟩ : S34) [.int .u64 a1_0, .int .u64 a1_1] from (k34_mkM _ _ _ (⟨a1_0, a1_1⟩ : S34) )) (Reps.none _ _))); intro v319 w10 ho11 hb hg_ hnew_; clear hg_ hnew_; (first | rw [← Ny318.out] at ho11 | (simp only [Int.reduceToNat] at ho11; rw [← Ny318.out] at ho11)); have n0_ := ak_ (Kd.R_lower (Kd.R_newB ho11 (g := gb315) (o := .cells #[.int .u64 a1_0, .int .u64 a1_1] 34 (0, 0)) (by (with_reducible repeat (first | refine kn_ ?_ _ | refine kd_ ?_ | refine ka_ ?_ _)); exact BK315.out)) (below_size (by repeat (first | (with_reducible first | exact HB.out | apply ba_ | apply bn_ | apply bd_ | refine below_set ?_ GE315.out) | exact HB.out)))); have n1_ := ak_ (blk_below (g := gb315) (o := .cells #[.int .u64 a1_0, .int .u64 a1_1] 34 (0, 0)) (by (with_reducible repeat (first | refine kn_ ?_ _ | refine kd_ ?_ | refine ka_ ?_ _)); exact BK315.out) hb); have n2_ := ak_ (below_step (by repeat (first | (with_reducible first | exact HB.out | apply ba_ | apply bn_ | apply bd_ | refine below_set ?_ GE315.out) | exact HB.out)) hb); clear BK315; clear HB; have HO320 := n0_; have BK315 := n1_; have HB := n2_; clear n0_ n1_ n2_; clear hb ho11))
    go_ret2
    exact ⟨_, by first | rfl | (simp <;> rfl) | (simp [*] <;> rfl), by (with_reducible repeat (first | apply Kd.R_alloc | apply Kd.R_drewN | apply Kd.R_drew)); exact Kd.R_mono HO320.out (fun _ hk => trivial), by repeat (first | (with_reducible first | exact HB.out | apply ba_ | apply bn_ | apply bd_ | refine below_set ?_ GE315.out) | exact HB.out)⟩
   ·replace c5 := Bool.eq_false_iff.mpr c5
    subst c5
    have H1 : (if a1_1 = 0 then (some ((([(⟨a1_0, a1_1⟩ : S34)] : List (S34))), 0)) else ((sub_depths.f k a0 a1_0 a1_1).bind fun bt324 => (if bt324.2.2.2.2 = 0 then ((node_Up.f k a0 a1_1 bt324.2.2.1).bind fun bt329 => (some ((([(⟨a1_0, bt329.1⟩ : S34), (⟨bt329.1, a1_1⟩ : S34)] : List (S34))), bt329.2))) else (some (([] : List (S34)), bt324.2.2.2.2))))) = some (r1, r2) := by rw [if_neg (show ¬ (false = true) by decide)] at H; exact H
    clear H
    have H := H1
    clear H1
    by_cases c12 : a1_1 = 0
    ·rw [if_pos c12] at H
     have c12b0 : (a1_1 == 0) = true := beq_iff_eq.mpr c12
     have c12b1 : (a1_1 != 0) = false := bne_eq_false_iff_eq.mpr c12
     clear c12
     obtain ⟨y321, hy321⟩ : ∃ y_ : List (S34), y_ = (([(⟨a1_0, a1_1⟩ : S34)] : List (S34))) := ⟨_, rfl⟩
     replace H : (some (y321, 0)) = some (r1, r2) := by first | (rw [hy321]; with_reducible exact H) | (have H2_ := (Option.bind_some _ _).symm.trans H; rw [hy321]; with_reducible exact H2_) | (have H2_ := (Option.bind_some _ _).symm.trans H; with_reducible exact H2_) | with_reducible exact H | (rw [hy321]; exact H) | exact H
     have Ny321 := ak_ hy321
     clear hy321
     simp only [Option.some.injEq, Prod.mk.injEq] at H
     obtain ⟨rfl, rfl⟩ := H
     go_enter Try.func74, Try.ntmps74
     go_wp2_with (first | ((with_reducible refine gate_dst (N := 3) rfl ?_); refine box_event ?hg (N := 3) ?hd (cs := #[.int .u64 a1_0, .int .u64 a1_1]) (t := 34) ?hr ?_; (case hd => rfl); (case hg => rfl); (case hr => first | (go_simp; done) | (go_simp; rfl)); intro gb315 hg w13 hbox hb; have n0_ := ak_ (below_step (by repeat (first | (with_reducible first | exact HB.out | apply ba_ | apply bn_ | apply bd_) | exact HB.out)) hb); have n1_ := ak_ (hbox); have n2_ := ak_ ((by rw [hg]; exact (below_size (by repeat (first | (with_reducible first | exact HB.out | apply ba_ | apply bn_ | apply bd_) | exact HB.out))) : w.heap.size ≤ gb315)); have n3_ := ak_ ((by rw [hg]; exact (below_size (by repeat (first | (with_reducible first | exact HB.out | apply ba_ | apply bn_ | apply bd_) | exact HB.out))) : w.heap.size ≤ gb315)); clear HB; have HB := n0_; have BK315 := n1_; have GW315 := n2_; have GE315 := n3_; clear n0_ n1_ n2_ n3_; clear hb hbox hg; have hcz14_0 : w13.cell? ⟨gb315, 0, none⟩ = some (.int .u64 a1_0) := (blk_cell BK315.out 0).trans rfl; have hcz14_1 : w13.cell? ⟨gb315, 1, none⟩ = some (.int .u64 a1_1) := (blk_cell BK315.out 1).trans rfl; have hfz14_0 := blk_frozen BK315.out 0; have hfz14_1 := blk_frozen BK315.out 1) | ((with_reducible refine gate_callee (f := 36) rfl ?_); refine goesL_ (some 16) rfl rfl Try.func36 (by kernel_rfl) rfl #[.int .i64 a0, .agg #[.int .u64 a1_0, .int .u64 a1_1]] rfl (by (try simp only [map_toArray, map_cons, map_nil]); first | done | rfl | (simp only [length_drop, length_take]; rfl)) ?_; (with_reducible refine (sub_Useful.calls k a0 a1_0 a1_1 false t317 _ A3.out).mono ?_); rintro e w15 ⟨rfl, hb⟩; refine ⟨_, rfl, ?_⟩; have n0_ := ak_ (blk_below (g := gb315) (o := .cells #[.int .u64 a1_0, .int .u64 a1_1] 34 (0, 0)) (by (with_reducible repeat (first | refine kn_ ?_ _ | refine kd_ ?_ | refine ka_ ?_ _)); exact BK315.out) hb); have n1_ := ak_ (below_step (by repeat (first | (with_reducible first | exact HB.out | apply ba_ | apply bn_ | apply bd_ | refine below_set ?_ GE315.out) | exact HB.out)) hb); clear BK315; clear HB; have BK315 := n0_; have HB := n1_; clear n0_ n1_; (try clear hb); (try clear hb2); (try clear hk); (try clear hi); have hcz16_0 : w15.cell? ⟨gb315, 0, none⟩ = some (.int .u64 a1_0) := (blk_cell BK315.out 0).trans rfl; have hcz16_1 : w15.cell? ⟨gb315, 1, none⟩ = some (.int .u64 a1_1) := (blk_cell BK315.out 1).trans rfl; have hfz16_0 := blk_frozen BK315.out 0; have hfz16_1 := blk_frozen BK315.out 1) | ((with_reducible refine gate_dst (N := 31) rfl ?_); refine Kd.R_lit k34 _ 34 ?hg (N := 31) ?hd (xs := ([(⟨a1_0, a1_1⟩ : S34)] : List (S34))) (inner := [.int .u64 a1_0, .int .u64 a1_1]) (ok := fun _ => True) (okp := fun _ => True) ?hr ?hp (fun _ hk => hk) trivial (Below.refl _ _) (Nat.le_refl _) (by simp) ?_; (case hd => rfl); (case hg => rfl); (case hr => first | (go_simp; done) | (go_simp; rfl)); (case hp => exact (Reps.c2 (show Kd.M k34 _ _ _ (⟨a1_0, a1_1⟩ : S34) [.int .u64 a1_0, .int .u64 a1_1] from (k34_mkM _ _ _ (⟨a1_0, a1_1⟩ : S34) )) (Reps.none _ _))); intro v322 w17 ho18 hb hg_ hnew_; clear hg_ hnew_; (first | rw [← Ny321.out] at ho18 | (simp only [Int.reduceToNat] at ho18; rw [← Ny321.out] at ho18)); have n0_ := ak_ (Kd.R_lower (Kd.R_newB ho18 (g := gb315) (o := .cells #[.int .u64 a1_0, .int .u64 a1_1] 34 (0, 0)) (by (with_reducible repeat (first | refine kn_ ?_ _ | refine kd_ ?_ | refine ka_ ?_ _)); exact BK315.out)) (below_size (by repeat (first | (with_reducible first | exact HB.out | apply ba_ | apply bn_ | apply bd_ | refine below_set ?_ GE315.out) | exact HB.out)))); have n1_ := ak_ (blk_below (g := gb315) (o := .cells #[.int .u64 a1_0, .int .u64 a1_1] 34 (0, 0)) (by (with_reducible repeat (first | refine kn_ ?_ _ | refine kd_ ?_ | refine ka_ ?_ _)); exact BK315.out) hb); have n2_ := ak_ (below_step (by repeat (first | (with_reducible first | exact HB.out | apply ba_ | apply bn_ | apply bd_ | refine below_set ?_ GE315.out) | exact HB.out)) hb); clear BK315; clear HB; have HO323 := n0_; have BK315 := n1_; have HB := n2_; clear n0_ n1_ n2_; clear hb ho18))
     go_ret2
     exact ⟨_, by first | rfl | (simp <;> rfl) | (simp [*] <;> rfl), by (with_reducible repeat (first | apply Kd.R_alloc | apply Kd.R_drewN | apply Kd.R_drew)); exact Kd.R_mono HO323.out (fun _ hk => trivial), by repeat (first | (with_reducible first | exact HB.out | apply ba_ | apply bn_ | apply bd_ | refine below_set ?_ GE315.out) | exact HB.out)⟩
    ·rw [if_neg c12] at H
     have c12b0 : (a1_1 == 0) = false := beq_eq_false_iff_ne.mpr c12
     have c12b1 : (a1_1 != 0) = true := bne_iff_ne.mpr c12
     replace H := Option.bind_eq_some_iff.mp H
     obtain ⟨⟨t324, t325, t326, t327, t328⟩, A190, H⟩ := H
     replace H : (if t328 = 0 then ((node_Up.f k a0 a1_1 t326).bind fun bt329 => (some ((([(⟨a1_0, bt329.1⟩ : S34), (⟨bt329.1, a1_1⟩ : S34)] : List (S34))), bt329.2))) else (some (([] : List (S34)), t328))) = some (r1, r2) := H
     have A19 := ak_ A190
     clear A190
     by_cases c20 : t328 = 0
     ·rw [if_pos c20] at H
      have c20b0 : (t328 == 0) = true := beq_iff_eq.mpr c20
      have c20b1 : (t328 != 0) = false := bne_eq_false_iff_eq.mpr c20
      clear c20
      replace H := Option.bind_eq_some_iff.mp H
      obtain ⟨⟨t329, t330⟩, A210, H⟩ := H
      replace H : (some ((([(⟨a1_0, t329⟩ : S34), (⟨t329, a1_1⟩ : S34)] : List (S34))), t330)) = some (r1, r2) := H
      have A21 := ak_ A210
      clear A210
      obtain ⟨y331, hy331⟩ : ∃ y_ : List (S34), y_ = (([(⟨a1_0, t329⟩ : S34), (⟨t329, a1_1⟩ : S34)] : List (S34))) := ⟨_, rfl⟩
      replace H : (some (y331, t330)) = some (r1, r2) := by first | (rw [hy331]; with_reducible exact H) | (have H2_ := (Option.bind_some _ _).symm.trans H; rw [hy331]; with_reducible exact H2_) | (have H2_ := (Option.bind_some _ _).symm.trans H; with_reducible exact H2_) | with_reducible exact H | (rw [hy331]; exact H) | exact H
      have Ny331 := ak_ hy331
      clear hy331
      simp only [Option.some.injEq, Prod.mk.injEq] at H
      obtain ⟨rfl, rfl⟩ := H
      go_enter Try.func74, Try.ntmps74
      go_wp2_with (first | ((with_reducible refine gate_dst (N := 3) rfl ?_); refine box_event ?hg (N := 3) ?hd (cs := #[.int .u64 a1_0, .int .u64 a1_1]) (t := 34) ?hr ?_; (case hd => rfl); (case hg => rfl); (case hr => first | (go_simp; done) | (go_simp; rfl)); intro gb315 hg w22 hbox hb; have n0_ := ak_ (below_step (by repeat (first | (with_reducible first | exact HB.out | apply ba_ | apply bn_ | apply bd_) | exact HB.out)) hb); have n1_ := ak_ (hbox); have n2_ := ak_ ((by rw [hg]; exact (below_size (by repeat (first | (with_reducible first | exact HB.out | apply ba_ | apply bn_ | apply bd_) | exact HB.out))) : w.heap.size ≤ gb315)); have n3_ := ak_ ((by rw [hg]; exact (below_size (by repeat (first | (with_reducible first | exact HB.out | apply ba_ | apply bn_ | apply bd_) | exact HB.out))) : w.heap.size ≤ gb315)); clear HB; have HB := n0_; have BK315 := n1_; have GW315 := n2_; have GE315 := n3_; clear n0_ n1_ n2_ n3_; clear hb hbox hg; have hcz23_0 : w22.cell? ⟨gb315, 0, none⟩ = some (.int .u64 a1_0) := (blk_cell BK315.out 0).trans rfl; have hcz23_1 : w22.cell? ⟨gb315, 1, none⟩ = some (.int .u64 a1_1) := (blk_cell BK315.out 1).trans rfl; have hfz23_0 := blk_frozen BK315.out 0; have hfz23_1 := blk_frozen BK315.out 1) | ((with_reducible refine gate_callee (f := 36) rfl ?_); refine goesL_ (some 16) rfl rfl Try.func36 (by kernel_rfl) rfl #[.int .i64 a0, .agg #[.int .u64 a1_0, .int .u64 a1_1]] rfl (by (try simp only [map_toArray, map_cons, map_nil]); first | done | rfl | (simp only [length_drop, length_take]; rfl)) ?_; (with_reducible refine (sub_Useful.calls k a0 a1_0 a1_1 false t317 _ A3.out).mono ?_); rintro e w24 ⟨rfl, hb⟩; refine ⟨_, rfl, ?_⟩; have n0_ := ak_ (blk_below (g := gb315) (o := .cells #[.int .u64 a1_0, .int .u64 a1_1] 34 (0, 0)) (by (with_reducible repeat (first | refine kn_ ?_ _ | refine kd_ ?_ | refine ka_ ?_ _)); exact BK315.out) hb); have n1_ := ak_ (below_step (by repeat (first | (with_reducible first | exact HB.out | apply ba_ | apply bn_ | apply bd_ | refine below_set ?_ GE315.out) | exact HB.out)) hb); clear BK315; clear HB; have BK315 := n0_; have HB := n1_; clear n0_ n1_; (try clear hb); (try clear hb2); (try clear hk); (try clear hi); have hcz25_0 : w24.cell? ⟨gb315, 0, none⟩ = some (.int .u64 a1_0) := (blk_cell BK315.out 0).trans rfl; have hcz25_1 : w24.cell? ⟨gb315, 1, none⟩ = some (.int .u64 a1_1) := (blk_cell BK315.out 1).trans rfl; have hfz25_0 := blk_frozen BK315.out 0; have hfz25_1 := blk_frozen BK315.out 1) | ((with_reducible refine gate_callee (f := 76) rfl ?_); refine goesL_ (some 35) rfl rfl Try.func76 (by kernel_rfl) rfl #[.int .i64 a0, .agg #[.int .u64 a1_0, .int .u64 a1_1]] rfl (by (try simp only [map_toArray, map_cons, map_nil]); first | done | rfl | (simp only [length_drop, length_take]; rfl)) ?_; (with_reducible refine (sub_depths.calls k a0 a1_0 a1_1 t324 t325 t326 t327 t328 _ A19.out).mono ?_); rintro e w26 ⟨rfl, hb⟩; refine ⟨_, rfl, ?_⟩; have n0_ := ak_ (blk_below (g := gb315) (o := .cells #[.int .u64 a1_0, .int .u64 a1_1] 34 (0, 0)) (by (with_reducible repeat (first | refine kn_ ?_ _ | refine kd_ ?_ | refine ka_ ?_ _)); exact BK315.out) hb); have n1_ := ak_ (below_step (by repeat (first | (with_reducible first | exact HB.out | apply ba_ | apply bn_ | apply bd_ | refine below_set ?_ GE315.out) | exact HB.out)) hb); clear BK315; clear HB; have BK315 := n0_; have HB := n1_; clear n0_ n1_; (try clear hb); (try clear hb2); (try clear hk); (try clear hi); have hcz27_0 : w26.cell? ⟨gb315, 0, none⟩ = some (.int .u64 a1_0) := (blk_cell BK315.out 0).trans rfl; have hcz27_1 : w26.cell? ⟨gb315, 1, none⟩ = some (.int .u64 a1_1) := (blk_cell BK315.out 1).trans rfl; have hfz27_0 := blk_frozen BK315.out 0; have hfz27_1 := blk_frozen BK315.out 1) | ((with_reducible refine gate_callee (f := 113) rfl ?_); refine goesL_ (some 49) rfl rfl Try.func113 (by kernel_rfl) rfl #[.int .i64 a0, .int .u64 a1_1, .int .i64 t326] rfl (by (try simp only [map_toArray, map_cons, map_nil]); first | done | rfl | (simp only [length_drop, length_take]; rfl)) ?_; (with_reducible refine (node_Up.calls k a0 a1_1 t326 t329 t330 _ A21.out).mono ?_); rintro e w' ⟨rfl, ⟨nd, rfl⟩⟩; refine ⟨_, rfl, ?_⟩) | ((with_reducible refine gate_dst (N := 60) rfl ?_); refine Kd.R_lit k34 _ 34 ?hg (N := 60) ?hd (xs := ([(⟨a1_0, t329⟩ : S34), (⟨t329, a1_1⟩ : S34)] : List (S34))) (inner := [.int .u64 a1_0, .int .u64 t329, .int .u64 t329, .int .u64 a1_1]) (ok := fun _ => True) (okp := fun _ => True) ?hr ?hp (fun _ hk => hk) trivial (Below.refl _ _) (Nat.le_refl _) (by simp) ?_; (case hd => rfl); (case hg => rfl); (case hr => first | (go_simp; done) | (go_simp; rfl)); (case hp => exact (Reps.c2 (show Kd.M k34 _ _ _ (⟨a1_0, t329⟩ : S34) [.int .u64 a1_0, .int .u64 t329] from (k34_mkM _ _ _ (⟨a1_0, t329⟩ : S34) )) (Reps.c2 (show Kd.M k34 _ _ _ (⟨t329, a1_1⟩ : S34) [.int .u64 t329, .int .u64 a1_1] from (k34_mkM _ _ _ (⟨t329, a1_1⟩ : S34) )) (Reps.none _ _)))); intro v332 w28 ho29 hb hg_ hnew_; clear hg_ hnew_; (first | rw [← Ny331.out] at ho29 | (simp only [Int.reduceToNat] at ho29; rw [← Ny331.out] at ho29)); have n0_ := ak_ (Kd.R_lower (Kd.R_newB ho29 (g := gb315) (o := .cells #[.int .u64 a1_0, .int .u64 a1_1] 34 (0, 0)) (by (with_reducible repeat (first | refine kn_ ?_ _ | refine kd_ ?_ | refine ka_ ?_ _)); exact BK315.out)) (below_size (by repeat (first | (with_reducible first | exact HB.out | apply ba_ | apply bn_ | apply bd_ | refine below_set ?_ GE315.out) | exact HB.out)))); have n1_ := ak_ (blk_below (g := gb315) (o := .cells #[.int .u64 a1_0, .int .u64 a1_1] 34 (0, 0)) (by (with_reducible repeat (first | refine kn_ ?_ _ | refine kd_ ?_ | refine ka_ ?_ _)); exact BK315.out) hb); have n2_ := ak_ (below_step (by repeat (first | (with_reducible first | exact HB.out | apply ba_ | apply bn_ | apply bd_ | refine below_set ?_ GE315.out) | exact HB.out)) hb); clear BK315; clear HB; have HO333 := n0_; have BK315 := n1_; have HB := n2_; clear n0_ n1_ n2_; clear hb ho29))
      go_ret2
      exact ⟨_, by first | rfl | (simp <;> rfl) | (simp [*] <;> rfl), by (with_reducible repeat (first | apply Kd.R_alloc | apply Kd.R_drewN | apply Kd.R_drew)); exact Kd.R_mono HO333.out (fun _ hk => trivial), by repeat (first | (with_reducible first | exact HB.out | apply ba_ | apply bn_ | apply bd_ | refine below_set ?_ GE315.out) | exact HB.out)⟩
     ·rw [if_neg c20] at H
      have c20b0 : (t328 == 0) = false := beq_eq_false_iff_ne.mpr c20
      have c20b1 : (t328 != 0) = true := bne_iff_ne.mpr c20
      simp only [Option.some.injEq, Prod.mk.injEq] at H
      obtain ⟨rfl, rfl⟩ := H
      go_enter Try.func74, Try.ntmps74
      go_wp2_with (first | ((with_reducible refine gate_dst (N := 3) rfl ?_); refine box_event ?hg (N := 3) ?hd (cs := #[.int .u64 a1_0, .int .u64 a1_1]) (t := 34) ?hr ?_; (case hd => rfl); (case hg => rfl); (case hr => first | (go_simp; done) | (go_simp; rfl)); intro gb315 hg w30 hbox hb; have n0_ := ak_ (below_step (by repeat (first | (with_reducible first | exact HB.out | apply ba_ | apply bn_ | apply bd_) | exact HB.out)) hb); have n1_ := ak_ (hbox); have n2_ := ak_ ((by rw [hg]; exact (below_size (by repeat (first | (with_reducible first | exact HB.out | apply ba_ | apply bn_ | apply bd_) | exact HB.out))) : w.heap.size ≤ gb315)); have n3_ := ak_ ((by rw [hg]; exact (below_size (by repeat (first | (with_reducible first | exact HB.out | apply ba_ | apply bn_ | apply bd_) | exact HB.out))) : w.heap.size ≤ gb315)); clear HB; have HB := n0_; have BK315 := n1_; have GW315 := n2_; have GE315 := n3_; clear n0_ n1_ n2_ n3_; clear hb hbox hg; have hcz31_0 : w30.cell? ⟨gb315, 0, none⟩ = some (.int .u64 a1_0) := (blk_cell BK315.out 0).trans rfl; have hcz31_1 : w30.cell? ⟨gb315, 1, none⟩ = some (.int .u64 a1_1) := (blk_cell BK315.out 1).trans rfl; have hfz31_0 := blk_frozen BK315.out 0; have hfz31_1 := blk_frozen BK315.out 1) | ((with_reducible refine gate_callee (f := 36) rfl ?_); refine goesL_ (some 16) rfl rfl Try.func36 (by kernel_rfl) rfl #[.int .i64 a0, .agg #[.int .u64 a1_0, .int .u64 a1_1]] rfl (by (try simp only [map_toArray, map_cons, map_nil]); first | done | rfl | (simp only [length_drop, length_take]; rfl)) ?_; (with_reducible refine (sub_Useful.calls k a0 a1_0 a1_1 false t317 _ A3.out).mono ?_); rintro e w32 ⟨rfl, hb⟩; refine ⟨_, rfl, ?_⟩; have n0_ := ak_ (blk_below (g := gb315) (o := .cells #[.int .u64 a1_0, .int .u64 a1_1] 34 (0, 0)) (by (with_reducible repeat (first | refine kn_ ?_ _ | refine kd_ ?_ | refine ka_ ?_ _)); exact BK315.out) hb); have n1_ := ak_ (below_step (by repeat (first | (with_reducible first | exact HB.out | apply ba_ | apply bn_ | apply bd_ | refine below_set ?_ GE315.out) | exact HB.out)) hb); clear BK315; clear HB; have BK315 := n0_; have HB := n1_; clear n0_ n1_; (try clear hb); (try clear hb2); (try clear hk); (try clear hi); have hcz33_0 : w32.cell? ⟨gb315, 0, none⟩ = some (.int .u64 a1_0) := (blk_cell BK315.out 0).trans rfl; have hcz33_1 : w32.cell? ⟨gb315, 1, none⟩ = some (.int .u64 a1_1) := (blk_cell BK315.out 1).trans rfl; have hfz33_0 := blk_frozen BK315.out 0; have hfz33_1 := blk_frozen BK315.out 1) | ((with_reducible refine gate_callee (f := 76) rfl ?_); refine goesL_ (some 35) rfl rfl Try.func76 (by kernel_rfl) rfl #[.int .i64 a0, .agg #[.int .u64 a1_0, .int .u64 a1_1]] rfl (by (try simp only [map_toArray, map_cons, map_nil]); first | done | rfl | (simp only [length_drop, length_take]; rfl)) ?_; (with_reducible refine (sub_depths.calls k a0 a1_0 a1_1 t324 t325 t326 t327 t328 _ A19.out).mono ?_); rintro e w34 ⟨rfl, hb⟩; refine ⟨_, rfl, ?_⟩; have n0_ := ak_ (blk_below (g := gb315) (o := .cells #[.int .u64 a1_0, .int .u64 a1_1] 34 (0, 0)) (by (with_reducible repeat (first | refine kn_ ?_ _ | refine kd_ ?_ | refine ka_ ?_ _)); exact BK315.out) hb); have n1_ := ak_ (below_step (by repeat (first | (with_reducible first | exact HB.out | apply ba_ | apply bn_ | apply bd_ | refine below_set ?_ GE315.out) | exact HB.out)) hb); clear BK315; clear HB; have BK315 := n0_; have HB := n1_; clear n0_ n1_; (try clear hb); (try clear hb2); (try clear hk); (try clear hi)))
      go_ret2
      exact ⟨_, by first | rfl | (simp <;> rfl) | (simp [*] <;> rfl), by first | exact Kd.R_nil _ _ _ _ _ | exact Kd.N_nil _ _ _ _ _ | exact Kd.V_nil _ _ _ _ _ | exact Kd.Q_nil _ _ _ _ _ | exact Kd.S_nil _ _ _ _ _, by repeat (first | (with_reducible first | exact HB.out | apply ba_ | apply bn_ | apply bd_ | refine below_set ?_ GE315.out) | exact HB.out)⟩
  ·rw [if_neg c4] at H
   have c4b0 : (t317 == 0) = false := beq_eq_false_iff_ne.mpr c4
   have c4b1 : (t317 != 0) = true := bne_iff_ne.mpr c4
   simp only [Option.some.injEq, Prod.mk.injEq] at H
   obtain ⟨rfl, rfl⟩ := H
   go_enter Try.func74, Try.ntmps74
   go_wp2_with (first | ((with_reducible refine gate_dst (N := 3) rfl ?_); refine box_event ?hg (N := 3) ?hd (cs := #[.int .u64 a1_0, .int .u64 a1_1]) (t := 34) ?hr ?_; (case hd => rfl); (case hg => rfl); (case hr => first | (go_simp; done) | (go_simp; rfl)); intro gb315 hg w35 hbox hb; have n0_ := ak_ (below_step (by repeat (first | (with_reducible first | exact HB.out | apply ba_ | apply bn_ | apply bd_) | exact HB.out)) hb); have n1_ := ak_ (hbox); have n2_ := ak_ ((by rw [hg]; exact (below_size (by repeat (first | (with_reducible first | exact HB.out | apply ba_ | apply bn_ | apply bd_) | exact HB.out))) : w.heap.size ≤ gb315)); have n3_ := ak_ ((by rw [hg]; exact (below_size (by repeat (first | (with_reducible first | exact HB.out | apply ba_ | apply bn_ | apply bd_) | exact HB.out))) : w.heap.size ≤ gb315)); clear HB; have HB := n0_; have BK315 := n1_; have GW315 := n2_; have GE315 := n3_; clear n0_ n1_ n2_ n3_; clear hb hbox hg; have hcz36_0 : w35.cell? ⟨gb315, 0, none⟩ = some (.int .u64 a1_0) := (blk_cell BK315.out 0).trans rfl; have hcz36_1 : w35.cell? ⟨gb315, 1, none⟩ = some (.int .u64 a1_1) := (blk_cell BK315.out 1).trans rfl; have hfz36_0 := blk_frozen BK315.out 0; have hfz36_1 := blk_frozen BK315.out 1) | ((with_reducible refine gate_callee (f := 36) rfl ?_); refine goesL_ (some 16) rfl rfl Try.func36 (by kernel_rfl) rfl #[.int .i64 a0, .agg #[.int .u64 a1_0, .int .u64 a1_1]] rfl (by (try simp only [map_toArray, map_cons, map_nil]); first | done | rfl | (simp only [length_drop, length_take]; rfl)) ?_; (with_reducible refine (sub_Useful.calls k a0 a1_0 a1_1 t316 t317 _ A3.out).mono ?_); rintro e w37 ⟨rfl, hb⟩; refine ⟨_, rfl, ?_⟩; have n0_ := ak_ (blk_below (g := gb315) (o := .cells #[.int .u64 a1_0, .int .u64 a1_1] 34 (0, 0)) (by (with_reducible repeat (first | refine kn_ ?_ _ | refine kd_ ?_ | refine ka_ ?_ _)); exact BK315.out) hb); have n1_ := ak_ (below_step (by repeat (first | (with_reducible first | exact HB.out | apply ba_ | apply bn_ | apply bd_ | refine below_set ?_ GE315.out) | exact HB.out)) hb); clear BK315; clear HB; have BK315 := n0_; have HB := n1_; clear n0_ n1_; (try clear hb); (try clear hb2); (try clear hk); (try clear hi)))
   go_ret2
   exact ⟨_, by first | rfl | (simp <;> rfl) | (simp [*] <;> rfl), by first | exact Kd.R_nil _ _ _ _ _ | exact Kd.N_nil _ _ _ _ _ | exact Kd.V_nil _ _ _ _ _ | exact Kd.Q_nil _ _ _ _ _ | exact Kd.S_nil _ _ _ _ _, by repeat (first | (with_reducible first | exact HB.out | apply ba_ | apply bn_ | apply bd_ | refine below_set ?_ GE315.out) | exact HB.out)⟩

/-! ### layer_Cover: function 35 -/
mutual
def layer_Cover.j0 : Nat → Int → List (S34) → Int → List (S34) → Bool → Option ((List (S34)) × Int)
  | 0, _, _, _, _, _ => none
  | k + 1, x0, x6, x7, x8, x37 => if x37 = true then (some (x8, x7)) else (layer_Cover.l0 k x0 x6 x8 (x8.length : Int) 0)
def layer_Cover.l0 : Nat → Int → List (S34) → List (S34) → Int → Int → Option ((List (S34)) × Int)
  | 0, _, _, _, _, _ => none
  | k + 1, x0, x6, x40, x41, x42 => if x42 < x41 then (if 0 ≤ x42 then (if x42 < (x40.length : Int) then ((sub_Split.f k x0 ((rd_T34 x40 x42).f0) ((rd_T34 x40 x42).f1)).bind fun bt345 => (if bt345.2 = 0 then (if x6.length + bt345.1.length < 8796093022208 then (layer_Cover.l0 k x0 (x6 ++ bt345.1) x40 x41 (wrap64 (x42 + 1))) else (none)) else (some (([] : List (S34)), bt345.2)))) else (none)) else (none)) else ((layer_Order.f k x6).bind fun t352 => (some (t352, 0)))
end
def layer_Cover.f (k : Nat) (a0 : Int) (a1 : Int) (l2 : List Int) : Option ((List (S34)) × Int) := (layer_check.f k a0 a1).bind fun t334 => (if t334 = 0 then (if a1 = 1 then ((whole_Cover.f k a0 l2).bind fun bt335 => (some (bt335.1, bt335.2))) else ((diff_Cover.f k a0 l2).bind fun bt339 => (if bt339.2 = 0 then (layer_Cover.j0 k a0 ([] : List (S34)) bt339.2 bt339.1 (a1 == 2)) else (layer_Cover.j0 k a0 ([] : List (S34)) bt339.2 bt339.1 true)))) else (some (([] : List (S34)), t334)))
theorem layer_Cover.mono_l : ∀ k, (∀ y0 y1 y2 y3 y4, LeO (layer_Cover.j0 k y0 y1 y2 y3 y4) (layer_Cover.j0 (k + 1) y0 y1 y2 y3 y4)) ∧ (∀ y0 y1 y2 y3 y4, LeO (layer_Cover.l0 k y0 y1 y2 y3 y4) (layer_Cover.l0 (k + 1) y0 y1 y2 y3 y4))
  | 0 => ⟨fun _ _ _ _ _ r h => by simp [layer_Cover.j0] at h, fun _ _ _ _ _ r h => by simp [layer_Cover.l0] at h⟩
  | k + 1 => by
   obtain ⟨ih0, ih1⟩ := layer_Cover.mono_l k
   refine ⟨?_, ?_⟩
   ·intro y0 y1 y2 y3 y4
    unfold layer_Cover.j0
    repeat' first
    | (with_reducible exact ih0 _ _ _ _ _)
    | (with_reducible exact ih1 _ _ _ _ _)
    | (with_reducible exact diff_Cover.mono _ _ _)
    | (with_reducible exact layer_Order.mono _ _)
    | (with_reducible exact layer_check.mono _ _ _)
    | (with_reducible exact sub_Split.mono _ _ _ _)
    | (with_reducible exact whole_Cover.mono _ _ _)
    | (with_reducible exact LeO.refl _)
    | (with_reducible exact LeO.none _)
    | (with_reducible refine LeO.ite ?_ ?_)
    | (with_reducible refine LeO.bind ?_ (fun _ => ?_))
    | exact ih0 _ _ _ _ _
    | exact ih1 _ _ _ _ _
    | exact diff_Cover.mono _ _ _
    | exact layer_Order.mono _ _
    | exact layer_check.mono _ _ _
    | exact sub_Split.mono _ _ _ _
    | exact whole_Cover.mono _ _ _
    | exact LeO.none _
    | refine LeO.ite ?_ ?_
    | refine LeO.bind ?_ (fun _ => ?_)
   ·intro y0 y1 y2 y3 y4
    unfold layer_Cover.l0
    repeat' first
    | (with_reducible exact ih0 _ _ _ _ _)
    | (with_reducible exact ih1 _ _ _ _ _)
    | (with_reducible exact diff_Cover.mono _ _ _)
    | (with_reducible exact layer_Order.mono _ _)
    | (with_reducible exact layer_check.mono _ _ _)
    | (with_reducible exact sub_Split.mono _ _ _ _)
    | (with_reducible exact whole_Cover.mono _ _ _)
    | (with_reducible exact LeO.refl _)
    | (with_reducible exact LeO.none _)
    | (with_reducible refine LeO.ite ?_ ?_)
    | (with_reducible refine LeO.bind ?_ (fun _ => ?_))
    | exact ih0 _ _ _ _ _
    | exact ih1 _ _ _ _ _
    | exact diff_Cover.mono _ _ _
    | exact layer_Order.mono _ _
    | exact layer_check.mono _ _ _
    | exact sub_Split.mono _ _ _ _
    | exact whole_Cover.mono _ _ _
    | exact LeO.none _
    | refine LeO.ite ?_ ?_
    | refine LeO.bind ?_ (fun _ => ?_)
theorem layer_Cover.mono : ∀ a0 a1 a2 k, LeO (layer_Cover.f k a0 a1 a2) (layer_Cover.f (k + 1) a0 a1 a2) := by
  intro a0 a1 a2 k
  obtain ⟨ih0, ih1⟩ := layer_Cover.mono_l k
  unfold layer_Cover.f
  repeat' first
    | (with_reducible exact ih0 _ _ _ _ _)
    | (with_reducible exact ih1 _ _ _ _ _)
    | (with_reducible exact diff_Cover.mono _ _ _)
    | (with_reducible exact layer_Order.mono _ _)
    | (with_reducible exact layer_check.mono _ _ _)
    | (with_reducible exact sub_Split.mono _ _ _ _)
    | (with_reducible exact whole_Cover.mono _ _ _)
    | (with_reducible exact LeO.refl _)
    | (with_reducible exact LeO.none _)
    | (with_reducible refine LeO.ite ?_ ?_)
    | (with_reducible refine LeO.bind ?_ (fun _ => ?_))
    | exact ih0 _ _ _ _ _
    | exact ih1 _ _ _ _ _
    | exact diff_Cover.mono _ _ _
    | exact layer_Order.mono _ _
    | exact layer_check.mono _ _ _
    | exact sub_Split.mono _ _ _ _
    | exact whole_Cover.mono _ _ _
    | exact LeO.none _
    | refine LeO.ite ?_ ?_
    | refine LeO.bind ?_ (fun _ => ?_)
set_option maxHeartbeats 8000000 in
set_option maxRecDepth 100000 in
theorem layer_Cover.calls (k : Nat) (a0 : Int) (a1 : Int) (A2 : Option Addr) (c2 : Nat) (l2 : List Int) (r1 : List (S34)) (r2 : Int) (w : World) (hr2 : Kd.C (Kd.int .u64) w A2 l2.length l2) (hc2 : l2.length ≤ c2) (h : layer_Cover.f k a0 a1 l2 = some (r1, r2)) :
   Calls Try.prog 35 #[.int .i64 a0, .int .i64 a1, .slice A2 l2.length c2] w fun e w' => ∃ v0_ : Value, e = .returned (.tuple #[v0_, .int .i64 r2]) ∧ Kd.R k34 34 w' w.heap.size (fun _ => True) v0_ r1 ∧ Below w.heap.size w w' := by
  have hu34 := Try.underlying34
  have HR2 := ak_ hr2
  have HC2 := ak_ hc2
  clear hr2 hc2
  have HB := ak_ (Below.refl w.heap.size w)
  have H : ((layer_check.f k a0 a1).bind fun t334 => (if t334 = 0 then (if a1 = 1 then ((whole_Cover.f k a0 l2).bind fun bt335 => (some (bt335.1, bt335.2))) else ((diff_Cover.f k a0 l2).bind fun bt339 => (if bt339.2 = 0 then (layer_Cover.j0 k a0 ([] : List (S34)) bt339.2 bt339.1 (a1 == 2)) else (layer_Cover.j0 k a0 ([] : List (S34)) bt339.2 bt339.1 true)))) else (some (([] : List (S34)), t334)))) = some (r1, r2) := h
  clear h
  replace H := Option.bind_eq_some_iff.mp H
  obtain ⟨t334, A40, H⟩ := H
  replace H : (if t334 = 0 then (if a1 = 1 then ((whole_Cover.f k a0 l2).bind fun bt335 => (some (bt335.1, bt335.2))) else ((diff_Cover.f k a0 l2).bind fun bt339 => (if bt339.2 = 0 then (layer_Cover.j0 k a0 ([] : List (S34)) bt339.2 bt339.1 (a1 == 2)) else (layer_Cover.j0 k a0 ([] : List (S34)) bt339.2 bt339.1 true)))) else (some (([] : List (S34)), t334))) = some (r1, r2) := H
  have A4 := ak_ A40
  clear A40
  by_cases c5 : t334 = 0
  ·rw [if_pos c5] at H
   have c5b0 : (t334 == 0) = true := beq_iff_eq.mpr c5
   have c5b1 : (t334 != 0) = false := bne_eq_false_iff_eq.mpr c5
   clear c5
   by_cases c6 : a1 = 1
   ·rw [if_pos c6] at H
    have c6b0 : (a1 == 1) = true := beq_iff_eq.mpr c6
    have c6b1 : (a1 != 1) = false := bne_eq_false_iff_eq.mpr c6
    clear c6
    replace H := Option.bind_eq_some_iff.mp H
    obtain ⟨⟨t335, t336⟩, A70, H⟩ := H
    replace H : (some (t335, t336)) = some (r1, r2) := H
    have A7 := ak_ A70
    clear A70
    simp only [Option.some.injEq, Prod.mk.injEq] at H
    obtain ⟨rfl, rfl⟩ := H
    go_enter Try.func35, Try.ntmps35
    go_wp2_with (first | ((with_reducible refine gate_callee (f := 73) rfl ?_); refine goesL_ (some 15) rfl rfl Try.func73 (by kernel_rfl) rfl #[.int .i64 a0, .int .i64 a1] rfl (by (try simp only [map_toArray, map_cons, map_nil]); first | done | rfl | (simp only [length_drop, length_take]; rfl)) ?_; (with_reducible refine (layer_check.calls k a0 a1 t334 _ A4.out).mono ?_); rintro e w' ⟨rfl, ⟨nd, rfl⟩⟩; refine ⟨_, rfl, ?_⟩) | ((with_reducible refine gate_callee (f := 29) rfl ?_); refine goesL_ (some 23) rfl rfl Try.func29 (by kernel_rfl) rfl #[.int .i64 a0, .slice A2 l2.length c2] rfl (by (try simp only [map_toArray, map_cons, map_nil]); first | done | rfl | (simp only [length_drop, length_take]; rfl)) ?_; (with_reducible refine (whole_Cover.calls k a0 _ _ l2 t335 t336 _ ?side1 ?side2 A7.out).mono ?_); (case side1 => repeat (first | exact HR2.out | (with_reducible refine Kd.C_alloc ?_ _) | (with_reducible refine Kd.C_drewN ?_ _) | (with_reducible refine Kd.C_drew ?_))); (case side2 => exact HC2.out); rintro e w8 ⟨v337, rfl, ho0, hb⟩; refine ⟨_, rfl, ?_⟩; have n0_ := ak_ (Kd.R_lower ho0 (below_size (by repeat (first | (with_reducible first | exact HB.out | apply ba_ | apply bn_ | apply bd_) | exact HB.out)))); have n1_ := ak_ (below_step (by repeat (first | (with_reducible first | exact HB.out | apply ba_ | apply bn_ | apply bd_) | exact HB.out)) hb); clear HB; have HO338 := n0_; have HB := n1_; clear n0_ n1_; (try clear hb); (try clear hb2); (try clear hk); (try clear hi); (try clear ho0)))
    go_ret2
    exact ⟨_, by first | rfl | (simp <;> rfl) | (simp [*] <;> rfl), by (with_reducible repeat (first | apply Kd.R_alloc | apply Kd.R_drewN | apply Kd.R_drew)); exact HO338.out, by repeat (first | (with_reducible first | exact HB.out | apply ba_ | apply bn_ | apply bd_) | exact HB.out)⟩
   ·rw [if_neg c6] at H
    have c6b0 : (a1 == 1) = false := beq_eq_false_iff_ne.mpr c6
    have c6b1 : (a1 != 1) = true := bne_iff_ne.mpr c6
    replace H := Option.bind_eq_some_iff.mp H
    obtain ⟨⟨t339, t340⟩, A90, H⟩ := H
    replace H : (if t340 = 0 then (layer_Cover.j0 k a0 ([] : List (S34)) t340 t339 (a1 == 2)) else (layer_Cover.j0 k a0 ([] : List (S34)) t340 t339 true)) = some (r1, r2) := H
    have A9 := ak_ A90
    clear A90
    have HC10 := ak_ H
    clear H
    go_enter Try.func35, Try.ntmps35
    go_upto_region 7 with (first | ((with_reducible refine gate_callee (f := 73) rfl ?_); refine goesL_ (some 15) rfl rfl Try.func73 (by kernel_rfl) rfl #[.int .i64 a0, .int .i64 a1] rfl (by (try simp only [map_toArray, map_cons, map_nil]); first | done | rfl | (simp only [length_drop, length_take]; rfl)) ?_; (with_reducible refine (layer_check.calls k a0 a1 t334 _ A4.out).mono ?_); rintro e w' ⟨rfl, ⟨nd, rfl⟩⟩; refine ⟨_, rfl, ?_⟩) | ((with_reducible refine gate_callee (f := 15) rfl ?_); refine goesL_ (some 29) rfl rfl Try.func15 (by kernel_rfl) rfl #[.int .i64 a0, .slice A2 l2.length c2] rfl (by (try simp only [map_toArray, map_cons, map_nil]); first | done | rfl | (simp only [length_drop, length_take]; rfl)) ?_; (with_reducible refine (diff_Cover.calls k a0 _ _ l2 t339 t340 _ ?side1 ?side2 A9.out).mono ?_); (case side1 => repeat (first | exact HR2.out | (with_reducible refine Kd.C_alloc ?_ _) | (with_reducible refine Kd.C_drewN ?_ _) | (with_reducible refine Kd.C_drew ?_))); (case side2 => exact HC2.out); rintro e w11 ⟨v341, rfl, ho0, hb⟩; refine ⟨_, rfl, ?_⟩; have n0_ := ak_ (Kd.R_lower ho0 (below_size (by repeat (first | (with_reducible first | exact HB.out | apply ba_ | apply bn_ | apply bd_) | exact HB.out)))); have n1_ := ak_ (below_step (by repeat (first | (with_reducible first | exact HB.out | apply ba_ | apply bn_ | apply bd_) | exact HB.out)) hb); clear HB; have HO342 := n0_; have HB := n1_; clear n0_ n1_; (try clear hb); (try clear hb2); (try clear hk); (try clear hi); (try clear ho0)))
    (try simp only [Act.put, setIfInBounds_toArray, set_cons_zero, set_cons_succ])
    go_cut [37] (fun v37 wc => ∃ (kq : Nat) (x37_9 : Bool), v37 = .bool x37_9 ∧ Aside0 (layer_Cover.j0 kq a0 ([] : List (S34)) t340 t339 x37_9 = some (r1, r2)) ∧ Aside0 (kq ≤ k) ∧ Aside0 (Kd.R k34 34 wc w.heap.size (fun k_ => some k_ ≠ (v341 : Value).ownBlock) (.slice none 0 0) ([] : List (S34))) ∧ Aside0 (Kd.R k34 34 wc w.heap.size (fun k_ => some k_ ≠ ((.slice none 0 0) : Value).ownBlock) v341 t339) ∧ Aside0 (Below w.heap.size w wc))
    case first =>
     have H := HC10.out
     clear HC10
     by_cases c12 : t340 = 0
     ·rw [if_pos c12] at H
      have c12b0 : (t340 == 0) = true := beq_iff_eq.mpr c12
      have c12b1 : (t340 != 0) = false := bne_eq_false_iff_eq.mpr c12
      clear c12
      (first | rw [c12b0] | (simp only [i64_w, i32_w]; rw [c12b0]) | skip)
      have H' := ak_ H
      clear H
      go_wp2
      go_meet
      case rel => exact ⟨_, ((a1 == 2)), (by first | rfl | (simp; done) | (simp [*]; done)), H', ⟨by first | omega | exact Nat.le_refl _⟩, ⟨by first | exact Kd.R_nil _ _ _ _ _ | exact Kd.N_nil _ _ _ _ _ | exact Kd.V_nil _ _ _ _ _ | exact Kd.Q_nil _ _ _ _ _ | exact Kd.S_nil _ _ _ _ _⟩, ⟨by (with_reducible repeat (first | apply Kd.R_alloc | apply Kd.R_drewN | apply Kd.R_drew)); exact Kd.R_mono HO342.out (fun _ hk => (by simp [Value.ownBlock]))⟩, ⟨by repeat (first | (with_reducible first | exact HB.out | apply ba_ | apply bn_ | apply bd_) | exact HB.out)⟩⟩
     ·rw [if_neg c12] at H
      have c12b0 : (t340 == 0) = false := beq_eq_false_iff_ne.mpr c12
      have c12b1 : (t340 != 0) = true := bne_iff_ne.mpr c12
      (first | rw [c12b0] | (simp only [i64_w, i32_w]; rw [c12b0]) | skip)
      have H' := ak_ H
      clear H
      go_wp2
      go_meet
      case rel => exact ⟨_, (true), (by first | rfl | (simp; done) | (simp [*]; done)), H', ⟨by first | omega | exact Nat.le_refl _⟩, ⟨by first | exact Kd.R_nil _ _ _ _ _ | exact Kd.N_nil _ _ _ _ _ | exact Kd.V_nil _ _ _ _ _ | exact Kd.Q_nil _ _ _ _ _ | exact Kd.S_nil _ _ _ _ _⟩, ⟨by (with_reducible repeat (first | apply Kd.R_alloc | apply Kd.R_drewN | apply Kd.R_drew)); exact Kd.R_mono HO342.out (fun _ hk => (by simp [Value.ownBlock]))⟩, ⟨by repeat (first | (with_reducible first | exact HB.out | apply ba_ | apply bn_ | apply bd_) | exact HB.out)⟩⟩
    case rest =>
     clear HC10
     try clear c1
     try clear c2
     try clear p2
     try clear c3
     try clear c5
     try clear c5b0
     try clear c5b1
     try clear c6
     try clear c6b0
     try clear c6b1
     try clear c7
     try clear c12
     try clear c12b0
     try clear c12b1
     obtain ⟨kq, x37_9, rfl, HA, HJ9, HO_6, HO_8, HB⟩ := hcut
     cases kq with
     | zero => exact absurd HA.out (by simp [layer_Cover.j0])
     | succ kj9 =>
      have H := HA.out
      clear HA
      simp only [layer_Cover.j0] at H
      by_cases c13 : x37_9 = true
      ·subst c13
       have H1 : (some (t339, t340)) = some (r1, r2) := by rw [if_pos rfl] at H; exact H
       clear H
       have H := H1
       clear H1
       simp only [Option.some.injEq, Prod.mk.injEq] at H
       obtain ⟨rfl, rfl⟩ := H
       go_wp2
       go_ret2
       exact ⟨_, by first | rfl | (simp <;> rfl) | (simp [*] <;> rfl), by (with_reducible repeat (first | apply Kd.R_alloc | apply Kd.R_drewN | apply Kd.R_drew)); exact Kd.R_mono HO_8.out (fun _ hk => trivial), by repeat (first | (with_reducible first | exact HB.out | apply ba_ | apply bn_ | apply bd_) | exact HB.out)⟩
      ·replace c13 := Bool.eq_false_iff.mpr c13
       subst c13
       have H1 : (layer_Cover.l0 kj9 a0 ([] : List (S34)) t339 (t339.length : Int) 0) = some (r1, r2) := by rw [if_neg (show ¬ (false = true) by decide)] at H; exact H
       clear H
       have H := H1
       clear H1
       have H' := ak_ H
       clear H
       obtain ⟨Ao14, co14, eo14⟩ := Kd.R_slice HO_8.out
       subst eo14
       go_wp2
       go_loopg [6, 42] kj9 (fun kq v6 v42 w' => ∃ (x6_2 : List (S34)) (x42_2 : Int), v42 = .int .i64 x42_2 ∧ Aside0 (layer_Cover.l0 kq a0 x6_2 t339 (t339.length : Int) x42_2 = some (r1, r2)) ∧ Aside0 (kq ≤ kj9) ∧ Aside0 (Kd.R k34 34 w' w.heap.size (fun k_ => some k_ ≠ ((.slice Ao14 t339.length co14) : Value).ownBlock) v6 x6_2) ∧ Aside0 (Kd.R k34 34 w' w.heap.size (fun k_ => some k_ ≠ (v6 : Value).ownBlock) (.slice Ao14 t339.length co14) t339) ∧ Aside0 (Below w.heap.size w w'))
       case atStart => exact ⟨(([] : List (S34))), (0), (by first | rfl | (simp; done) | (simp [*]; done)), H', ⟨Nat.le_refl _⟩, ⟨by (with_reducible repeat (first | apply Kd.R_alloc | apply Kd.R_drewN | apply Kd.R_drew)); exact HO_6.out⟩, ⟨by (with_reducible repeat (first | apply Kd.R_alloc | apply Kd.R_drewN | apply Kd.R_drew)); exact HO_8.out⟩, ⟨by repeat (first | (with_reducible first | exact HB.out | apply ba_ | apply bn_ | apply bd_) | exact HB.out)⟩⟩
       case round =>
        clear H'
        try clear c1
        try clear c2
        try clear p2
        try clear c3
        try clear c5
        try clear c5b0
        try clear c5b1
        try clear c6
        try clear c6b0
        try clear c6b1
        try clear c7
        try clear c12
        try clear c12b0
        try clear c12b1
        try clear c13
        try clear p2
        obtain ⟨x6_2, x42_2, rfl, HA, HK2, HO_6, HO_40, HB⟩ := hrel
        cases gk with
        | zero => exact absurd HA.out (by simp [layer_Cover.l0])
        | succ k2 =>
         have H := HA.out
         clear HA
         simp only [layer_Cover.l0] at H
         by_cases c15 : x42_2 < (t339.length : Int)
         ·rw [if_pos c15] at H
          have c15b0 : decide (x42_2 < (t339.length : Int)) = true := decide_eq_true c15
          clear c15
          by_cases c16 : 0 ≤ x42_2
          ·rw [if_pos c16] at H
           have c16b0 : decide (0 ≤ x42_2) = true := decide_eq_true c16
           clear c16
           by_cases c17 : x42_2 < (t339.length : Int)
           ·rw [if_pos c17] at H
            have c17b0 : decide (x42_2 < (t339.length : Int)) = true := decide_eq_true c17
            clear c17
            replace H := Option.bind_eq_some_iff.mp H
            obtain ⟨⟨t345, t348⟩, A180, H⟩ := H
            replace H : (if t348 = 0 then (if x6_2.length + t345.length < 8796093022208 then (layer_Cover.l0 k2 a0 (x6_2 ++ t345) t339 (t339.length : Int) (wrap64 (x42_2 + 1))) else (none)) else (some (([] : List (S34)), t348))) = some (r1, r2) := H
            have A18 := ak_ A180
            clear A180
            by_cases c19 : t348 = 0
            ·rw [if_pos c19] at H
             have c19b0 : (t348 == 0) = true := beq_iff_eq.mpr c19
             have c19b1 : (t348 != 0) = false := bne_eq_false_iff_eq.mpr c19
             clear c19
             by_cases c20 : x6_2.length + t345.length < 8796093022208
             ·rw [if_pos c20] at H
              have LMc20 := ak_ c20
              clear c20
              obtain ⟨y349, hy349⟩ : ∃ y_ : List (S34), y_ = (x6_2 ++ t345) := ⟨_, rfl⟩
              replace H : (layer_Cover.l0 k2 a0 y349 t339 (t339.length : Int) (wrap64 (x42_2 + 1))) = some (r1, r2) := by first | (rw [hy349]; with_reducible exact H) | (have H2_ := (Option.bind_some _ _).symm.trans H; rw [hy349]; with_reducible exact H2_) | (have H2_ := (Option.bind_some _ _).symm.trans H; with_reducible exact H2_) | with_reducible exact H | (rw [hy349]; exact H) | exact H
              have Ny349 := ak_ hy349
              clear hy349
              have H' := ak_ H
              clear H
              have p343 : 0 ≤ (x42_2 : Int) := of_decide_eq_true (by first | (with_reducible assumption) | assumption)
              have q343 : x42_2 < (t339.length : Int) := of_decide_eq_true (by first | (with_reducible assumption) | assumption)
              obtain ⟨ad343, e343, hx343_0, hx343_1⟩ := at_T34 (Kd.R_reads' HO_40.out).2.2 x42_2 p343 q343
              cases e343
              replace p343 := eq_true p343
              replace q343 := eq_true q343
              go_wp2_with (first | ((with_reducible refine gate_dst (N := 10) rfl ?_); refine box_event ?hg (N := 10) ?hd (cs := #[.int .u64 0, .int .u64 0]) (t := 34) ?hr ?_; (case hd => rfl); (case hg => rfl); (case hr => first | (go_simp; done) | (go_simp; rfl)); intro gb344 hg w21 hbox hb; have n0_ := ak_ (Kd.R_below (Kd.R_elderB (by (with_reducible repeat (first | apply Kd.R_alloc | apply Kd.R_drewN | apply Kd.R_drew)); exact HO_6.out) gb344 (Nat.le_of_eq hg.symm)) hb); have n1_ := ak_ (Kd.R_below (Kd.R_elderB (by (with_reducible repeat (first | apply Kd.R_alloc | apply Kd.R_drewN | apply Kd.R_drew)); exact HO_40.out) gb344 (Nat.le_of_eq hg.symm)) hb); have n2_ := ak_ (below_step (by repeat (first | (with_reducible first | exact HB.out | apply ba_ | apply bn_ | apply bd_) | exact HB.out)) hb); have n3_ := ak_ (hbox); have n4_ := ak_ ((by rw [hg]; exact (below_size (by repeat (first | (with_reducible first | exact HB.out | apply ba_ | apply bn_ | apply bd_) | exact HB.out))) : w.heap.size ≤ gb344)); have n5_ := ak_ ((by rw [hg]; exact (below_size (by repeat (first | (with_reducible first | exact HB.out | apply ba_ | apply bn_ | apply bd_) | exact HB.out))) : w.heap.size ≤ gb344)); clear HO_6; clear HO_40; clear HB; have HO_6 := n0_; have HO_40 := n1_; have HB := n2_; have BK344 := n3_; have GW344 := n4_; have GE344 := n5_; clear n0_ n1_ n2_ n3_ n4_ n5_; clear hb hbox hg; have hcz22_0 : w21.cell? ⟨gb344, 0, none⟩ = some (.int .u64 0) := (blk_cell BK344.out 0).trans rfl; have hcz22_1 : w21.cell? ⟨gb344, 1, none⟩ = some (.int .u64 0) := (blk_cell BK344.out 1).trans rfl; have hfz22_0 := blk_frozen BK344.out 0; have hfz22_1 := blk_frozen BK344.out 1) | ((with_reducible refine gate_callee (f := 74) rfl ?_); refine goesL_ (some 49) rfl rfl Try.func74 (by kernel_rfl) rfl #[.int .i64 a0, .agg #[.int .u64 ((rd_T34 t339 x42_2).f0), .int .u64 ((rd_T34 t339 x42_2).f1)]] rfl (by (try simp only [map_toArray, map_cons, map_nil]); first | done | rfl | (simp only [length_drop, length_take]; rfl)) ?_; (with_reducible refine (sub_Split.calls k2 a0 ((rd_T34 t339 x42_2).f0) ((rd_T34 t339 x42_2).f1) t345 t348 _ A18.out).mono ?_); rintro e w23 ⟨v346, rfl, ho0, hb⟩; refine ⟨_, rfl, ?_⟩; have n0_ := ak_ (Kd.R_elder' (by (with_reducible repeat (first | apply Kd.R_alloc | apply Kd.R_drewN | apply Kd.R_drew)); exact (Kd.R_mono (Kd.R_far (p := ⟨gb344, 1, none⟩) (Kd.R_far (p := ⟨gb344, 0, none⟩) (Kd.R_mono HO_6.out (fun k_ hk => (⟨hk, hk.2⟩ : _ ∧ k_ ≠ gb344))) (fun _ hk => hk.2) (.int .u64 ((rd_T34 t339 x42_2).f0))) (fun _ hk => hk.2) (.int .u64 ((rd_T34 t339 x42_2).f1))) (fun _ h_ => h_.1))) (Kd.R_base ho0) hb); have n1_ := ak_ (Kd.R_elder' (by (with_reducible repeat (first | apply Kd.R_alloc | apply Kd.R_drewN | apply Kd.R_drew)); exact (Kd.R_mono (Kd.R_far (p := ⟨gb344, 1, none⟩) (Kd.R_far (p := ⟨gb344, 0, none⟩) (Kd.R_mono HO_40.out (fun k_ hk => (⟨hk, hk.2⟩ : _ ∧ k_ ≠ gb344))) (fun _ hk => hk.2) (.int .u64 ((rd_T34 t339 x42_2).f0))) (fun _ hk => hk.2) (.int .u64 ((rd_T34 t339 x42_2).f1))) (fun _ h_ => h_.1))) (Kd.R_base ho0) hb); have n2_ := ak_ (Kd.R_lower (Kd.R_newB (Kd.R_new' (Kd.R_new' ho0 (Kd.R_lt (by (with_reducible repeat (first | apply Kd.R_alloc | apply Kd.R_drewN | apply Kd.R_drew)); exact (Kd.R_mono (Kd.R_far (p := ⟨gb344, 1, none⟩) (Kd.R_far (p := ⟨gb344, 0, none⟩) (Kd.R_mono HO_6.out (fun k_ hk => (⟨hk, hk.2⟩ : _ ∧ k_ ≠ gb344))) (fun _ hk => hk.2) (.int .u64 ((rd_T34 t339 x42_2).f0))) (fun _ hk => hk.2) (.int .u64 ((rd_T34 t339 x42_2).f1))) (fun _ h_ => h_.1))))) (Kd.R_lt (by (with_reducible repeat (first | apply Kd.R_alloc | apply Kd.R_drewN | apply Kd.R_drew)); exact (Kd.R_mono (Kd.R_far (p := ⟨gb344, 1, none⟩) (Kd.R_far (p := ⟨gb344, 0, none⟩) (Kd.R_mono HO_40.out (fun k_ hk => (⟨hk, hk.2⟩ : _ ∧ k_ ≠ gb344))) (fun _ hk => hk.2) (.int .u64 ((rd_T34 t339 x42_2).f0))) (fun _ hk => hk.2) (.int .u64 ((rd_T34 t339 x42_2).f1))) (fun _ h_ => h_.1))))) (g := gb344) (o := .cells #[.int .u64 ((rd_T34 t339 x42_2).f0), .int .u64 ((rd_T34 t339 x42_2).f1)] 34 (0, 0)) (by (with_reducible repeat (first | refine kn_ ?_ _ | refine kd_ ?_ | refine ka_ ?_ _)); refine blk_put (cs := #[.int .u64 ((rd_T34 t339 x42_2).f0), .int .u64 0]) ?_ 1 _ rfl; (with_reducible repeat (first | refine kn_ ?_ _ | refine kd_ ?_ | refine ka_ ?_ _)); refine blk_put (cs := #[.int .u64 0, .int .u64 0]) ?_ 0 _ rfl; (with_reducible repeat (first | refine kn_ ?_ _ | refine kd_ ?_ | refine ka_ ?_ _)); exact BK344.out)) (below_size (by repeat (first | (with_reducible first | exact HB.out | apply ba_ | apply bn_ | apply bd_ | refine below_set ?_ GE344.out) | exact HB.out)))); have n3_ := ak_ (blk_below (g := gb344) (o := .cells #[.int .u64 ((rd_T34 t339 x42_2).f0), .int .u64 ((rd_T34 t339 x42_2).f1)] 34 (0, 0)) (by (with_reducible repeat (first | refine kn_ ?_ _ | refine kd_ ?_ | refine ka_ ?_ _)); refine blk_put (cs := #[.int .u64 ((rd_T34 t339 x42_2).f0), .int .u64 0]) ?_ 1 _ rfl; (with_reducible repeat (first | refine kn_ ?_ _ | refine kd_ ?_ | refine ka_ ?_ _)); refine blk_put (cs := #[.int .u64 0, .int .u64 0]) ?_ 0 _ rfl; (with_reducible repeat (first | refine kn_ ?_ _ | refine kd_ ?_ | refine ka_ ?_ _)); exact BK344.out) hb); have n4_ := ak_ (below_step (by repeat (first | (with_reducible first | exact HB.out | apply ba_ | apply bn_ | apply bd_ | refine below_set ?_ GE344.out) | exact HB.out)) hb); clear HO_6; clear HO_40; clear BK344; clear HB; have HO_6 := n0_; have HO_40 := n1_; have HO347 := n2_; have BK344 := n3_; have HB := n4_; clear n0_ n1_ n2_ n3_ n4_; (try clear hb); (try clear hb2); (try clear hk); (try clear hi); (try clear ho0); obtain ⟨Ao25, co25, eo25⟩ := Kd.R_slice HO347.out; subst eo25) | ((with_reducible refine gate_builtin (b := .append) (xs := #[.tmp 55, .tmp 56]) rfl ?_); at_builtin; refine Kd.R_append_rows k34 (w0 := w) w.heap.size rfl (.tmp 55) (.tmp 56) 24 34 (.agg #[(.int .u64 0), (.int .u64 0)]) 16 rfl Try.underlying24 info34 rfl (by decide) (by omega) u6 x6_2 t345 _ _ _ (fun k_ => some k_ ≠ (.slice (some ad343) t339.length co14 : Value).ownBlock ∧ some k_ ≠ (.slice Ao25 t345.length co25 : Value).ownBlock ∧ k_ ≠ gb344) (fun _ => False) rfl rfl ?aO ?aR (fun _ _ h => h) (fun _ h => h.elim) ?aF ?aB ?aS ?aL ?_; (case aR => repeat (first | exact (Kd.R_reads' HO347.out).2.2 | (with_reducible refine Kd.C_alloc ?_ _) | (with_reducible refine Kd.C_drewN ?_ _) | (with_reducible refine Kd.C_drew ?_))); (case aB => exact (by repeat (first | (with_reducible first | exact HB.out | apply ba_ | apply bn_ | apply bd_ | refine below_set ?_ GE344.out) | exact HB.out))); (case aF => exact (fun k_ hk => ⟨Kd.fresh' (Kd.R_lt (by (with_reducible repeat (first | apply Kd.R_alloc | apply Kd.R_drewN | apply Kd.R_drew)); exact HO_40.out)) k_ hk, Kd.fresh' (Kd.R_lt (by (with_reducible repeat (first | apply Kd.R_alloc | apply Kd.R_drewN | apply Kd.R_drew)); exact HO347.out)) k_ hk, Kd.freshB (g := gb344) (o := .cells #[.int .u64 ((rd_T34 t339 x42_2).f0), .int .u64 ((rd_T34 t339 x42_2).f1)] 34 (0, 0)) (by (with_reducible repeat (first | refine kn_ ?_ _ | refine kd_ ?_ | refine ka_ ?_ _)); exact BK344.out) k_ hk⟩)); (case aO => exact (by (with_reducible repeat (first | apply Kd.R_alloc | apply Kd.R_drewN | apply Kd.R_drew)); exact Kd.R_mono HO_6.out (fun _ hk => ⟨hk.1.1, ⟨hk.2, hk.1.2⟩⟩))); (case aS => exact (below_size (by repeat (first | (with_reducible first | exact HB.out | apply ba_ | apply bn_ | apply bd_ | refine below_set ?_ GE344.out) | exact HB.out)))); (case aL => have := LMc20.out; omega); intro v350 w24 ho hb hg hat; rw [← Ny349.out] at ho; have n0_ := ak_ (Kd.R_after (ok := (fun k_ => some k_ ≠ (.slice Ao25 t345.length co25 : Value).ownBlock ∧ k_ ≠ gb344)) (by (with_reducible repeat (first | apply Kd.R_alloc | apply Kd.R_drewN | apply Kd.R_drew)); exact Kd.R_mono HO_40.out (fun _ hk => ⟨⟨hk.2, hk.1.2⟩, hk.1.1⟩)) hg hat); have n1_ := ak_ (blk_grown (g := gb344) (o := .cells #[.int .u64 ((rd_T34 t339 x42_2).f0), .int .u64 ((rd_T34 t339 x42_2).f1)] 34 (0, 0)) (by (with_reducible repeat (first | refine kn_ ?_ _ | refine kd_ ?_ | refine ka_ ?_ _)); exact BK344.out) hg (Kd.R_away HO_6.out (fun _ hk => hk.1.2))); have n2_ := ak_ (Kd.R_after (ok := (fun k_ => some k_ ≠ (.slice (some ad343) t339.length co14 : Value).ownBlock ∧ k_ ≠ gb344)) (by (with_reducible repeat (first | apply Kd.R_alloc | apply Kd.R_drewN | apply Kd.R_drew)); exact Kd.R_mono HO347.out (fun _ hk => ⟨⟨hk.1.2, hk.2⟩, hk.1.1.2⟩)) hg hat); have n3_ := ak_ (hb); have n4_ := ak_ (ho); clear HO_40; clear BK344; clear HO347; clear HB; clear HO_6; have HO_40 := n0_; have BK344 := n1_; have HO347 := n2_; have HB := n3_; have HO351 := n4_; clear n0_ n1_ n2_ n3_ n4_; clear ho hb hg hat))
              go_roundg k2
              case measure => have := HJ9.out; have := HK2.out; omega
              case rel => exact ⟨(y349), (wrap64 (x42_2 + 1)), (by first | rfl | (simp; done) | (simp [*]; done)), H', ⟨by have := HJ9.out; have := HK2.out; omega⟩, ⟨by (with_reducible repeat (first | apply Kd.R_alloc | apply Kd.R_drewN | apply Kd.R_drew)); exact Kd.R_mono HO351.out (fun _ hk => hk.1)⟩, ⟨by (with_reducible repeat (first | apply Kd.R_alloc | apply Kd.R_drewN | apply Kd.R_drew)); exact Kd.R_mono HO_40.out (fun _ hk => hk.2)⟩, ⟨by repeat (first | (with_reducible first | exact HB.out | apply ba_ | apply bn_ | apply bd_ | refine below_set ?_ GE344.out) | exact HB.out)⟩⟩
             ·rw [if_neg c20] at H
              exact absurd H (by simp)
            ·rw [if_neg c19] at H
             have c19b0 : (t348 == 0) = false := beq_eq_false_iff_ne.mpr c19
             have c19b1 : (t348 != 0) = true := bne_iff_ne.mpr c19
             simp only [Option.some.injEq, Prod.mk.injEq] at H
             obtain ⟨rfl, rfl⟩ := H
             have p343 : 0 ≤ (x42_2 : Int) := of_decide_eq_true (by first | (with_reducible assumption) | assumption)
             have q343 : x42_2 < (t339.length : Int) := of_decide_eq_true (by first | (with_reducible assumption) | assumption)
             obtain ⟨ad343, e343, hx343_0, hx343_1⟩ := at_T34 (Kd.R_reads' HO_40.out).2.2 x42_2 p343 q343
             cases e343
             replace p343 := eq_true p343
             replace q343 := eq_true q343
             go_wp2_with (first | ((with_reducible refine gate_dst (N := 10) rfl ?_); refine box_event ?hg (N := 10) ?hd (cs := #[.int .u64 0, .int .u64 0]) (t := 34) ?hr ?_; (case hd => rfl); (case hg => rfl); (case hr => first | (go_simp; done) | (go_simp; rfl)); intro gb344 hg w26 hbox hb; have n0_ := ak_ (Kd.R_below (Kd.R_elderB (by (with_reducible repeat (first | apply Kd.R_alloc | apply Kd.R_drewN | apply Kd.R_drew)); exact HO_6.out) gb344 (Nat.le_of_eq hg.symm)) hb); have n1_ := ak_ (Kd.R_below (Kd.R_elderB (by (with_reducible repeat (first | apply Kd.R_alloc | apply Kd.R_drewN | apply Kd.R_drew)); exact HO_40.out) gb344 (Nat.le_of_eq hg.symm)) hb); have n2_ := ak_ (below_step (by repeat (first | (with_reducible first | exact HB.out | apply ba_ | apply bn_ | apply bd_) | exact HB.out)) hb); have n3_ := ak_ (hbox); have n4_ := ak_ ((by rw [hg]; exact (below_size (by repeat (first | (with_reducible first | exact HB.out | apply ba_ | apply bn_ | apply bd_) | exact HB.out))) : w.heap.size ≤ gb344)); have n5_ := ak_ ((by rw [hg]; exact (below_size (by repeat (first | (with_reducible first | exact HB.out | apply ba_ | apply bn_ | apply bd_) | exact HB.out))) : w.heap.size ≤ gb344)); clear HO_6; clear HO_40; clear HB; have HO_6 := n0_; have HO_40 := n1_; have HB := n2_; have BK344 := n3_; have GW344 := n4_; have GE344 := n5_; clear n0_ n1_ n2_ n3_ n4_ n5_; clear hb hbox hg; have hcz27_0 : w26.cell? ⟨gb344, 0, none⟩ = some (.int .u64 0) := (blk_cell BK344.out 0).trans rfl; have hcz27_1 : w26.cell? ⟨gb344, 1, none⟩ = some (.int .u64 0) := (blk_cell BK344.out 1).trans rfl; have hfz27_0 := blk_frozen BK344.out 0; have hfz27_1 := blk_frozen BK344.out 1) | ((with_reducible refine gate_callee (f := 74) rfl ?_); refine goesL_ (some 49) rfl rfl Try.func74 (by kernel_rfl) rfl #[.int .i64 a0, .agg #[.int .u64 ((rd_T34 t339 x42_2).f0), .int .u64 ((rd_T34 t339 x42_2).f1)]] rfl (by (try simp only [map_toArray, map_cons, map_nil]); first | done | rfl | (simp only [length_drop, length_take]; rfl)) ?_; (with_reducible refine (sub_Split.calls k2 a0 ((rd_T34 t339 x42_2).f0) ((rd_T34 t339 x42_2).f1) t345 t348 _ A18.out).mono ?_); rintro e w28 ⟨v346, rfl, ho0, hb⟩; refine ⟨_, rfl, ?_⟩; have n0_ := ak_ (Kd.R_elder' (by (with_reducible repeat (first | apply Kd.R_alloc | apply Kd.R_drewN | apply Kd.R_drew)); exact (Kd.R_mono (Kd.R_far (p := ⟨gb344, 1, none⟩) (Kd.R_far (p := ⟨gb344, 0, none⟩) (Kd.R_mono HO_6.out (fun k_ hk => (⟨hk, hk.2⟩ : _ ∧ k_ ≠ gb344))) (fun _ hk => hk.2) (.int .u64 ((rd_T34 t339 x42_2).f0))) (fun _ hk => hk.2) (.int .u64 ((rd_T34 t339 x42_2).f1))) (fun _ h_ => h_.1))) (Kd.R_base ho0) hb); have n1_ := ak_ (Kd.R_elder' (by (with_reducible repeat (first | apply Kd.R_alloc | apply Kd.R_drewN | apply Kd.R_drew)); exact (Kd.R_mono (Kd.R_far (p := ⟨gb344, 1, none⟩) (Kd.R_far (p := ⟨gb344, 0, none⟩) (Kd.R_mono HO_40.out (fun k_ hk => (⟨hk, hk.2⟩ : _ ∧ k_ ≠ gb344))) (fun _ hk => hk.2) (.int .u64 ((rd_T34 t339 x42_2).f0))) (fun _ hk => hk.2) (.int .u64 ((rd_T34 t339 x42_2).f1))) (fun _ h_ => h_.1))) (Kd.R_base ho0) hb); have n2_ := ak_ (Kd.R_lower (Kd.R_newB (Kd.R_new' (Kd.R_new' ho0 (Kd.R_lt (by (with_reducible repeat (first | apply Kd.R_alloc | apply Kd.R_drewN | apply Kd.R_drew)); exact (Kd.R_mono (Kd.R_far (p := ⟨gb344, 1, none⟩) (Kd.R_far (p := ⟨gb344, 0, none⟩) (Kd.R_mono HO_6.out (fun k_ hk => (⟨hk, hk.2⟩ : _ ∧ k_ ≠ gb344))) (fun _ hk => hk.2) (.int .u64 ((rd_T34 t339 x42_2).f0))) (fun _ hk => hk.2) (.int .u64 ((rd_T34 t339 x42_2).f1))) (fun _ h_ => h_.1))))) (Kd.R_lt (by (with_reducible repeat (first | apply Kd.R_alloc | apply Kd.R_drewN | apply Kd.R_drew)); exact (Kd.R_mono (Kd.R_far (p := ⟨gb344, 1, none⟩) (Kd.R_far (p := ⟨gb344, 0, none⟩) (Kd.R_mono HO_40.out (fun k_ hk => (⟨hk, hk.2⟩ : _ ∧ k_ ≠ gb344))) (fun _ hk => hk.2) (.int .u64 ((rd_T34 t339 x42_2).f0))) (fun _ hk => hk.2) (.int .u64 ((rd_T34 t339 x42_2).f1))) (fun _ h_ => h_.1))))) (g := gb344) (o := .cells #[.int .u64 ((rd_T34 t339 x42_2).f0), .int .u64 ((rd_T34 t339 x42_2).f1)] 34 (0, 0)) (by (with_reducible repeat (first | refine kn_ ?_ _ | refine kd_ ?_ | refine ka_ ?_ _)); refine blk_put (cs := #[.int .u64 ((rd_T34 t339 x42_2).f0), .int .u64 0]) ?_ 1 _ rfl; (with_reducible repeat (first | refine kn_ ?_ _ | refine kd_ ?_ | refine ka_ ?_ _)); refine blk_put (cs := #[.int .u64 0, .int .u64 0]) ?_ 0 _ rfl; (with_reducible repeat (first | refine kn_ ?_ _ | refine kd_ ?_ | refine ka_ ?_ _)); exact BK344.out)) (below_size (by repeat (first | (with_reducible first | exact HB.out | apply ba_ | apply bn_ | apply bd_ | refine below_set ?_ GE344.out) | exact HB.out)))); have n3_ := ak_ (blk_below (g := gb344) (o := .cells #[.int .u64 ((rd_T34 t339 x42_2).f0), .int .u64 ((rd_T34 t339 x42_2).f1)] 34 (0, 0)) (by (with_reducible repeat (first | refine kn_ ?_ _ | refine kd_ ?_ | refine ka_ ?_ _)); refine blk_put (cs := #[.int .u64 ((rd_T34 t339 x42_2).f0), .int .u64 0]) ?_ 1 _ rfl; (with_reducible repeat (first | refine kn_ ?_ _ | refine kd_ ?_ | refine ka_ ?_ _)); refine blk_put (cs := #[.int .u64 0, .int .u64 0]) ?_ 0 _ rfl; (with_reducible repeat (first | refine kn_ ?_ _ | refine kd_ ?_ | refine ka_ ?_ _)); exact BK344.out) hb); have n4_ := ak_ (below_step (by repeat (first | (with_reducible first | exact HB.out | apply ba_ | apply bn_ | apply bd_ | refine below_set ?_ GE344.out) | exact HB.out)) hb); clear HO_6; clear HO_40; clear BK344; clear HB; have HO_6 := n0_; have HO_40 := n1_; have HO347 := n2_; have BK344 := n3_; have HB := n4_; clear n0_ n1_ n2_ n3_ n4_; (try clear hb); (try clear hb2); (try clear hk); (try clear hi); (try clear ho0)))
             go_ret2
             exact ⟨_, by first | rfl | (simp <;> rfl) | (simp [*] <;> rfl), by first | exact Kd.R_nil _ _ _ _ _ | exact Kd.N_nil _ _ _ _ _ | exact Kd.V_nil _ _ _ _ _ | exact Kd.Q_nil _ _ _ _ _ | exact Kd.S_nil _ _ _ _ _, by repeat (first | (with_reducible first | exact HB.out | apply ba_ | apply bn_ | apply bd_ | refine below_set ?_ GE344.out) | exact HB.out)⟩
           ·rw [if_neg c17] at H
            exact absurd H (by simp)
          ·rw [if_neg c16] at H
           exact absurd H (by simp)
         ·rw [if_neg c15] at H
          have c15b0 : decide (x42_2 < (t339.length : Int)) = false := decide_eq_false c15
          clear c15
          replace H := Option.bind_eq_some_iff.mp H
          obtain ⟨t352, A290, H⟩ := H
          replace H : (some (t352, 0)) = some (r1, r2) := H
          have A29 := ak_ A290
          clear A290
          simp only [Option.some.injEq, Prod.mk.injEq] at H
          obtain ⟨rfl, rfl⟩ := H
          obtain ⟨Ao30, co30, eo30⟩ := Kd.R_slice HO_6.out
          subst eo30
          go_wp2_with (first | ((with_reducible refine gate_callee (f := 31) rfl ?_); refine goesL_ (some 60) rfl rfl Try.func31 (by kernel_rfl) rfl #[.slice Ao30 x6_2.length co30] rfl (by (try simp only [map_toArray, map_cons, map_nil]); first | done | rfl | (simp only [length_drop, length_take]; rfl)) ?_; (with_reducible refine (layer_Order.calls k2 _ _ x6_2 t352 _ ?side1 ?side2 A29.out).mono ?_); (case side1 => repeat (first | exact (Kd.R_reads' HO_6.out).2.2 | (with_reducible refine Kd.C_alloc ?_ _) | (with_reducible refine Kd.C_drewN ?_ _) | (with_reducible refine Kd.C_drew ?_))); (case side2 => exact (Kd.R_reads' HO_6.out).2.1); rintro e w31 ⟨v353, rfl, ho0, hb⟩; refine ⟨_, rfl, ?_⟩; have n0_ := ak_ (Kd.R_elder' (by (with_reducible repeat (first | apply Kd.R_alloc | apply Kd.R_drewN | apply Kd.R_drew)); exact HO_6.out) (Kd.R_base ho0) hb); have n1_ := ak_ (Kd.R_elder' (by (with_reducible repeat (first | apply Kd.R_alloc | apply Kd.R_drewN | apply Kd.R_drew)); exact HO_40.out) (Kd.R_base ho0) hb); have n2_ := ak_ (Kd.R_lower (Kd.R_new' (Kd.R_new' ho0 (Kd.R_lt (by (with_reducible repeat (first | apply Kd.R_alloc | apply Kd.R_drewN | apply Kd.R_drew)); exact HO_6.out))) (Kd.R_lt (by (with_reducible repeat (first | apply Kd.R_alloc | apply Kd.R_drewN | apply Kd.R_drew)); exact HO_40.out))) (below_size (by repeat (first | (with_reducible first | exact HB.out | apply ba_ | apply bn_ | apply bd_) | exact HB.out)))); have n3_ := ak_ (below_step (by repeat (first | (with_reducible first | exact HB.out | apply ba_ | apply bn_ | apply bd_) | exact HB.out)) hb); clear HO_6; clear HO_40; clear HB; have HO_6 := n0_; have HO_40 := n1_; have HO354 := n2_; have HB := n3_; clear n0_ n1_ n2_ n3_; (try clear hb); (try clear hb2); (try clear hk); (try clear hi); (try clear ho0)))
          go_ret2
          exact ⟨_, by first | rfl | (simp <;> rfl) | (simp [*] <;> rfl), by (with_reducible repeat (first | apply Kd.R_alloc | apply Kd.R_drewN | apply Kd.R_drew)); exact Kd.R_mono HO354.out (fun _ hk => trivial), by repeat (first | (with_reducible first | exact HB.out | apply ba_ | apply bn_ | apply bd_) | exact HB.out)⟩
  ·rw [if_neg c5] at H
   have c5b0 : (t334 == 0) = false := beq_eq_false_iff_ne.mpr c5
   have c5b1 : (t334 != 0) = true := bne_iff_ne.mpr c5
   simp only [Option.some.injEq, Prod.mk.injEq] at H
   obtain ⟨rfl, rfl⟩ := H
   go_enter Try.func35, Try.ntmps35
   go_wp2_with (first | ((with_reducible refine gate_callee (f := 73) rfl ?_); refine goesL_ (some 15) rfl rfl Try.func73 (by kernel_rfl) rfl #[.int .i64 a0, .int .i64 a1] rfl (by (try simp only [map_toArray, map_cons, map_nil]); first | done | rfl | (simp only [length_drop, length_take]; rfl)) ?_; (with_reducible refine (layer_check.calls k a0 a1 t334 _ A4.out).mono ?_); rintro e w' ⟨rfl, ⟨nd, rfl⟩⟩; refine ⟨_, rfl, ?_⟩))
   go_ret2
   exact ⟨_, by first | rfl | (simp <;> rfl) | (simp [*] <;> rfl), by first | exact Kd.R_nil _ _ _ _ _ | exact Kd.N_nil _ _ _ _ _ | exact Kd.V_nil _ _ _ _ _ | exact Kd.Q_nil _ _ _ _ _ | exact Kd.S_nil _ _ _ _ _, by repeat (first | (with_reducible first | exact HB.out | apply ba_ | apply bn_ | apply bd_) | exact HB.out)⟩

/-! ### medlarlaw12_live: function 30 -/
def medlarlaw12_live.f (k : Nat)  : Option (Bool) := (layer_Cover.f k 4 3 (([0] : List Int))).bind fun bt358 => (if bt358.2 = 0 then ((medlarref08_Same.f k bt358.1 (([(⟨1, 16⟩ : S34)] : List (S34)))).bind fun t365 => (some t365)) else (some false))
theorem medlarlaw12_live.mono : ∀ k, LeO (medlarlaw12_live.f k ) (medlarlaw12_live.f (k + 1) ) := by
  intro  k
  unfold medlarlaw12_live.f
  repeat' first
    | (with_reducible exact layer_Cover.mono _ _ _ _)
    | (with_reducible exact medlarref08_Same.mono _ _ _)
    | (with_reducible exact LeO.refl _)
    | (with_reducible exact LeO.none _)
    | (with_reducible refine LeO.ite ?_ ?_)
    | (with_reducible refine LeO.bind ?_ (fun _ => ?_))
    | exact layer_Cover.mono _ _ _ _
    | exact medlarref08_Same.mono _ _ _
    | exact LeO.none _
    | refine LeO.ite ?_ ?_
    | refine LeO.bind ?_ (fun _ => ?_)
set_option maxHeartbeats 8000000 in
set_option maxRecDepth 100000 in
theorem medlarlaw12_live.calls (k : Nat)  (r : Bool) (w : World) (h : medlarlaw12_live.f k  = some r) :
   Calls Try.prog 30 #[] w fun e w' => e = .returned (.bool r) ∧ Below w.heap.size w w' := by
  have hu34 := Try.underlying34
  have HB := ak_ (Below.refl w.heap.size w)
  have H : ((layer_Cover.f k 4 3 (([0] : List Int))).bind fun bt358 => (if bt358.2 = 0 then ((medlarref08_Same.f k bt358.1 (([(⟨1, 16⟩ : S34)] : List (S34)))).bind fun t365 => (some t365)) else (some false))) = some r := h
  clear h
  obtain ⟨y355, hy355⟩ : ∃ y_ : List Int, y_ = (([0] : List Int)) := ⟨_, rfl⟩
  replace H : ((layer_Cover.f k 4 3 y355).bind fun bt358 => (if bt358.2 = 0 then ((medlarref08_Same.f k bt358.1 (([(⟨1, 16⟩ : S34)] : List (S34)))).bind fun t365 => (some t365)) else (some false))) = some r := by first | (rw [hy355]; with_reducible exact H) | (have H2_ := (Option.bind_some _ _).symm.trans H; rw [hy355]; with_reducible exact H2_) | (have H2_ := (Option.bind_some _ _).symm.trans H; with_reducible exact H2_) | with_reducible exact H | (rw [hy355]; exact H) | exact H
  have Ny355 := ak_ hy355
  clear hy355
  replace H := Option.bind_eq_some_iff.mp H
  obtain ⟨⟨t358, t359⟩, A10, H⟩ := H
  replace H : (if t359 = 0 then ((medlarref08_Same.f k t358 (([(⟨1, 16⟩ : S34)] : List (S34)))).bind fun t365 => (some t365)) else (some false)) = some r := H
  have A1 := ak_ A10
  clear A10
  by_cases c2 : t359 = 0
  ·rw [if_pos c2] at H
   have c2b0 : (t359 == 0) = true := beq_iff_eq.mpr c2
   have c2b1 : (t359 != 0) = false := bne_eq_false_iff_eq.mpr c2
   clear c2
   obtain ⟨y362, hy362⟩ : ∃ y_ : List (S34), y_ = (([(⟨1, 16⟩ : S34)] : List (S34))) := ⟨_, rfl⟩
   replace H : ((medlarref08_Same.f k t358 y362).bind fun t365 => (some t365)) = some r := by first | (rw [hy362]; with_reducible exact H) | (have H2_ := (Option.bind_some _ _).symm.trans H; rw [hy362]; with_reducible exact H2_) | (have H2_ := (Option.bind_some _ _).symm.trans H; with_reducible exact H2_) | with_reducible exact H | (rw [hy362]; exact H) | exact H
   have Ny362 := ak_ hy362
   clear hy362
   replace H := Option.bind_eq_some_iff.mp H
   obtain ⟨t365, A30, H⟩ := H
   replace H : (some t365) = some r := H
   have A3 := ak_ A30
   clear A30
   obtain rfl := Option.some.inj H
   go_enter Try.func30, Try.ntmps30
   go_wp2_with (first | ((with_reducible refine gate_dst (N := 4) rfl ?_); (try (refine gate_guard (by rfl) ?_; dsimp only)); refine Kd.R_lit (Kd.int .u64) _ 28 ?hg (N := 4) ?hd (xs := ([0] : List Int)) (inner := [.int .u64 0]) (ok := fun _ => True) (okp := fun _ => True) ?hr ?hp (fun _ hk => hk) trivial (Below.refl _ _) (Nat.le_refl _) (by simp) ?_; (case hd => rfl); (case hg => rfl); (case hr => first | (go_simp; done) | (go_simp; rfl)); (case hp => exact (Reps.one (show Kd.M (Kd.int .u64) _ _ _ 0 [.int .u64 0] from rfl) (Reps.none _ _))); intro v356 w4 ho5 hb hg_ hnew_; clear hg_ hnew_; (first | rw [← Ny355.out] at ho5 | (simp only [Int.reduceToNat] at ho5; rw [← Ny355.out] at ho5)); have n0_ := ak_ (Kd.R_lower ho5 (below_size (by repeat (first | (with_reducible first | exact HB.out | apply ba_ | apply bn_ | apply bd_) | exact HB.out)))); have n1_ := ak_ (below_step (by repeat (first | (with_reducible first | exact HB.out | apply ba_ | apply bn_ | apply bd_) | exact HB.out)) hb); clear HB; have HO357 := n0_; have HB := n1_; clear n0_ n1_; clear hb ho5; obtain ⟨Ao6, co6, eo6⟩ := Kd.R_slice HO357.out; subst eo6) | ((with_reducible refine gate_callee (f := 35) rfl ?_); refine goesL_ (some 5) rfl rfl Try.func35 (by kernel_rfl) rfl #[.int .i64 4, .int .i64 3, .slice Ao6 y355.length co6] rfl (by (try simp only [map_toArray, map_cons, map_nil]); first | done | rfl | (simp only [length_drop, length_take]; rfl)) ?_; (with_reducible refine (layer_Cover.calls k 4 3 _ _ y355 t358 t359 _ ?side1 ?side2 A1.out).mono ?_); (case side1 => repeat (first | exact (Kd.R_reads' HO357.out).2.2 | (with_reducible refine Kd.C_alloc ?_ _) | (with_reducible refine Kd.C_drewN ?_ _) | (with_reducible refine Kd.C_drew ?_))); (case side2 => exact (Kd.R_reads' HO357.out).2.1); rintro e w7 ⟨v360, rfl, ho0, hb⟩; refine ⟨_, rfl, ?_⟩; have n0_ := ak_ (Kd.R_below (by (with_reducible repeat (first | apply Kd.R_alloc | apply Kd.R_drewN | apply Kd.R_drew)); exact HO357.out) hb); have n1_ := ak_ (Kd.R_lower ho0 (below_size (by repeat (first | (with_reducible first | exact HB.out | apply ba_ | apply bn_ | apply bd_) | exact HB.out)))); have n2_ := ak_ (below_step (by repeat (first | (with_reducible first | exact HB.out | apply ba_ | apply bn_ | apply bd_) | exact HB.out)) hb); clear HO357; clear HB; have HO357 := n0_; have HO361 := n1_; have HB := n2_; clear n0_ n1_ n2_; (try clear hb); (try clear hb2); (try clear hk); (try clear hi); (try clear ho0)) | ((with_reducible refine gate_dst (N := 13) rfl ?_); (try (refine gate_guard (by rfl) ?_; dsimp only)); refine Kd.R_lit k34 _ 34 ?hg (N := 13) ?hd (xs := ([(⟨1, 16⟩ : S34)] : List (S34))) (inner := [.int .u64 1, .int .u64 16]) (ok := fun _ => True) (okp := fun _ => True) ?hr ?hp (fun _ hk => hk) trivial (Below.refl _ _) (Nat.le_refl _) (by simp) ?_; (case hd => rfl); (case hg => rfl); (case hr => first | (go_simp; done) | (go_simp; rfl)); (case hp => exact (Reps.c2 (show Kd.M k34 _ _ _ (⟨1, 16⟩ : S34) [.int .u64 1, .int .u64 16] from (k34_mkM _ _ _ (⟨1, 16⟩ : S34) )) (Reps.none _ _))); intro v363 w8 ho9 hb hg_ hnew_; clear hg_ hnew_; (first | rw [← Ny362.out] at ho9 | (simp only [Int.reduceToNat] at ho9; rw [← Ny362.out] at ho9)); have n0_ := ak_ (Kd.R_below (by (with_reducible repeat (first | apply Kd.R_alloc | apply Kd.R_drewN | apply Kd.R_drew)); exact HO357.out) hb); have n1_ := ak_ (Kd.R_elder' (by (with_reducible repeat (first | apply Kd.R_alloc | apply Kd.R_drewN | apply Kd.R_drew)); exact HO361.out) (Kd.R_base ho9) hb); have n2_ := ak_ (Kd.R_lower (Kd.R_new' ho9 (Kd.R_lt (by (with_reducible repeat (first | apply Kd.R_alloc | apply Kd.R_drewN | apply Kd.R_drew)); exact HO361.out))) (below_size (by repeat (first | (with_reducible first | exact HB.out | apply ba_ | apply bn_ | apply bd_) | exact HB.out)))); have n3_ := ak_ (below_step (by repeat (first | (with_reducible first | exact HB.out | apply ba_ | apply bn_ | apply bd_) | exact HB.out)) hb); clear HO357; clear HO361; clear HB; have HO357 := n0_; have HO361 := n1_; have HO364 := n2_; have HB := n3_; clear n0_ n1_ n2_ n3_; clear hb ho9; obtain ⟨Ao10, co10, eo10⟩ := Kd.R_slice HO361.out; subst eo10; obtain ⟨Ao11, co11, eo11⟩ := Kd.R_slice HO364.out; subst eo11) | (go_at_call 19; (with_reducible refine (medlarref08_Same.calls k _ _ t358 _ _ y362 t365 _ ?side1 ?side2 ?side3 ?side4 A3.out).mono ?_); (case side1 => repeat (first | exact (Kd.R_reads' HO361.out).2.2 | (with_reducible refine Kd.C_alloc ?_ _) | (with_reducible refine Kd.C_drewN ?_ _) | (with_reducible refine Kd.C_drew ?_))); (case side2 => exact (Kd.R_reads' HO361.out).2.1); (case side3 => repeat (first | exact (Kd.R_reads' HO364.out).2.2 | (with_reducible refine Kd.C_alloc ?_ _) | (with_reducible refine Kd.C_drewN ?_ _) | (with_reducible refine Kd.C_drew ?_))); (case side4 => exact (Kd.R_reads' HO364.out).2.1); rintro e w' ⟨rfl, ⟨nd, rfl⟩⟩))
   go_ret
   exact ⟨by first | rfl | (simp <;> rfl) | (simp [*] <;> rfl), by repeat (first | (with_reducible first | exact HB.out | apply ba_ | apply bn_ | apply bd_) | exact HB.out)⟩
  ·rw [if_neg c2] at H
   have c2b0 : (t359 == 0) = false := beq_eq_false_iff_ne.mpr c2
   have c2b1 : (t359 != 0) = true := bne_iff_ne.mpr c2
   obtain rfl := Option.some.inj H
   go_enter Try.func30, Try.ntmps30
   go_wp2_with (first | ((with_reducible refine gate_dst (N := 4) rfl ?_); (try (refine gate_guard (by rfl) ?_; dsimp only)); refine Kd.R_lit (Kd.int .u64) _ 28 ?hg (N := 4) ?hd (xs := ([0] : List Int)) (inner := [.int .u64 0]) (ok := fun _ => True) (okp := fun _ => True) ?hr ?hp (fun _ hk => hk) trivial (Below.refl _ _) (Nat.le_refl _) (by simp) ?_; (case hd => rfl); (case hg => rfl); (case hr => first | (go_simp; done) | (go_simp; rfl)); (case hp => exact (Reps.one (show Kd.M (Kd.int .u64) _ _ _ 0 [.int .u64 0] from rfl) (Reps.none _ _))); intro v356 w12 ho13 hb hg_ hnew_; clear hg_ hnew_; (first | rw [← Ny355.out] at ho13 | (simp only [Int.reduceToNat] at ho13; rw [← Ny355.out] at ho13)); have n0_ := ak_ (Kd.R_lower ho13 (below_size (by repeat (first | (with_reducible first | exact HB.out | apply ba_ | apply bn_ | apply bd_) | exact HB.out)))); have n1_ := ak_ (below_step (by repeat (first | (with_reducible first | exact HB.out | apply ba_ | apply bn_ | apply bd_) | exact HB.out)) hb); clear HB; have HO357 := n0_; have HB := n1_; clear n0_ n1_; clear hb ho13; obtain ⟨Ao14, co14, eo14⟩ := Kd.R_slice HO357.out; subst eo14) | ((with_reducible refine gate_callee (f := 35) rfl ?_); refine goesL_ (some 5) rfl rfl Try.func35 (by kernel_rfl) rfl #[.int .i64 4, .int .i64 3, .slice Ao14 y355.length co14] rfl (by (try simp only [map_toArray, map_cons, map_nil]); first | done | rfl | (simp only [length_drop, length_take]; rfl)) ?_; (with_reducible refine (layer_Cover.calls k 4 3 _ _ y355 t358 t359 _ ?side1 ?side2 A1.out).mono ?_); (case side1 => repeat (first | exact (Kd.R_reads' HO357.out).2.2 | (with_reducible refine Kd.C_alloc ?_ _) | (with_reducible refine Kd.C_drewN ?_ _) | (with_reducible refine Kd.C_drew ?_))); (case side2 => exact (Kd.R_reads' HO357.out).2.1); rintro e w15 ⟨v360, rfl, ho0, hb⟩; refine ⟨_, rfl, ?_⟩; have n0_ := ak_ (Kd.R_below (by (with_reducible repeat (first | apply Kd.R_alloc | apply Kd.R_drewN | apply Kd.R_drew)); exact HO357.out) hb); have n1_ := ak_ (Kd.R_lower ho0 (below_size (by repeat (first | (with_reducible first | exact HB.out | apply ba_ | apply bn_ | apply bd_) | exact HB.out)))); have n2_ := ak_ (below_step (by repeat (first | (with_reducible first | exact HB.out | apply ba_ | apply bn_ | apply bd_) | exact HB.out)) hb); clear HO357; clear HB; have HO357 := n0_; have HO361 := n1_; have HB := n2_; clear n0_ n1_ n2_; (try clear hb); (try clear hb2); (try clear hk); (try clear hi); (try clear ho0)))
   go_ret
   exact ⟨by first | rfl | (simp <;> rfl) | (simp [*] <;> rfl), by repeat (first | (with_reducible first | exact HB.out | apply ba_ | apply bn_ | apply bd_) | exact HB.out)⟩

/-! ### whole_Bound: function 50 -/
def whole_Bound.j0 : Nat → Int → Int → Bool → Option (Int × Int)
  | 0, _, _, _ => none
  | k + 1, x0, x1, x13 => if x13 = true then (some (0, 1)) else (if x1 = 0 then (some (1, 0)) else ((bits_Len.f k (IntKind.u64.wrap (x1))).bind fun t370 => (some (IntKind.u64.wrap (wrap64 (x1 * (wrap64 ((wrap64 (x0 + 1)) - t370)))), 0))))
def whole_Bound.f (k : Nat) (a0 : Int) (a1 : Int) : Option (Int × Int) := (node_Leaves.f k a0 1).bind fun bt366 => (if bt366.2.2 = 0 then (if a1 < 0 then (whole_Bound.j0 k a0 a1 true) else (if a1 > 1024 then (whole_Bound.j0 k a0 a1 true) else (whole_Bound.j0 k a0 a1 (decide ((IntKind.u64.wrap (a1)) > (IntKind.u64.wrap (bt366.2.1 + 1))))))) else (whole_Bound.j0 k a0 a1 true))
theorem whole_Bound.mono_l : ∀ k, (∀ y0 y1 y2, LeO (whole_Bound.j0 k y0 y1 y2) (whole_Bound.j0 (k + 1) y0 y1 y2))
  | 0 => fun _ _ _ r h => by simp [whole_Bound.j0] at h
  | k + 1 => by
   have ih0 := whole_Bound.mono_l k
   ·intro y0 y1 y2
    unfold whole_Bound.j0
    repeat' first
    | (with_reducible exact ih0 _ _ _)
    | (with_reducible exact bits_Len.mono _ _)
    | (with_reducible exact node_Leaves.mono _ _ _)
    | (with_reducible exact LeO.refl _)
    | (with_reducible exact LeO.none _)
    | (with_reducible refine LeO.ite ?_ ?_)
    | (with_reducible refine LeO.bind ?_ (fun _ => ?_))
    | exact ih0 _ _ _
    | exact bits_Len.mono _ _
    | exact node_Leaves.mono _ _ _
    | exact LeO.none _
    | refine LeO.ite ?_ ?_
    | refine LeO.bind ?_ (fun _ => ?_)
theorem whole_Bound.mono : ∀ a0 a1 k, LeO (whole_Bound.f k a0 a1) (whole_Bound.f (k + 1) a0 a1) := by
  intro a0 a1 k
  have ih0 := whole_Bound.mono_l k
  unfold whole_Bound.f
  repeat' first
    | (with_reducible exact ih0 _ _ _)
    | (with_reducible exact bits_Len.mono _ _)
    | (with_reducible exact node_Leaves.mono _ _ _)
    | (with_reducible exact LeO.refl _)
    | (with_reducible exact LeO.none _)
    | (with_reducible refine LeO.ite ?_ ?_)
    | (with_reducible refine LeO.bind ?_ (fun _ => ?_))
    | exact ih0 _ _ _
    | exact bits_Len.mono _ _
    | exact node_Leaves.mono _ _ _
    | exact LeO.none _
    | refine LeO.ite ?_ ?_
    | refine LeO.bind ?_ (fun _ => ?_)
set_option maxHeartbeats 8000000 in
set_option maxRecDepth 100000 in
theorem whole_Bound.calls (k : Nat) (a0 : Int) (a1 : Int) (r1 : Int) (r2 : Int) (w : World) (h : whole_Bound.f k a0 a1 = some (r1, r2)) :
   Calls Try.prog 50 #[.int .i64 a0, .int .i64 a1] w fun e w' => e = .returned (.tuple #[.int .u64 r1, .int .i64 r2]) ∧ Below w.heap.size w w' := by
  have hu52 := Try.underlying52
  have HB := ak_ (Below.refl w.heap.size w)
  have H : ((node_Leaves.f k a0 1).bind fun bt366 => (if bt366.2.2 = 0 then (if a1 < 0 then (whole_Bound.j0 k a0 a1 true) else (if a1 > 1024 then (whole_Bound.j0 k a0 a1 true) else (whole_Bound.j0 k a0 a1 (decide ((IntKind.u64.wrap (a1)) > (IntKind.u64.wrap (bt366.2.1 + 1))))))) else (whole_Bound.j0 k a0 a1 true))) = some (r1, r2) := h
  clear h
  replace H := Option.bind_eq_some_iff.mp H
  obtain ⟨⟨t366, t367, t368⟩, A30, H⟩ := H
  replace H : (if t368 = 0 then (if a1 < 0 then (whole_Bound.j0 k a0 a1 true) else (if a1 > 1024 then (whole_Bound.j0 k a0 a1 true) else (whole_Bound.j0 k a0 a1 (decide ((IntKind.u64.wrap (a1)) > (IntKind.u64.wrap (t367 + 1))))))) else (whole_Bound.j0 k a0 a1 true)) = some (r1, r2) := H
  have A3 := ak_ A30
  clear A30
  have HC4 := ak_ H
  clear H
  go_enter Try.func50, Try.ntmps50
  go_upto_region 2 with (first | ((with_reducible refine gate_callee (f := 54) rfl ?_); refine goesL_ (some 10) rfl rfl Try.func54 (by kernel_rfl) rfl #[.int .i64 a0, .int .u64 1] rfl (by (try simp only [map_toArray, map_cons, map_nil]); first | done | rfl | (simp only [length_drop, length_take]; rfl)) ?_; (with_reducible refine (node_Leaves.calls k a0 1 t366 t367 t368 _ A3.out).mono ?_); rintro e w5 ⟨rfl, hb⟩; refine ⟨_, rfl, ?_⟩; have n0_ := ak_ (below_step (by repeat (first | (with_reducible first | exact HB.out | apply ba_ | apply bn_ | apply bd_) | exact HB.out)) hb); clear HB; have HB := n0_; clear n0_; (try clear hb); (try clear hb2); (try clear hk); (try clear hi)) | ((with_reducible refine gate_dst (N := 6) rfl ?_); refine box_event ?hg (N := 6) ?hd (cs := #[.int .u64 0, .int .u64 0]) (t := 52) ?hr ?_; (case hd => rfl); (case hg => rfl); (case hr => first | (go_simp; done) | (go_simp; rfl)); intro gb369 hg w6 hbox hb; have n0_ := ak_ (below_step (by repeat (first | (with_reducible first | exact HB.out | apply ba_ | apply bn_ | apply bd_) | exact HB.out)) hb); have n1_ := ak_ (hbox); have n2_ := ak_ ((by rw [hg]; exact (below_size (by repeat (first | (with_reducible first | exact HB.out | apply ba_ | apply bn_ | apply bd_) | exact HB.out))) : w.heap.size ≤ gb369)); have n3_ := ak_ ((by rw [hg]; exact (below_size (by repeat (first | (with_reducible first | exact HB.out | apply ba_ | apply bn_ | apply bd_) | exact HB.out))) : w.heap.size ≤ gb369)); clear HB; have HB := n0_; have BK369 := n1_; have GW369 := n2_; have GE369 := n3_; clear n0_ n1_ n2_ n3_; clear hb hbox hg; have hcz7_0 : w6.cell? ⟨gb369, 0, none⟩ = some (.int .u64 0) := (blk_cell BK369.out 0).trans rfl; have hcz7_1 : w6.cell? ⟨gb369, 1, none⟩ = some (.int .u64 0) := (blk_cell BK369.out 1).trans rfl; have hfz7_0 := blk_frozen BK369.out 0; have hfz7_1 := blk_frozen BK369.out 1))
  (try simp only [Act.put, setIfInBounds_toArray, set_cons_zero, set_cons_succ])
  go_cut [13] (fun v13 wc => ∃ (kq : Nat) (x13_3 : Bool), v13 = .bool x13_3 ∧ Aside0 (whole_Bound.j0 kq a0 a1 x13_3 = some (r1, r2)) ∧ Aside0 (kq ≤ k) ∧ Aside0 (wc.heap[gb369]? = some (.cells #[.int .u64 t366, .int .u64 t367] 52 (0, 0))) ∧ Aside0 (Below w.heap.size w wc))
  case first =>
   have H := HC4.out
   clear HC4
   by_cases c8 : t368 = 0
   ·rw [if_pos c8] at H
    have c8b0 : (t368 == 0) = true := beq_iff_eq.mpr c8
    have c8b1 : (t368 != 0) = false := bne_eq_false_iff_eq.mpr c8
    clear c8
    (first | rw [c8b0] | (simp only [i64_w, i32_w]; rw [c8b0]) | skip)
    by_cases c9 : a1 < 0
    ·rw [if_pos c9] at H
     have c9b0 : decide (a1 < 0) = true := decide_eq_true c9
     clear c9
     have H' := ak_ H
     clear H
     go_wp2
     go_meet
     case rel => exact ⟨_, (true), (by first | rfl | (simp; done) | (simp [*]; done)), H', ⟨by first | omega | exact Nat.le_refl _⟩, ⟨by (with_reducible repeat (first | refine kn_ ?_ _ | refine kd_ ?_ | refine ka_ ?_ _)); refine blk_put (cs := #[.int .u64 t366, .int .u64 0]) ?_ 1 _ rfl; (with_reducible repeat (first | refine kn_ ?_ _ | refine kd_ ?_ | refine ka_ ?_ _)); refine blk_put (cs := #[.int .u64 0, .int .u64 0]) ?_ 0 _ rfl; (with_reducible repeat (first | refine kn_ ?_ _ | refine kd_ ?_ | refine ka_ ?_ _)); exact BK369.out⟩, ⟨by repeat (first | (with_reducible first | exact HB.out | apply ba_ | apply bn_ | apply bd_ | refine below_set ?_ GE369.out) | exact HB.out)⟩⟩
    ·rw [if_neg c9] at H
     have c9b0 : decide (a1 < 0) = false := decide_eq_false c9
     clear c9
     by_cases c10 : a1 > 1024
     ·rw [if_pos c10] at H
      have c10b0 : decide (1024 < a1) = true := decide_eq_true c10
      clear c10
      have H' := ak_ H
      clear H
      go_wp2
      go_meet
      case rel => exact ⟨_, (true), (by first | rfl | (simp; done) | (simp [*]; done)), H', ⟨by first | omega | exact Nat.le_refl _⟩, ⟨by (with_reducible repeat (first | refine kn_ ?_ _ | refine kd_ ?_ | refine ka_ ?_ _)); refine blk_put (cs := #[.int .u64 t366, .int .u64 0]) ?_ 1 _ rfl; (with_reducible repeat (first | refine kn_ ?_ _ | refine kd_ ?_ | refine ka_ ?_ _)); refine blk_put (cs := #[.int .u64 0, .int .u64 0]) ?_ 0 _ rfl; (with_reducible repeat (first | refine kn_ ?_ _ | refine kd_ ?_ | refine ka_ ?_ _)); exact BK369.out⟩, ⟨by repeat (first | (with_reducible first | exact HB.out | apply ba_ | apply bn_ | apply bd_ | refine below_set ?_ GE369.out) | exact HB.out)⟩⟩
     ·rw [if_neg c10] at H
      have c10b0 : decide (1024 < a1) = false := decide_eq_false c10
      clear c10
      have H' := ak_ H
      clear H
      have hcz11_0 : w6.cell? ⟨gb369, 0, none⟩ = some (.int .u64 0) := (blk_cell BK369.out 0).trans rfl
      have hcz11_1 : w6.cell? ⟨gb369, 1, none⟩ = some (.int .u64 0) := (blk_cell BK369.out 1).trans rfl
      have hfz11_0 := blk_frozen BK369.out 0
      have hfz11_1 := blk_frozen BK369.out 1
      go_wp2
      go_meet
      case rel => exact ⟨_, (decide ((IntKind.u64.wrap (a1)) > (IntKind.u64.wrap (t367 + 1)))), (by first | rfl | (simp; done) | (simp [*]; done)), H', ⟨by first | omega | exact Nat.le_refl _⟩, ⟨by (with_reducible repeat (first | refine kn_ ?_ _ | refine kd_ ?_ | refine ka_ ?_ _)); refine blk_put (cs := #[.int .u64 t366, .int .u64 0]) ?_ 1 _ rfl; (with_reducible repeat (first | refine kn_ ?_ _ | refine kd_ ?_ | refine ka_ ?_ _)); refine blk_put (cs := #[.int .u64 0, .int .u64 0]) ?_ 0 _ rfl; (with_reducible repeat (first | refine kn_ ?_ _ | refine kd_ ?_ | refine ka_ ?_ _)); exact BK369.out⟩, ⟨by repeat (first | (with_reducible first | exact HB.out | apply ba_ | apply bn_ | apply bd_ | refine below_set ?_ GE369.out) | exact HB.out)⟩⟩
   ·rw [if_neg c8] at H
    have c8b0 : (t368 == 0) = false := beq_eq_false_iff_ne.mpr c8
    have c8b1 : (t368 != 0) = true := bne_iff_ne.mpr c8
    (first | rw [c8b0] | (simp only [i64_w, i32_w]; rw [c8b0]) | skip)
    have H' := ak_ H
    clear H
    go_wp2
    go_meet
    case rel => exact ⟨_, (true), (by first | rfl | (simp; done) | (simp [*]; done)), H', ⟨by first | omega | exact Nat.le_refl _⟩, ⟨by (with_reducible repeat (first | refine kn_ ?_ _ | refine kd_ ?_ | refine ka_ ?_ _)); refine blk_put (cs := #[.int .u64 t366, .int .u64 0]) ?_ 1 _ rfl; (with_reducible repeat (first | refine kn_ ?_ _ | refine kd_ ?_ | refine ka_ ?_ _)); refine blk_put (cs := #[.int .u64 0, .int .u64 0]) ?_ 0 _ rfl; (with_reducible repeat (first | refine kn_ ?_ _ | refine kd_ ?_ | refine ka_ ?_ _)); exact BK369.out⟩, ⟨by repeat (first | (with_reducible first | exact HB.out | apply ba_ | apply bn_ | apply bd_ | refine below_set ?_ GE369.out) | exact HB.out)⟩⟩
  case rest =>
   clear HC4
   try clear c1
   try clear p2
   try clear c5
   try clear c8
   try clear c8b0
   try clear c8b1
   try clear c9
   try clear c9b0
   try clear c10
   try clear c10b0
   try clear hcz11_0
   try clear hcz11_1
   try clear hcz7_0
   try clear hcz7_1
   try clear hfz11_0
   try clear hfz11_1
   try clear hfz7_0
   try clear hfz7_1
   obtain ⟨kq, x13_3, rfl, HA, HJ3, BK369, HB⟩ := hcut
   cases kq with
   | zero => exact absurd HA.out (by simp [whole_Bound.j0])
   | succ kj3 =>
    have H := HA.out
    clear HA
    simp only [whole_Bound.j0] at H
    by_cases c12 : x13_3 = true
    ·subst c12
     have H1 : (some (0, 1)) = some (r1, r2) := by rw [if_pos rfl] at H; exact H
     clear H
     have H := H1
     clear H1
     simp only [Option.some.injEq, Prod.mk.injEq] at H
     obtain ⟨rfl, rfl⟩ := H
     go_wp2
     go_ret2
     exact ⟨by first | rfl | (simp <;> rfl) | (simp [*] <;> rfl), by repeat (first | (with_reducible first | exact HB.out | apply ba_ | apply bn_ | apply bd_ | refine below_set ?_ GE369.out) | exact HB.out)⟩
    ·replace c12 := Bool.eq_false_iff.mpr c12
     subst c12
     have H1 : (if a1 = 0 then (some (1, 0)) else ((bits_Len.f kj3 (IntKind.u64.wrap (a1))).bind fun t370 => (some (IntKind.u64.wrap (wrap64 (a1 * (wrap64 ((wrap64 (a0 + 1)) - t370)))), 0)))) = some (r1, r2) := by rw [if_neg (show ¬ (false = true) by decide)] at H; exact H
     clear H
     have H := H1
     clear H1
     by_cases c13 : a1 = 0
     ·rw [if_pos c13] at H
      have c13b0 : (a1 == 0) = true := beq_iff_eq.mpr c13
      have c13b1 : (a1 != 0) = false := bne_eq_false_iff_eq.mpr c13
      clear c13
      simp only [Option.some.injEq, Prod.mk.injEq] at H
      obtain ⟨rfl, rfl⟩ := H
      go_wp2
      go_ret2
      exact ⟨by first | rfl | (simp <;> rfl) | (simp [*] <;> rfl), by repeat (first | (with_reducible first | exact HB.out | apply ba_ | apply bn_ | apply bd_ | refine below_set ?_ GE369.out) | exact HB.out)⟩
     ·rw [if_neg c13] at H
      have c13b0 : (a1 == 0) = false := beq_eq_false_iff_ne.mpr c13
      have c13b1 : (a1 != 0) = true := bne_iff_ne.mpr c13
      replace H := Option.bind_eq_some_iff.mp H
      obtain ⟨t370, A140, H⟩ := H
      replace H : (some (IntKind.u64.wrap (wrap64 (a1 * (wrap64 ((wrap64 (a0 + 1)) - t370)))), 0)) = some (r1, r2) := H
      have A14 := ak_ A140
      clear A140
      simp only [Option.some.injEq, Prod.mk.injEq] at H
      obtain ⟨rfl, rfl⟩ := H
      go_wp2_with (first | ((with_reducible refine gate_callee (f := 92) rfl ?_); refine goesL_ (some 40) rfl rfl Try.func92 (by kernel_rfl) rfl #[.int .u64 (IntKind.u64.wrap (a1))] rfl (by (try simp only [map_toArray, map_cons, map_nil]); first | done | rfl | (simp only [length_drop, length_take]; rfl)) ?_; (with_reducible refine (bits_Len.calls kj3 (IntKind.u64.wrap (a1)) t370 _ A14.out).mono ?_); rintro e w' ⟨rfl, ⟨nd, rfl⟩⟩; refine ⟨_, rfl, ?_⟩))
      go_ret2
      exact ⟨by first | rfl | (simp <;> rfl) | (simp [*] <;> rfl), by repeat (first | (with_reducible first | exact HB.out | apply ba_ | apply bn_ | apply bd_ | refine below_set ?_ GE369.out) | exact HB.out)⟩

/-! ### diff_Bound: function 17 -/
def diff_Bound.f (k : Nat) (a0 : Int) (a1 : Int) : Option (Int × Int) := (whole_Bound.f k a0 a1).bind fun bt371 => (if bt371.2 = 0 then (if a1 > 0 then (some (IntKind.u64.wrap ((IntKind.u64.wrap ((IntKind.u64.wrap (a1)) * 2)) - 1), bt371.2)) else (some (bt371.1, bt371.2))) else (some (bt371.1, bt371.2)))
theorem diff_Bound.mono : ∀ a0 a1 k, LeO (diff_Bound.f k a0 a1) (diff_Bound.f (k + 1) a0 a1) := by
  intro a0 a1 k
  unfold diff_Bound.f
  repeat' first
    | (with_reducible exact whole_Bound.mono _ _ _)
    | (with_reducible exact LeO.refl _)
    | (with_reducible exact LeO.none _)
    | (with_reducible refine LeO.ite ?_ ?_)
    | (with_reducible refine LeO.bind ?_ (fun _ => ?_))
    | exact whole_Bound.mono _ _ _
    | exact LeO.none _
    | refine LeO.ite ?_ ?_
    | refine LeO.bind ?_ (fun _ => ?_)
set_option maxHeartbeats 8000000 in
set_option maxRecDepth 100000 in
theorem diff_Bound.calls (k : Nat) (a0 : Int) (a1 : Int) (r1 : Int) (r2 : Int) (w : World) (h : diff_Bound.f k a0 a1 = some (r1, r2)) :
   Calls Try.prog 17 #[.int .i64 a0, .int .i64 a1] w fun e w' => e = .returned (.tuple #[.int .u64 r1, .int .i64 r2]) ∧ Below w.heap.size w w' := by
  have HB := ak_ (Below.refl w.heap.size w)
  have H : ((whole_Bound.f k a0 a1).bind fun bt371 => (if bt371.2 = 0 then (if a1 > 0 then (some (IntKind.u64.wrap ((IntKind.u64.wrap ((IntKind.u64.wrap (a1)) * 2)) - 1), bt371.2)) else (some (bt371.1, bt371.2))) else (some (bt371.1, bt371.2)))) = some (r1, r2) := h
  clear h
  replace H := Option.bind_eq_some_iff.mp H
  obtain ⟨⟨t371, t372⟩, A30, H⟩ := H
  replace H : (if t372 = 0 then (if a1 > 0 then (some (IntKind.u64.wrap ((IntKind.u64.wrap ((IntKind.u64.wrap (a1)) * 2)) - 1), t372)) else (some (t371, t372))) else (some (t371, t372))) = some (r1, r2) := H
  have A3 := ak_ A30
  clear A30
  by_cases c4 : t372 = 0
  ·rw [if_pos c4] at H
   have c4b0 : (t372 == 0) = true := beq_iff_eq.mpr c4
   have c4b1 : (t372 != 0) = false := bne_eq_false_iff_eq.mpr c4
   clear c4
   by_cases c5 : a1 > 0
   ·rw [if_pos c5] at H
    have c5b0 : decide (0 < a1) = true := decide_eq_true c5
    clear c5
    simp only [Option.some.injEq, Prod.mk.injEq] at H
    obtain ⟨rfl, rfl⟩ := H
    go_enter Try.func17, Try.ntmps17
    go_wp2_with (first | ((with_reducible refine gate_callee (f := 50) rfl ?_); refine goesL_ (some 11) rfl rfl Try.func50 (by kernel_rfl) rfl #[.int .i64 a0, .int .i64 a1] rfl (by (try simp only [map_toArray, map_cons, map_nil]); first | done | rfl | (simp only [length_drop, length_take]; rfl)) ?_; (with_reducible refine (whole_Bound.calls k a0 a1 t371 t372 _ A3.out).mono ?_); rintro e w6 ⟨rfl, hb⟩; refine ⟨_, rfl, ?_⟩; have n0_ := ak_ (below_step (by repeat (first | (with_reducible first | exact HB.out | apply ba_ | apply bn_ | apply bd_) | exact HB.out)) hb); clear HB; have HB := n0_; clear n0_; (try clear hb); (try clear hb2); (try clear hk); (try clear hi)))
    go_ret2
    exact ⟨by first | rfl | (simp <;> rfl) | (simp [*] <;> rfl), by repeat (first | (with_reducible first | exact HB.out | apply ba_ | apply bn_ | apply bd_) | exact HB.out)⟩
   ·rw [if_neg c5] at H
    have c5b0 : decide (0 < a1) = false := decide_eq_false c5
    clear c5
    simp only [Option.some.injEq, Prod.mk.injEq] at H
    obtain ⟨rfl, rfl⟩ := H
    go_enter Try.func17, Try.ntmps17
    go_wp2_with (first | ((with_reducible refine gate_callee (f := 50) rfl ?_); refine goesL_ (some 11) rfl rfl Try.func50 (by kernel_rfl) rfl #[.int .i64 a0, .int .i64 a1] rfl (by (try simp only [map_toArray, map_cons, map_nil]); first | done | rfl | (simp only [length_drop, length_take]; rfl)) ?_; (with_reducible refine (whole_Bound.calls k a0 a1 t371 t372 _ A3.out).mono ?_); rintro e w7 ⟨rfl, hb⟩; refine ⟨_, rfl, ?_⟩; have n0_ := ak_ (below_step (by repeat (first | (with_reducible first | exact HB.out | apply ba_ | apply bn_ | apply bd_) | exact HB.out)) hb); clear HB; have HB := n0_; clear n0_; (try clear hb); (try clear hb2); (try clear hk); (try clear hi)))
    go_ret2
    exact ⟨by first | rfl | (simp <;> rfl) | (simp [*] <;> rfl), by repeat (first | (with_reducible first | exact HB.out | apply ba_ | apply bn_ | apply bd_) | exact HB.out)⟩
  ·rw [if_neg c4] at H
   have c4b0 : (t372 == 0) = false := beq_eq_false_iff_ne.mpr c4
   have c4b1 : (t372 != 0) = true := bne_iff_ne.mpr c4
   simp only [Option.some.injEq, Prod.mk.injEq] at H
   obtain ⟨rfl, rfl⟩ := H
   go_enter Try.func17, Try.ntmps17
   go_wp2_with (first | ((with_reducible refine gate_callee (f := 50) rfl ?_); refine goesL_ (some 11) rfl rfl Try.func50 (by kernel_rfl) rfl #[.int .i64 a0, .int .i64 a1] rfl (by (try simp only [map_toArray, map_cons, map_nil]); first | done | rfl | (simp only [length_drop, length_take]; rfl)) ?_; (with_reducible refine (whole_Bound.calls k a0 a1 t371 t372 _ A3.out).mono ?_); rintro e w8 ⟨rfl, hb⟩; refine ⟨_, rfl, ?_⟩; have n0_ := ak_ (below_step (by repeat (first | (with_reducible first | exact HB.out | apply ba_ | apply bn_ | apply bd_) | exact HB.out)) hb); clear HB; have HB := n0_; clear n0_; (try clear hb); (try clear hb2); (try clear hk); (try clear hi)))
   go_ret2
   exact ⟨by first | rfl | (simp <;> rfl) | (simp [*] <;> rfl), by repeat (first | (with_reducible first | exact HB.out | apply ba_ | apply bn_ | apply bd_) | exact HB.out)⟩

/-! ### layer_Bound: function 34 -/
def layer_Bound.f (k : Nat) (a0 : Int) (a1 : Int) (a2 : Int) : Option (Int × Int) := (layer_check.f k a0 a1).bind fun t373 => (if t373 = 0 then (if a1 = 1 then ((whole_Bound.f k a0 a2).bind fun bt374 => (some (bt374.1, bt374.2))) else (if a1 = 3 then ((diff_Bound.f k a0 a2).bind fun bt376 => (some (IntKind.u64.wrap (bt376.1 * 2 ^ (mx (mn a2 1) 0).toNat), bt376.2))) else ((diff_Bound.f k a0 a2).bind fun bt378 => (some (IntKind.u64.wrap (bt378.1 * 2 ^ (mx 0 0).toNat), bt378.2))))) else (some (0, t373)))
theorem layer_Bound.mono : ∀ a0 a1 a2 k, LeO (layer_Bound.f k a0 a1 a2) (layer_Bound.f (k + 1) a0 a1 a2) := by
  intro a0 a1 a2 k
  unfold layer_Bound.f
  repeat' first
    | (with_reducible exact diff_Bound.mono _ _ _)
    | (with_reducible exact layer_check.mono _ _ _)
    | (with_reducible exact whole_Bound.mono _ _ _)
    | (with_reducible exact LeO.refl _)
    | (with_reducible exact LeO.none _)
    | (with_reducible refine LeO.ite ?_ ?_)
    | (with_reducible refine LeO.bind ?_ (fun _ => ?_))
    | exact diff_Bound.mono _ _ _
    | exact layer_check.mono _ _ _
    | exact whole_Bound.mono _ _ _
    | exact LeO.none _
    | refine LeO.ite ?_ ?_
    | refine LeO.bind ?_ (fun _ => ?_)
set_option maxHeartbeats 8000000 in
set_option maxRecDepth 100000 in
theorem layer_Bound.calls (k : Nat) (a0 : Int) (a1 : Int) (a2 : Int) (r1 : Int) (r2 : Int) (w : World) (h : layer_Bound.f k a0 a1 a2 = some (r1, r2)) :
   Calls Try.prog 34 #[.int .i64 a0, .int .i64 a1, .int .i64 a2] w fun e w' => e = .returned (.tuple #[.int .u64 r1, .int .i64 r2]) ∧ Below w.heap.size w w' := by
  have HB := ak_ (Below.refl w.heap.size w)
  have H : ((layer_check.f k a0 a1).bind fun t373 => (if t373 = 0 then (if a1 = 1 then ((whole_Bound.f k a0 a2).bind fun bt374 => (some (bt374.1, bt374.2))) else (if a1 = 3 then ((diff_Bound.f k a0 a2).bind fun bt376 => (some (IntKind.u64.wrap (bt376.1 * 2 ^ (mx (mn a2 1) 0).toNat), bt376.2))) else ((diff_Bound.f k a0 a2).bind fun bt378 => (some (IntKind.u64.wrap (bt378.1 * 2 ^ (mx 0 0).toNat), bt378.2))))) else (some (0, t373)))) = some (r1, r2) := h
  clear h
  replace H := Option.bind_eq_some_iff.mp H
  obtain ⟨t373, A40, H⟩ := H
  replace H : (if t373 = 0 then (if a1 = 1 then ((whole_Bound.f k a0 a2).bind fun bt374 => (some (bt374.1, bt374.2))) else (if a1 = 3 then ((diff_Bound.f k a0 a2).bind fun bt376 => (some (IntKind.u64.wrap (bt376.1 * 2 ^ (mx (mn a2 1) 0).toNat), bt376.2))) else ((diff_Bound.f k a0 a2).bind fun bt378 => (some (IntKind.u64.wrap (bt378.1 * 2 ^ (mx 0 0).toNat), bt378.2))))) else (some (0, t373))) = some (r1, r2) := H
  have A4 := ak_ A40
  clear A40
  by_cases c5 : t373 = 0
  ·rw [if_pos c5] at H
   have c5b0 : (t373 == 0) = true := beq_iff_eq.mpr c5
   have c5b1 : (t373 != 0) = false := bne_eq_false_iff_eq.mpr c5
   clear c5
   by_cases c6 : a1 = 1
   ·rw [if_pos c6] at H
    have c6b0 : (a1 == 1) = true := beq_iff_eq.mpr c6
    have c6b1 : (a1 != 1) = false := bne_eq_false_iff_eq.mpr c6
    clear c6
    replace H := Option.bind_eq_some_iff.mp H
    obtain ⟨⟨t374, t375⟩, A70, H⟩ := H
    replace H : (some (t374, t375)) = some (r1, r2) := H
    have A7 := ak_ A70
    clear A70
    simp only [Option.some.injEq, Prod.mk.injEq] at H
    obtain ⟨rfl, rfl⟩ := H
    go_enter Try.func34, Try.ntmps34
    go_wp2_with (first | ((with_reducible refine gate_callee (f := 73) rfl ?_); refine goesL_ (some 11) rfl rfl Try.func73 (by kernel_rfl) rfl #[.int .i64 a0, .int .i64 a1] rfl (by (try simp only [map_toArray, map_cons, map_nil]); first | done | rfl | (simp only [length_drop, length_take]; rfl)) ?_; (with_reducible refine (layer_check.calls k a0 a1 t373 _ A4.out).mono ?_); rintro e w' ⟨rfl, ⟨nd, rfl⟩⟩; refine ⟨_, rfl, ?_⟩) | ((with_reducible refine gate_callee (f := 50) rfl ?_); refine goesL_ (some 22) rfl rfl Try.func50 (by kernel_rfl) rfl #[.int .i64 a0, .int .i64 a2] rfl (by (try simp only [map_toArray, map_cons, map_nil]); first | done | rfl | (simp only [length_drop, length_take]; rfl)) ?_; (with_reducible refine (whole_Bound.calls k a0 a2 t374 t375 _ A7.out).mono ?_); rintro e w8 ⟨rfl, hb⟩; refine ⟨_, rfl, ?_⟩; have n0_ := ak_ (below_step (by repeat (first | (with_reducible first | exact HB.out | apply ba_ | apply bn_ | apply bd_) | exact HB.out)) hb); clear HB; have HB := n0_; clear n0_; (try clear hb); (try clear hb2); (try clear hk); (try clear hi)))
    go_ret2
    exact ⟨by first | rfl | (simp <;> rfl) | (simp [*] <;> rfl), by repeat (first | (with_reducible first | exact HB.out | apply ba_ | apply bn_ | apply bd_) | exact HB.out)⟩
   ·rw [if_neg c6] at H
    have c6b0 : (a1 == 1) = false := beq_eq_false_iff_ne.mpr c6
    have c6b1 : (a1 != 1) = true := bne_iff_ne.mpr c6
    by_cases c9 : a1 = 3
    ·rw [if_pos c9] at H
     have c9b0 : (a1 == 3) = true := beq_iff_eq.mpr c9
     have c9b1 : (a1 != 3) = false := bne_eq_false_iff_eq.mpr c9
     clear c9
     obtain ⟨ji10, hji10⟩ : ∃ j_ : Int, (mn a2 1) = j_ := ⟨_, rfl⟩
     replace H : ((diff_Bound.f k a0 a2).bind fun bt376 => (some (IntKind.u64.wrap (bt376.1 * 2 ^ (mx (ji10) 0).toNat), bt376.2))) = some (r1, r2) := by first | (rw [hji10] at H; exact H) | (simp only [hji10] at H ⊢; exact H)
     (try rw [hji10] at A4)
     (try (have hji10h : ji10 ≤ 1 := by (rw [← hji10]; unfold mn; (repeat' split) <;> omega)))
     (try (have hji10g : ji10 ≤ 64 := by omega))
     have hji10_ : (if 1 < a2 then 1 else a2) = ji10 := hji10
     replace H := Option.bind_eq_some_iff.mp H
     obtain ⟨⟨t376, t377⟩, A110, H⟩ := H
     replace H : (some (IntKind.u64.wrap (t376 * 2 ^ (mx (ji10) 0).toNat), t377)) = some (r1, r2) := H
     have A11 := ak_ A110
     clear A110
     obtain ⟨ji12, hji12⟩ : ∃ j_ : Int, (mx (ji10) 0) = j_ := ⟨_, rfl⟩
     replace H : (some (IntKind.u64.wrap (t376 * 2 ^ (ji12).toNat), t377)) = some (r1, r2) := by first | (rw [hji12] at H; exact H) | (simp only [hji12] at H ⊢; exact H)
     (try rw [hji12] at A4)
     (try rw [hji12] at A11)
     have hji12_ : (if (ji10) < 0 then 0 else (ji10)) = ji12 := hji12
     simp only [Option.some.injEq, Prod.mk.injEq] at H
     obtain ⟨rfl, rfl⟩ := H
     go_enter Try.func34, Try.ntmps34
     go_wp2_with (first | ((with_reducible refine gate_callee (f := 73) rfl ?_); refine goesL_ (some 11) rfl rfl Try.func73 (by kernel_rfl) rfl #[.int .i64 a0, .int .i64 a1] rfl (by (try simp only [map_toArray, map_cons, map_nil]); first | done | rfl | (simp only [length_drop, length_take]; rfl)) ?_; (with_reducible refine (layer_check.calls k a0 a1 t373 _ A4.out).mono ?_); rintro e w' ⟨rfl, ⟨nd, rfl⟩⟩; refine ⟨_, rfl, ?_⟩) | ((with_reducible refine gate_callee (f := 17) rfl ?_); refine goesL_ (some 30) rfl rfl Try.func17 (by kernel_rfl) rfl #[.int .i64 a0, .int .i64 a2] rfl (by (try simp only [map_toArray, map_cons, map_nil]); first | done | rfl | (simp only [length_drop, length_take]; rfl)) ?_; (with_reducible refine (diff_Bound.calls k a0 a2 t376 t377 _ A11.out).mono ?_); rintro e w13 ⟨rfl, hb⟩; refine ⟨_, rfl, ?_⟩; have n0_ := ak_ (below_step (by repeat (first | (with_reducible first | exact HB.out | apply ba_ | apply bn_ | apply bd_) | exact HB.out)) hb); clear HB; have HB := n0_; clear n0_; (try clear hb); (try clear hb2); (try clear hk); (try clear hi)))
     go_ret2
     exact ⟨by first | rfl | ((have z_ : ji12 = 0 := (by omega)); rw [z_]; simp; done) | (simp <;> rfl) | (simp only [← hji10, ← hji12]; first | rfl | (simp <;> rfl)) | (simp [*] <;> rfl), by repeat (first | (with_reducible first | exact HB.out | apply ba_ | apply bn_ | apply bd_) | exact HB.out)⟩
    ·rw [if_neg c9] at H
     have c9b0 : (a1 == 3) = false := beq_eq_false_iff_ne.mpr c9
     have c9b1 : (a1 != 3) = true := bne_iff_ne.mpr c9
     replace H := Option.bind_eq_some_iff.mp H
     obtain ⟨⟨t378, t379⟩, A140, H⟩ := H
     replace H : (some (IntKind.u64.wrap (t378 * 2 ^ (mx 0 0).toNat), t379)) = some (r1, r2) := H
     have A14 := ak_ A140
     clear A140
     obtain ⟨ji15, hji15⟩ : ∃ j_ : Int, (mx 0 0) = j_ := ⟨_, rfl⟩
     replace H : (some (IntKind.u64.wrap (t378 * 2 ^ (ji15).toNat), t379)) = some (r1, r2) := by first | (rw [hji15] at H; exact H) | (simp only [hji15] at H ⊢; exact H)
     (try rw [hji15] at A4)
     (try rw [hji15] at A14)
     (try (have hji15h : ji15 ≤ 0 := by (rw [← hji15]; unfold mx; (repeat' split) <;> omega)))
     (try (have hji15g : ji15 ≤ 64 := by omega))
     (try (have hji15l : 0 ≤ ji15 := by (rw [← hji15]; unfold mx; (repeat' split) <;> omega)))
     (try (have hji15m : 0 ≤ ji15 := by omega))
     have hji15_ : (if 0 < 0 then 0 else 0) = ji15 := hji15
     simp only [Option.some.injEq, Prod.mk.injEq] at H
     obtain ⟨rfl, rfl⟩ := H
     go_enter Try.func34, Try.ntmps34
     go_wp2_with (first | ((with_reducible refine gate_callee (f := 73) rfl ?_); refine goesL_ (some 11) rfl rfl Try.func73 (by kernel_rfl) rfl #[.int .i64 a0, .int .i64 a1] rfl (by (try simp only [map_toArray, map_cons, map_nil]); first | done | rfl | (simp only [length_drop, length_take]; rfl)) ?_; (with_reducible refine (layer_check.calls k a0 a1 t373 _ A4.out).mono ?_); rintro e w' ⟨rfl, ⟨nd, rfl⟩⟩; refine ⟨_, rfl, ?_⟩) | ((with_reducible refine gate_callee (f := 17) rfl ?_); refine goesL_ (some 30) rfl rfl Try.func17 (by kernel_rfl) rfl #[.int .i64 a0, .int .i64 a2] rfl (by (try simp only [map_toArray, map_cons, map_nil]); first | done | rfl | (simp only [length_drop, length_take]; rfl)) ?_; (with_reducible refine (diff_Bound.calls k a0 a2 t378 t379 _ A14.out).mono ?_); rintro e w16 ⟨rfl, hb⟩; refine ⟨_, rfl, ?_⟩; have n0_ := ak_ (below_step (by repeat (first | (with_reducible first | exact HB.out | apply ba_ | apply bn_ | apply bd_) | exact HB.out)) hb); clear HB; have HB := n0_; clear n0_; (try clear hb); (try clear hb2); (try clear hk); (try clear hi)))
     go_ret2
     exact ⟨by first | rfl | ((have z_ : ji15 = 0 := (by omega)); rw [z_]; simp; done) | (simp <;> rfl) | (simp only [← hji15]; first | rfl | (simp <;> rfl)) | (simp [*] <;> rfl), by repeat (first | (with_reducible first | exact HB.out | apply ba_ | apply bn_ | apply bd_) | exact HB.out)⟩
  ·rw [if_neg c5] at H
   have c5b0 : (t373 == 0) = false := beq_eq_false_iff_ne.mpr c5
   have c5b1 : (t373 != 0) = true := bne_iff_ne.mpr c5
   simp only [Option.some.injEq, Prod.mk.injEq] at H
   obtain ⟨rfl, rfl⟩ := H
   go_enter Try.func34, Try.ntmps34
   go_wp2_with (first | ((with_reducible refine gate_callee (f := 73) rfl ?_); refine goesL_ (some 11) rfl rfl Try.func73 (by kernel_rfl) rfl #[.int .i64 a0, .int .i64 a1] rfl (by (try simp only [map_toArray, map_cons, map_nil]); first | done | rfl | (simp only [length_drop, length_take]; rfl)) ?_; (with_reducible refine (layer_check.calls k a0 a1 t373 _ A4.out).mono ?_); rintro e w' ⟨rfl, ⟨nd, rfl⟩⟩; refine ⟨_, rfl, ?_⟩))
   go_ret2
   exact ⟨by first | rfl | (simp <;> rfl) | (simp [*] <;> rfl), by repeat (first | (with_reducible first | exact HB.out | apply ba_ | apply bn_ | apply bd_) | exact HB.out)⟩

/-! ### layer_May: function 37 -/
def layer_May.j0 : Nat → Int → Int → Bool → Int → Int → Option (Bool × Int)
  | 0, _, _, _, _, _ => none
  | k + 1, x0, x1, x17, x381000, x381001 => if x17 = true then (some (false, 1)) else (if x1 = 1 then (some ((x381001 == 0), 0)) else (if x1 = 2 then (if x381001 = 0 then (some ((x381000 == 1), 0)) else (some (true, 0))) else ((sub_Useful.f k x0 x381000 x381001).bind fun bt383 => (some (bt383.1, bt383.2)))))
def layer_May.f (k : Nat) (a0 : Int) (a1 : Int) (a2_0 : Int) (a2_1 : Int) : Option (Bool × Int) := (layer_check.f k a0 a1).bind fun t381 => (if t381 = 0 then ((sub_Check.f k a0 a2_0 a2_1).bind fun t382 => (layer_May.j0 k a0 a1 (t382 != 0) a2_0 a2_1)) else (layer_May.j0 k a0 a1 true a2_0 a2_1))
theorem layer_May.mono_l : ∀ k, (∀ y0 y1 y2 y3 y4, LeO (layer_May.j0 k y0 y1 y2 y3 y4) (layer_May.j0 (k + 1) y0 y1 y2 y3 y4))
  | 0 => fun _ _ _ _ _ r h => by simp [layer_May.j0] at h
  | k + 1 => by
   have ih0 := layer_May.mono_l k
   ·intro y0 y1 y2 y3 y4
    unfold layer_May.j0
    repeat' first
    | (with_reducible exact ih0 _ _ _ _ _)
    | (with_reducible exact layer_check.mono _ _ _)
    | (with_reducible exact sub_Check.mono _ _ _ _)
    | (with_reducible exact sub_Useful.mono _ _ _ _)
    | (with_reducible exact LeO.refl _)
    | (with_reducible exact LeO.none _)
    | (with_reducible refine LeO.ite ?_ ?_)
    | (with_reducible refine LeO.bind ?_ (fun _ => ?_))
    | exact ih0 _ _ _ _ _
    | exact layer_check.mono _ _ _
    | exact sub_Check.mono _ _ _ _
    | exact sub_Useful.mono _ _ _ _
    | exact LeO.none _
    | refine LeO.ite ?_ ?_
    | refine LeO.bind ?_ (fun _ => ?_)
theorem layer_May.mono : ∀ a0 a1 a2 a3 k, LeO (layer_May.f k a0 a1 a2 a3) (layer_May.f (k + 1) a0 a1 a2 a3) := by
  intro a0 a1 a2 a3 k
  have ih0 := layer_May.mono_l k
  unfold layer_May.f
  repeat' first
    | (with_reducible exact ih0 _ _ _ _ _)
    | (with_reducible exact layer_check.mono _ _ _)
    | (with_reducible exact sub_Check.mono _ _ _ _)
    | (with_reducible exact sub_Useful.mono _ _ _ _)
    | (with_reducible exact LeO.refl _)
    | (with_reducible exact LeO.none _)
    | (with_reducible refine LeO.ite ?_ ?_)
    | (with_reducible refine LeO.bind ?_ (fun _ => ?_))
    | exact ih0 _ _ _ _ _
    | exact layer_check.mono _ _ _
    | exact sub_Check.mono _ _ _ _
    | exact sub_Useful.mono _ _ _ _
    | exact LeO.none _
    | refine LeO.ite ?_ ?_
    | refine LeO.bind ?_ (fun _ => ?_)
set_option maxHeartbeats 8000000 in
set_option maxRecDepth 100000 in
theorem layer_May.calls (k : Nat) (a0 : Int) (a1 : Int) (a2_0 : Int) (a2_1 : Int) (r1 : Bool) (r2 : Int) (w : World) (h : layer_May.f k a0 a1 a2_0 a2_1 = some (r1, r2)) :
   Calls Try.prog 37 #[.int .i64 a0, .int .i64 a1, .agg #[.int .u64 a2_0, .int .u64 a2_1]] w fun e w' => e = .returned (.tuple #[.bool r1, .int .i64 r2]) ∧ Below w.heap.size w w' := by
  have hu34 := Try.underlying34
  have HB := ak_ (Below.refl w.heap.size w)
  have H : ((layer_check.f k a0 a1).bind fun t381 => (if t381 = 0 then ((sub_Check.f k a0 a2_0 a2_1).bind fun t382 => (layer_May.j0 k a0 a1 (t382 != 0) a2_0 a2_1)) else (layer_May.j0 k a0 a1 true a2_0 a2_1))) = some (r1, r2) := h
  clear h
  have HC4 := ak_ H
  clear H
  go_enter Try.func37, Try.ntmps37
  go_upto_region 1 with (first | ((with_reducible refine gate_dst (N := 5) rfl ?_); refine box_event ?hg (N := 5) ?hd (cs := #[.int .u64 a2_0, .int .u64 a2_1]) (t := 34) ?hr ?_; (case hd => rfl); (case hg => rfl); (case hr => first | (go_simp; done) | (go_simp; rfl)); intro gb380 hg w5 hbox hb; have n0_ := ak_ (below_step (by repeat (first | (with_reducible first | exact HB.out | apply ba_ | apply bn_ | apply bd_) | exact HB.out)) hb); have n1_ := ak_ (hbox); have n2_ := ak_ ((by rw [hg]; exact (below_size (by repeat (first | (with_reducible first | exact HB.out | apply ba_ | apply bn_ | apply bd_) | exact HB.out))) : w.heap.size ≤ gb380)); have n3_ := ak_ ((by rw [hg]; exact (below_size (by repeat (first | (with_reducible first | exact HB.out | apply ba_ | apply bn_ | apply bd_) | exact HB.out))) : w.heap.size ≤ gb380)); clear HB; have HB := n0_; have BK380 := n1_; have GW380 := n2_; have GE380 := n3_; clear n0_ n1_ n2_ n3_; clear hb hbox hg))
  (try simp only [Act.put, setIfInBounds_toArray, set_cons_zero, set_cons_succ])
  go_cut [17] (fun v17 wc => ∃ (kq : Nat) (x17_3 : Bool), v17 = .bool x17_3 ∧ Aside0 (layer_May.j0 kq a0 a1 x17_3 a2_0 a2_1 = some (r1, r2)) ∧ Aside0 (kq ≤ k) ∧ Aside0 (wc.heap[gb380]? = some (.cells #[.int .u64 a2_0, .int .u64 a2_1] 34 (0, 0))) ∧ Aside0 (Below w.heap.size w wc))
  case first =>
   have H := HC4.out
   clear HC4
   replace H := Option.bind_eq_some_iff.mp H
   obtain ⟨t381, A60, H⟩ := H
   replace H : (if t381 = 0 then ((sub_Check.f k a0 a2_0 a2_1).bind fun t382 => (layer_May.j0 k a0 a1 (t382 != 0) a2_0 a2_1)) else (layer_May.j0 k a0 a1 true a2_0 a2_1)) = some (r1, r2) := H
   have A6 := ak_ A60
   clear A60
   by_cases c7 : t381 = 0
   ·rw [if_pos c7] at H
    have c7b0 : (t381 == 0) = true := beq_iff_eq.mpr c7
    have c7b1 : (t381 != 0) = false := bne_eq_false_iff_eq.mpr c7
    clear c7
    (first | rw [c7b0] | (simp only [i64_w, i32_w]; rw [c7b0]) | skip)
    replace H := Option.bind_eq_some_iff.mp H
    obtain ⟨t382, A80, H⟩ := H
    replace H : (layer_May.j0 k a0 a1 (t382 != 0) a2_0 a2_1) = some (r1, r2) := H
    have A8 := ak_ A80
    clear A80
    have H' := ak_ H
    clear H
    go_wp2_with (first | ((with_reducible refine gate_callee (f := 73) rfl ?_); refine goesL_ (some 10) rfl rfl Try.func73 (by kernel_rfl) rfl #[.int .i64 a0, .int .i64 a1] rfl (by (try simp only [map_toArray, map_cons, map_nil]); first | done | rfl | (simp only [length_drop, length_take]; rfl)) ?_; (with_reducible refine (layer_check.calls k a0 a1 t381 _ A6.out).mono ?_); rintro e w' ⟨rfl, ⟨nd, rfl⟩⟩; refine ⟨_, rfl, ?_⟩; have hcz9_0 : w5.cell? ⟨gb380, 0, none⟩ = some (.int .u64 a2_0) := (blk_cell BK380.out 0).trans rfl; have hcz9_1 : w5.cell? ⟨gb380, 1, none⟩ = some (.int .u64 a2_1) := (blk_cell BK380.out 1).trans rfl; have hfz9_0 := blk_frozen BK380.out 0; have hfz9_1 := blk_frozen BK380.out 1) | (go_at_call 75; (with_reducible refine (sub_Check.calls k a0 a2_0 a2_1 t382 _ A8.out).mono ?_); rintro e w10 ⟨rfl, hb⟩; have n0_ := ak_ (blk_below (g := gb380) (o := .cells #[.int .u64 a2_0, .int .u64 a2_1] 34 (0, 0)) (by (with_reducible repeat (first | refine kn_ ?_ _ | refine kd_ ?_ | refine ka_ ?_ _)); exact BK380.out) hb); have n1_ := ak_ (below_step (by repeat (first | (with_reducible first | exact HB.out | apply ba_ | apply bn_ | apply bd_ | refine below_set ?_ GE380.out) | exact HB.out)) hb); clear BK380; clear HB; have BK380 := n0_; have HB := n1_; clear n0_ n1_; (try clear hb); (try clear hb2); (try clear hk); (try clear hi)))
    go_meet
    case rel => exact ⟨_, ((t382 != 0)), (by first | rfl | (simp; done) | (simp [*]; done)), H', ⟨by first | omega | exact Nat.le_refl _⟩, ⟨by (with_reducible repeat (first | refine kn_ ?_ _ | refine kd_ ?_ | refine ka_ ?_ _)); exact BK380.out⟩, ⟨by repeat (first | (with_reducible first | exact HB.out | apply ba_ | apply bn_ | apply bd_ | refine below_set ?_ GE380.out) | exact HB.out)⟩⟩
   ·rw [if_neg c7] at H
    have c7b0 : (t381 == 0) = false := beq_eq_false_iff_ne.mpr c7
    have c7b1 : (t381 != 0) = true := bne_iff_ne.mpr c7
    (first | rw [c7b0] | (simp only [i64_w, i32_w]; rw [c7b0]) | skip)
    have H' := ak_ H
    clear H
    go_wp2_with (first | ((with_reducible refine gate_callee (f := 73) rfl ?_); refine goesL_ (some 10) rfl rfl Try.func73 (by kernel_rfl) rfl #[.int .i64 a0, .int .i64 a1] rfl (by (try simp only [map_toArray, map_cons, map_nil]); first | done | rfl | (simp only [length_drop, length_take]; rfl)) ?_; (with_reducible refine (layer_check.calls k a0 a1 t381 _ A6.out).mono ?_); rintro e w' ⟨rfl, ⟨nd, rfl⟩⟩; refine ⟨_, rfl, ?_⟩))
    go_meet
    case rel => exact ⟨_, (true), (by first | rfl | (simp; done) | (simp [*]; done)), H', ⟨by first | omega | exact Nat.le_refl _⟩, ⟨by (with_reducible repeat (first | refine kn_ ?_ _ | refine kd_ ?_ | refine ka_ ?_ _)); exact BK380.out⟩, ⟨by repeat (first | (with_reducible first | exact HB.out | apply ba_ | apply bn_ | apply bd_ | refine below_set ?_ GE380.out) | exact HB.out)⟩⟩
  case rest =>
   clear HC4
   try clear p2
   try clear c3
   try clear c7
   try clear c7b0
   try clear c7b1
   try clear hcz9_0
   try clear hcz9_1
   try clear hfz9_0
   try clear hfz9_1
   obtain ⟨kq, x17_3, rfl, HA, HJ3, BK380, HB⟩ := hcut
   cases kq with
   | zero => exact absurd HA.out (by simp [layer_May.j0])
   | succ kj3 =>
    have H := HA.out
    clear HA
    simp only [layer_May.j0] at H
    by_cases c11 : x17_3 = true
    ·subst c11
     have H1 : (some (false, 1)) = some (r1, r2) := by rw [if_pos rfl] at H; exact H
     clear H
     have H := H1
     clear H1
     simp only [Option.some.injEq, Prod.mk.injEq] at H
     obtain ⟨rfl, rfl⟩ := H
     go_wp2
     go_ret2
     exact ⟨by first | rfl | (simp <;> rfl) | (simp [*] <;> rfl), by repeat (first | (with_reducible first | exact HB.out | apply ba_ | apply bn_ | apply bd_ | refine below_set ?_ GE380.out) | exact HB.out)⟩
    ·replace c11 := Bool.eq_false_iff.mpr c11
     subst c11
     have H1 : (if a1 = 1 then (some ((a2_1 == 0), 0)) else (if a1 = 2 then (if a2_1 = 0 then (some ((a2_0 == 1), 0)) else (some (true, 0))) else ((sub_Useful.f kj3 a0 a2_0 a2_1).bind fun bt383 => (some (bt383.1, bt383.2))))) = some (r1, r2) := by rw [if_neg (show ¬ (false = true) by decide)] at H; exact H
     clear H
     have H := H1
     clear H1
     by_cases c12 : a1 = 1
     ·rw [if_pos c12] at H
      have c12b0 : (a1 == 1) = true := beq_iff_eq.mpr c12
      have c12b1 : (a1 != 1) = false := bne_eq_false_iff_eq.mpr c12
      clear c12
      simp only [Option.some.injEq, Prod.mk.injEq] at H
      obtain ⟨rfl, rfl⟩ := H
      have hcz13_0 : wc.cell? ⟨gb380, 0, none⟩ = some (.int .u64 a2_0) := (blk_cell BK380.out 0).trans rfl
      have hcz13_1 : wc.cell? ⟨gb380, 1, none⟩ = some (.int .u64 a2_1) := (blk_cell BK380.out 1).trans rfl
      have hfz13_0 := blk_frozen BK380.out 0
      have hfz13_1 := blk_frozen BK380.out 1
      go_wp2
      go_ret2
      exact ⟨by first | rfl | (simp <;> rfl) | (simp [*] <;> rfl), by repeat (first | (with_reducible first | exact HB.out | apply ba_ | apply bn_ | apply bd_ | refine below_set ?_ GE380.out) | exact HB.out)⟩
     ·rw [if_neg c12] at H
      have c12b0 : (a1 == 1) = false := beq_eq_false_iff_ne.mpr c12
      have c12b1 : (a1 != 1) = true := bne_iff_ne.mpr c12
      by_cases c14 : a1 = 2
      ·rw [if_pos c14] at H
       have c14b0 : (a1 == 2) = true := beq_iff_eq.mpr c14
       have c14b1 : (a1 != 2) = false := bne_eq_false_iff_eq.mpr c14
       clear c14
       by_cases c15 : a2_1 = 0
       ·rw [if_pos c15] at H
        have c15b0 : (a2_1 == 0) = true := beq_iff_eq.mpr c15
        have c15b1 : (a2_1 != 0) = false := bne_eq_false_iff_eq.mpr c15
        clear c15
        simp only [Option.some.injEq, Prod.mk.injEq] at H
        obtain ⟨rfl, rfl⟩ := H
        have hcz16_0 : wc.cell? ⟨gb380, 0, none⟩ = some (.int .u64 a2_0) := (blk_cell BK380.out 0).trans rfl
        have hcz16_1 : wc.cell? ⟨gb380, 1, none⟩ = some (.int .u64 a2_1) := (blk_cell BK380.out 1).trans rfl
        have hfz16_0 := blk_frozen BK380.out 0
        have hfz16_1 := blk_frozen BK380.out 1
        go_wp2
        go_ret2
        exact ⟨by first | rfl | (simp <;> rfl) | (simp [*] <;> rfl), by repeat (first | (with_reducible first | exact HB.out | apply ba_ | apply bn_ | apply bd_ | refine below_set ?_ GE380.out) | exact HB.out)⟩
       ·rw [if_neg c15] at H
        have c15b0 : (a2_1 == 0) = false := beq_eq_false_iff_ne.mpr c15
        have c15b1 : (a2_1 != 0) = true := bne_iff_ne.mpr c15
        simp only [Option.some.injEq, Prod.mk.injEq] at H
        obtain ⟨rfl, rfl⟩ := H
        have hcz17_0 : wc.cell? ⟨gb380, 0, none⟩ = some (.int .u64 a2_0) := (blk_cell BK380.out 0).trans rfl
        have hcz17_1 : wc.cell? ⟨gb380, 1, none⟩ = some (.int .u64 a2_1) := (blk_cell BK380.out 1).trans rfl
        have hfz17_0 := blk_frozen BK380.out 0
        have hfz17_1 := blk_frozen BK380.out 1
        go_wp2
        go_ret2
        exact ⟨by first | rfl | (simp <;> rfl) | (simp [*] <;> rfl), by repeat (first | (with_reducible first | exact HB.out | apply ba_ | apply bn_ | apply bd_ | refine below_set ?_ GE380.out) | exact HB.out)⟩
      ·rw [if_neg c14] at H
       have c14b0 : (a1 == 2) = false := beq_eq_false_iff_ne.mpr c14
       have c14b1 : (a1 != 2) = true := bne_iff_ne.mpr c14
       replace H := Option.bind_eq_some_iff.mp H
       obtain ⟨⟨t383, t384⟩, A180, H⟩ := H
       replace H : (some (t383, t384)) = some (r1, r2) := H
       have A18 := ak_ A180
       clear A180
       simp only [Option.some.injEq, Prod.mk.injEq] at H
       obtain ⟨rfl, rfl⟩ := H
       have hcz19_0 : wc.cell? ⟨gb380, 0, none⟩ = some (.int .u64 a2_0) := (blk_cell BK380.out 0).trans rfl
       have hcz19_1 : wc.cell? ⟨gb380, 1, none⟩ = some (.int .u64 a2_1) := (blk_cell BK380.out 1).trans rfl
       have hfz19_0 := blk_frozen BK380.out 0
       have hfz19_1 := blk_frozen BK380.out 1
       go_wp2_with (first | ((with_reducible refine gate_callee (f := 36) rfl ?_); refine goesL_ (some 36) rfl rfl Try.func36 (by kernel_rfl) rfl #[.int .i64 a0, .agg #[.int .u64 a2_0, .int .u64 a2_1]] rfl (by (try simp only [map_toArray, map_cons, map_nil]); first | done | rfl | (simp only [length_drop, length_take]; rfl)) ?_; (with_reducible refine (sub_Useful.calls kj3 a0 a2_0 a2_1 t383 t384 _ A18.out).mono ?_); rintro e w20 ⟨rfl, hb⟩; refine ⟨_, rfl, ?_⟩; have n0_ := ak_ (blk_below (g := gb380) (o := .cells #[.int .u64 a2_0, .int .u64 a2_1] 34 (0, 0)) (by (with_reducible repeat (first | refine kn_ ?_ _ | refine kd_ ?_ | refine ka_ ?_ _)); exact BK380.out) hb); have n1_ := ak_ (below_step (by repeat (first | (with_reducible first | exact HB.out | apply ba_ | apply bn_ | apply bd_ | refine below_set ?_ GE380.out) | exact HB.out)) hb); clear BK380; clear HB; have BK380 := n0_; have HB := n1_; clear n0_ n1_; (try clear hb); (try clear hb2); (try clear hk); (try clear hi)))
       go_ret2
       exact ⟨by first | rfl | (simp <;> rfl) | (simp [*] <;> rfl), by repeat (first | (with_reducible first | exact HB.out | apply ba_ | apply bn_ | apply bd_ | refine below_set ?_ GE380.out) | exact HB.out)⟩

end Go.Proofs.Ytmffkfakcbopcaa.MP
