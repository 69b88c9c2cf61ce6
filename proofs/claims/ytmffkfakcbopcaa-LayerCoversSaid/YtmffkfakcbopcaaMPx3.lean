-- written by a program of this session (wip/tools/mprint.sh) for this seat
import Derived.Test.YtmffkfakcbopcaaMPx0
import Derived.Test.YtmffkfakcbopcaaMPx1
import Derived.Test.YtmffkfakcbopcaaMPx2
import Derived.RangeFuncNested
import Derived.RangeFuncBound
import Derived.RangeFuncCalls
import Derived.RangeFuncLeaves
import Derived.Shelf.Abstract
import Derived.OwnWalkIn
import Derived.TacticsInMore
import Derived.LoopNIn
import Derived.LoopIn
import Derived.Maps.AppendAt
namespace Go.Proofs.Ytmffkfakcbopcaa.MP
open Go.RowKit Go.Proofs.YtmffkfakcbopcaaW.PrintWords Go.Proofs.YtmffkfakcbopcaaW.PrintLast Go.Proofs.YtmffkfakcbopcaaW.PrintMore
open List (setIfInBounds_toArray set_cons_zero set_cons_succ map_toArray map_cons map_nil length_drop length_take)
attribute [local go_sem] max2_int min2_int max_two min_two max_three min_three max_four min_four   -- for this text's walks alone
set_option linter.unusedVariables false
set_option linter.unusedSimpArgs false

attribute [local go_sem high] eqA34
/-! ### sub_Leaves: function 26 -/
def sub_Leaves.f (k : Nat) (a0 : Int) (a1_0 : Int) (a1_1 : Int) : Option ((List (S52)) × Int) := (sub_both.f k a0 a1_0 a1_1).bind fun bt163 => (if bt163.2.2.2.2 = 0 then (if a1_1 = 0 then (some ((([(⟨bt163.1, bt163.2.1⟩ : S52)] : List (S52))), 0)) else (if bt163.1 < bt163.2.2.1 then (if ([] : List (S52)).length < 8796093022208 then ((some (([] : List (S52)) ++ [(⟨bt163.1, IntKind.u64.wrap (bt163.2.2.1 - 1)⟩ : S52)] : List (S52))).bind fun y173 => (if bt163.2.2.2.1 < bt163.2.1 then (if y173.length < 8796093022208 then (some ((y173 ++ [(⟨IntKind.u64.wrap (bt163.2.2.2.1 + 1), bt163.2.1⟩ : S52)]), 0)) else (none)) else (some (y173, 0)))) else (none)) else (if bt163.2.2.2.1 < bt163.2.1 then (if ([] : List (S52)).length < 8796093022208 then (some ((([] : List (S52)) ++ [(⟨IntKind.u64.wrap (bt163.2.2.2.1 + 1), bt163.2.1⟩ : S52)]), 0)) else (none)) else (some (([] : List (S52)), 0))))) else (some (([] : List (S52)), bt163.2.2.2.2)))
theorem sub_Leaves.mono : ∀ a0 a1 a2 k, LeO (sub_Leaves.f k a0 a1 a2) (sub_Leaves.f (k + 1) a0 a1 a2) := by
  intro a0 a1 a2 k
  unfold sub_Leaves.f
  repeat' first
    | (with_reducible exact sub_both.mono _ _ _ _)
    | (with_reducible exact LeO.refl _)
    | (with_reducible exact LeO.none _)
    | (with_reducible refine LeO.ite ?_ ?_)
    | (with_reducible refine LeO.bind ?_ (fun _ => ?_))
    | exact sub_both.mono _ _ _ _
    | exact LeO.none _
    | refine LeO.ite ?_ ?_
    | refine LeO.bind ?_ (fun _ => ?_)
set_option maxHeartbeats 8000000 in
set_option maxRecDepth 100000 in
theorem sub_Leaves.calls (k : Nat) (a0 : Int) (a1_0 : Int) (a1_1 : Int) (r1 : List (S52)) (r2 : Int) (w : World) (h : sub_Leaves.f k a0 a1_0 a1_1 = some (r1, r2)) :
   Calls Try.prog 26 #[.int .i64 a0, .agg #[.int .u64 a1_0, .int .u64 a1_1]] w fun e w' => ∃ v0_ : Value, e = .returned (.tuple #[v0_, .int .i64 r2]) ∧ Kd.R k52 52 w' w.heap.size (fun _ => True) v0_ r1 ∧ Below w.heap.size w w' := by
  have hu34 := Try.underlying34
  have hu52 := Try.underlying52
  have HB := ak_ (Below.refl w.heap.size w)
  have H : ((sub_both.f k a0 a1_0 a1_1).bind fun bt163 => (if bt163.2.2.2.2 = 0 then (if a1_1 = 0 then (some ((([(⟨bt163.1, bt163.2.1⟩ : S52)] : List (S52))), 0)) else (if bt163.1 < bt163.2.2.1 then (if ([] : List (S52)).length < 8796093022208 then ((some (([] : List (S52)) ++ [(⟨bt163.1, IntKind.u64.wrap (bt163.2.2.1 - 1)⟩ : S52)] : List (S52))).bind fun y173 => (if bt163.2.2.2.1 < bt163.2.1 then (if y173.length < 8796093022208 then (some ((y173 ++ [(⟨IntKind.u64.wrap (bt163.2.2.2.1 + 1), bt163.2.1⟩ : S52)]), 0)) else (none)) else (some (y173, 0)))) else (none)) else (if bt163.2.2.2.1 < bt163.2.1 then (if ([] : List (S52)).length < 8796093022208 then (some ((([] : List (S52)) ++ [(⟨IntKind.u64.wrap (bt163.2.2.2.1 + 1), bt163.2.1⟩ : S52)]), 0)) else (none)) else (some (([] : List (S52)), 0))))) else (some (([] : List (S52)), bt163.2.2.2.2)))) = some (r1, r2) := h
  clear h
  replace H := Option.bind_eq_some_iff.mp H
  obtain ⟨⟨t163, t164, t165, t166, t167⟩, A30, H⟩ := H
  replace H : (if t167 = 0 then (if a1_1 = 0 then (some ((([(⟨t163, t164⟩ : S52)] : List (S52))), 0)) else (if t163 < t165 then (if ([] : List (S52)).length < 8796093022208 then ((some (([] : List (S52)) ++ [(⟨t163, IntKind.u64.wrap (t165 - 1)⟩ : S52)] : List (S52))).bind fun y173 => (if t166 < t164 then (if y173.length < 8796093022208 then (some ((y173 ++ [(⟨IntKind.u64.wrap (t166 + 1), t164⟩ : S52)]), 0)) else (none)) else (some (y173, 0)))) else (none)) else (if t166 < t164 then (if ([] : List (S52)).length < 8796093022208 then (some ((([] : List (S52)) ++ [(⟨IntKind.u64.wrap (t166 + 1), t164⟩ : S52)]), 0)) else (none)) else (some (([] : List (S52)), 0))))) else (some (([] : List (S52)), t167))) = some (r1, r2) := H
  have A3 := ak_ A30
  clear A30
  by_cases c4 : t167 = 0
  ·rw [if_pos c4] at H
   have c4b0 : (t167 == 0) = true := beq_iff_eq.mpr c4
   have c4b1 : (t167 != 0) = false := bne_eq_false_iff_eq.mpr c4
   clear c4
   by_cases c5 : a1_1 = 0
   ·rw [if_pos c5] at H
    have c5b0 : (a1_1 == 0) = true := beq_iff_eq.mpr c5
    have c5b1 : (a1_1 != 0) = false := bne_eq_false_iff_eq.mpr c5
    clear c5
    obtain ⟨y170, hy170⟩ : ∃ y_ : List (S52), y_ = (([(⟨t163, t164⟩ : S52)] : List (S52))) := ⟨_, rfl⟩
    replace H : (some (y170, 0)) = some (r1, r2) := by first | (rw [hy170]; with_reducible exact H) | (have H2_ := (Option.bind_some _ _).symm.trans H; rw [hy170]; with_reducible exact H2_) | (have H2_ := (Option.bind_some _ _).symm.trans H; with_reducible exact H2_) | with_reducible exact H | (rw [hy170]; exact H) | exact H
    have Ny170 := ak_ hy170
    clear hy170
    simp only [Option.some.injEq, Prod.mk.injEq] at H
    obtain ⟨rfl, rfl⟩ := H
    go_enter Try.func26, Try.ntmps26
    go_wp2_with (first | ((with_reducible refine gate_dst (N := 3) rfl ?_); refine box_event ?hg (N := 3) ?hd (cs := #[.int .u64 a1_0, .int .u64 a1_1]) (t := 34) ?hr ?_; (case hd => rfl); (case hg => rfl); (case hr => first | (go_simp; done) | (go_simp; rfl)); intro gb162 hg w6 hbox hb; have n0_ := ak_ (below_step (by repeat (first | (with_reducible first | exact HB.out | apply ba_ | apply bn_ | apply bd_) | exact HB.out)) hb); have n1_ := ak_ (hbox); have n2_ := ak_ ((by rw [hg]; exact (below_size (by repeat (first | (with_reducible first | exact HB.out | apply ba_ | apply bn_ | apply bd_) | exact HB.out))) : w.heap.size ≤ gb162)); have n3_ := ak_ ((by rw [hg]; exact (below_size (by repeat (first | (with_reducible first | exact HB.out | apply ba_ | apply bn_ | apply bd_) | exact HB.out))) : w.heap.size ≤ gb162)); clear HB; have HB := n0_; have BK162 := n1_; have GW162 := n2_; have GE162 := n3_; clear n0_ n1_ n2_ n3_; clear hb hbox hg; have hcz7_0 : w6.cell? ⟨gb162, 0, none⟩ = some (.int .u64 a1_0) := (blk_cell BK162.out 0).trans rfl; have hcz7_1 : w6.cell? ⟨gb162, 1, none⟩ = some (.int .u64 a1_1) := (blk_cell BK162.out 1).trans rfl; have hfz7_0 := blk_frozen BK162.out 0; have hfz7_1 := blk_frozen BK162.out 1) | ((with_reducible refine gate_callee (f := 52) rfl ?_); refine goesL_ (some 11) rfl rfl Try.func52 (by kernel_rfl) rfl #[.int .i64 a0, .agg #[.int .u64 a1_0, .int .u64 a1_1]] rfl (by (try simp only [map_toArray, map_cons, map_nil]); first | done | rfl | (simp only [length_drop, length_take]; rfl)) ?_; (with_reducible refine (sub_both.calls k a0 a1_0 a1_1 t163 t164 t165 t166 t167 _ A3.out).mono ?_); rintro e w8 ⟨rfl, hb⟩; refine ⟨_, rfl, ?_⟩; have n0_ := ak_ (blk_below (g := gb162) (o := .cells #[.int .u64 a1_0, .int .u64 a1_1] 34 (0, 0)) (by (with_reducible repeat (first | refine kn_ ?_ _ | refine kd_ ?_ | refine ka_ ?_ _)); exact BK162.out) hb); have n1_ := ak_ (below_step (by repeat (first | (with_reducible first | exact HB.out | apply ba_ | apply bn_ | apply bd_ | refine below_set ?_ GE162.out) | exact HB.out)) hb); clear BK162; clear HB; have BK162 := n0_; have HB := n1_; clear n0_ n1_; (try clear hb); (try clear hb2); (try clear hk); (try clear hi)) | ((with_reducible refine gate_dst (N := 6) rfl ?_); refine box_event ?hg (N := 6) ?hd (cs := #[.int .u64 0, .int .u64 0]) (t := 52) ?hr ?_; (case hd => rfl); (case hg => rfl); (case hr => first | (go_simp; done) | (go_simp; rfl)); intro gb168 hg w9 hbox hb; have n0_ := ak_ (blk_below (g := gb162) (o := .cells #[.int .u64 a1_0, .int .u64 a1_1] 34 (0, 0)) (by (with_reducible repeat (first | refine kn_ ?_ _ | refine kd_ ?_ | refine ka_ ?_ _)); exact BK162.out) hb); have n1_ := ak_ (below_step (by repeat (first | (with_reducible first | exact HB.out | apply ba_ | apply bn_ | apply bd_ | refine below_set ?_ GE162.out) | exact HB.out)) hb); have n2_ := ak_ (hbox); have n3_ := ak_ ((by rw [hg]; exact (below_size (by repeat (first | (with_reducible first | exact HB.out | apply ba_ | apply bn_ | apply bd_ | refine below_set ?_ GE162.out) | exact HB.out))) : w.heap.size ≤ gb168)); have n4_ := ak_ ((by rw [hg]; exact (below_size (by repeat (first | (with_reducible first | exact HB.out | apply ba_ | apply bn_ | apply bd_ | refine below_set ?_ GE162.out) | exact HB.out))) : w.heap.size ≤ gb168)); have n5_ := ak_ ((by rw [hg]; exact Nat.ne_of_lt (blk_lt (g := gb162) (o := .cells #[.int .u64 a1_0, .int .u64 a1_1] 34 (0, 0)) (by (with_reducible repeat (first | refine kn_ ?_ _ | refine kd_ ?_ | refine ka_ ?_ _)); exact BK162.out)) : gb162 ≠ gb168)); have n6_ := ak_ ((by rw [hg]; exact Nat.ne_of_gt (blk_lt (g := gb162) (o := .cells #[.int .u64 a1_0, .int .u64 a1_1] 34 (0, 0)) (by (with_reducible repeat (first | refine kn_ ?_ _ | refine kd_ ?_ | refine ka_ ?_ _)); exact BK162.out)) : gb168 ≠ gb162)); clear BK162; clear HB; have BK162 := n0_; have HB := n1_; have BK168 := n2_; have GW168 := n3_; have GE168 := n4_; have NB162_168 := n5_; have NB168_162 := n6_; clear n0_ n1_ n2_ n3_ n4_ n5_ n6_; clear hb hbox hg) | ((with_reducible refine gate_dst (N := 7) rfl ?_); refine box_event ?hg (N := 7) ?hd (cs := #[.int .u64 0, .int .u64 0]) (t := 52) ?hr ?_; (case hd => rfl); (case hg => rfl); (case hr => first | (go_simp; done) | (go_simp; rfl)); intro gb169 hg w10 hbox hb; have n0_ := ak_ (blk_below (g := gb162) (o := .cells #[.int .u64 a1_0, .int .u64 a1_1] 34 (0, 0)) (by (with_reducible repeat (first | refine kn_ ?_ _ | refine kd_ ?_ | refine ka_ ?_ _)); exact BK162.out) hb); have n1_ := ak_ (blk_below (g := gb168) (o := .cells #[.int .u64 0, .int .u64 0] 52 (0, 0)) (by (with_reducible repeat (first | refine kn_ ?_ _ | refine kd_ ?_ | refine ka_ ?_ _)); exact BK168.out) hb); have n2_ := ak_ (below_step (by repeat (first | (with_reducible first | exact HB.out | apply ba_ | apply bn_ | apply bd_ | refine below_set ?_ GE162.out | refine below_set ?_ GE168.out) | exact HB.out)) hb); have n3_ := ak_ (hbox); have n4_ := ak_ ((by rw [hg]; exact (below_size (by repeat (first | (with_reducible first | exact HB.out | apply ba_ | apply bn_ | apply bd_ | refine below_set ?_ GE162.out | refine below_set ?_ GE168.out) | exact HB.out))) : w.heap.size ≤ gb169)); have n5_ := ak_ ((by rw [hg]; exact (below_size (by repeat (first | (with_reducible first | exact HB.out | apply ba_ | apply bn_ | apply bd_ | refine below_set ?_ GE162.out | refine below_set ?_ GE168.out) | exact HB.out))) : w.heap.size ≤ gb169)); have n6_ := ak_ ((by rw [hg]; exact Nat.ne_of_lt (blk_lt (g := gb162) (o := .cells #[.int .u64 a1_0, .int .u64 a1_1] 34 (0, 0)) (by (with_reducible repeat (first | refine kn_ ?_ _ | refine kd_ ?_ | refine ka_ ?_ _)); exact BK162.out)) : gb162 ≠ gb169)); have n7_ := ak_ ((by rw [hg]; exact Nat.ne_of_gt (blk_lt (g := gb162) (o := .cells #[.int .u64 a1_0, .int .u64 a1_1] 34 (0, 0)) (by (with_reducible repeat (first | refine kn_ ?_ _ | refine kd_ ?_ | refine ka_ ?_ _)); exact BK162.out)) : gb169 ≠ gb162)); have n8_ := ak_ ((by rw [hg]; exact Nat.ne_of_lt (blk_lt (g := gb168) (o := .cells #[.int .u64 0, .int .u64 0] 52 (0, 0)) (by (with_reducible repeat (first | refine kn_ ?_ _ | refine kd_ ?_ | refine ka_ ?_ _)); exact BK168.out)) : gb168 ≠ gb169)); have n9_ := ak_ ((by rw [hg]; exact Nat.ne_of_gt (blk_lt (g := gb168) (o := .cells #[.int .u64 0, .int .u64 0] 52 (0, 0)) (by (with_reducible repeat (first | refine kn_ ?_ _ | refine kd_ ?_ | refine ka_ ?_ _)); exact BK168.out)) : gb169 ≠ gb168)); clear BK162; clear BK168; clear HB; have BK162 := n0_; have BK168 := n1_; have HB := n2_; have BK169 := n3_; have GW169 := n4_; have GE169 := n5_; have NB162_169 := n6_; have NB169_162 := n7_; have NB168_169 := n8_; have NB169_168 := n9_; clear n0_ n1_ n2_ n3_ n4_ n5_ n6_ n7_ n8_ n9_; clear hb hbox hg; have hnb11 := NB168_162.out; have hnc11 := NB162_168.out; have hnb12 := NB168_169.out; have hnc12 := NB169_168.out; have hcz13_0 : w10.cell? ⟨gb168, 0, none⟩ = some (.int .u64 0) := (blk_cell BK168.out 0).trans rfl; have hcz13_1 : w10.cell? ⟨gb168, 1, none⟩ = some (.int .u64 0) := (blk_cell BK168.out 1).trans rfl; have hfz13_0 := blk_frozen BK168.out 0; have hfz13_1 := blk_frozen BK168.out 1; have hnb14 := NB169_162.out; have hnc14 := NB162_169.out; have hcz15_0 : w10.cell? ⟨gb169, 0, none⟩ = some (.int .u64 0) := (blk_cell BK169.out 0).trans rfl; have hcz15_1 : w10.cell? ⟨gb169, 1, none⟩ = some (.int .u64 0) := (blk_cell BK169.out 1).trans rfl; have hfz15_0 := blk_frozen BK169.out 0; have hfz15_1 := blk_frozen BK169.out 1; have hcz16_0 : w10.cell? ⟨gb162, 0, none⟩ = some (.int .u64 a1_0) := (blk_cell BK162.out 0).trans rfl; have hcz16_1 : w10.cell? ⟨gb162, 1, none⟩ = some (.int .u64 a1_1) := (blk_cell BK162.out 1).trans rfl; have hfz16_0 := blk_frozen BK162.out 0; have hfz16_1 := blk_frozen BK162.out 1) | ((with_reducible refine gate_dst (N := 24) rfl ?_); refine Kd.R_lit k52 _ 52 ?hg (N := 24) ?hd (xs := ([(⟨t163, t164⟩ : S52)] : List (S52))) (inner := [.int .u64 t163, .int .u64 t164]) (ok := fun _ => True) (okp := fun _ => True) ?hr ?hp (fun _ hk => hk) trivial (Below.refl _ _) (Nat.le_refl _) (by simp) ?_; (case hd => rfl); (case hg => rfl); (case hr => first | (go_simp; done) | (go_simp; rfl)); (case hp => exact (Reps.c2 (show Kd.M k52 _ _ _ (⟨t163, t164⟩ : S52) [.int .u64 t163, .int .u64 t164] from (k52_mkM _ _ _ (⟨t163, t164⟩ : S52) )) (Reps.none _ _))); intro v171 w17 ho18 hb hg_ hnew_; clear hg_ hnew_; (first | rw [← Ny170.out] at ho18 | (simp only [Int.reduceToNat] at ho18; rw [← Ny170.out] at ho18)); have n0_ := ak_ (Kd.R_lower (Kd.R_newB (Kd.R_newB ho18 (g := gb168) (o := .cells #[.int .u64 t163, .int .u64 t164] 52 (0, 0)) (by (with_reducible repeat (first | refine kn_ ?_ _ | refine kd_ ?_ | refine ka_ ?_ _)); refine blk_far ?_ NB168_169.out _; (with_reducible repeat (first | refine kn_ ?_ _ | refine kd_ ?_ | refine ka_ ?_ _)); refine blk_far ?_ NB168_169.out _; (with_reducible repeat (first | refine kn_ ?_ _ | refine kd_ ?_ | refine ka_ ?_ _)); refine blk_put (cs := #[.int .u64 t163, .int .u64 0]) ?_ 1 _ rfl; (with_reducible repeat (first | refine kn_ ?_ _ | refine kd_ ?_ | refine ka_ ?_ _)); refine blk_put (cs := #[.int .u64 0, .int .u64 0]) ?_ 0 _ rfl; (with_reducible repeat (first | refine kn_ ?_ _ | refine kd_ ?_ | refine ka_ ?_ _)); exact BK168.out)) (g := gb169) (o := .cells #[.int .u64 t165, .int .u64 t166] 52 (0, 0)) (by (with_reducible repeat (first | refine kn_ ?_ _ | refine kd_ ?_ | refine ka_ ?_ _)); refine blk_put (cs := #[.int .u64 t165, .int .u64 0]) ?_ 1 _ rfl; (with_reducible repeat (first | refine kn_ ?_ _ | refine kd_ ?_ | refine ka_ ?_ _)); refine blk_put (cs := #[.int .u64 0, .int .u64 0]) ?_ 0 _ rfl; (with_reducible repeat (first | refine kn_ ?_ _ | refine kd_ ?_ | refine ka_ ?_ _)); refine blk_far ?_ NB169_168.out _; (with_reducible repeat (first | refine kn_ ?_ _ | refine kd_ ?_ | refine ka_ ?_ _)); refine blk_far ?_ NB169_168.out _; (with_reducible repeat (first | refine kn_ ?_ _ | refine kd_ ?_ | refine ka_ ?_ _)); exact BK169.out)) (below_size (by repeat (first | (with_reducible first | exact HB.out | apply ba_ | apply bn_ | apply bd_ | refine below_set ?_ GE162.out | refine below_set ?_ GE168.out | refine below_set ?_ GE169.out) | exact HB.out)))); have n1_ := ak_ (blk_below (g := gb162) (o := .cells #[.int .u64 a1_0, .int .u64 a1_1] 34 (0, 0)) (by (with_reducible repeat (first | refine kn_ ?_ _ | refine kd_ ?_ | refine ka_ ?_ _)); refine blk_far ?_ NB162_169.out _; (with_reducible repeat (first | refine kn_ ?_ _ | refine kd_ ?_ | refine ka_ ?_ _)); refine blk_far ?_ NB162_169.out _; (with_reducible repeat (first | refine kn_ ?_ _ | refine kd_ ?_ | refine ka_ ?_ _)); refine blk_far ?_ NB162_168.out _; (with_reducible repeat (first | refine kn_ ?_ _ | refine kd_ ?_ | refine ka_ ?_ _)); refine blk_far ?_ NB162_168.out _; (with_reducible repeat (first | refine kn_ ?_ _ | refine kd_ ?_ | refine ka_ ?_ _)); exact BK162.out) hb); have n2_ := ak_ (blk_below (g := gb168) (o := .cells #[.int .u64 t163, .int .u64 t164] 52 (0, 0)) (by (with_reducible repeat (first | refine kn_ ?_ _ | refine kd_ ?_ | refine ka_ ?_ _)); refine blk_far ?_ NB168_169.out _; (with_reducible repeat (first | refine kn_ ?_ _ | refine kd_ ?_ | refine ka_ ?_ _)); refine blk_far ?_ NB168_169.out _; (with_reducible repeat (first | refine kn_ ?_ _ | refine kd_ ?_ | refine ka_ ?_ _)); refine blk_put (cs := #[.int .u64 t163, .int .u64 0]) ?_ 1 _ rfl; (with_reducible repeat (first | refine kn_ ?_ _ | refine kd_ ?_ | refine ka_ ?_ _)); refine blk_put (cs := #[.int .u64 0, .int .u64 0]) ?_ 0 _ rfl; (with_reducible repeat (first | refine kn_ ?_ _ | refine kd_ ?_ | refine ka_ ?_ _)); exact BK168.out) hb); have n3_ := ak_ (blk_below (g := gb169) (o := .cells #[.int .u64 t165, .int .u64 t166] 52 (0, 0)) (by (with_reducible repeat (first | refine kn_ ?_ _ | refine kd_ ?_ | refine ka_ ?_ _)); refine blk_put (cs := #[.int .u64 t165, .int .u64 0]) ?_ 1 _ rfl; (with_reducible repeat (first | refine kn_ ?_ _ | refine kd_ ?_ | refine ka_ ?_ _)); refine blk_put (cs := #[.int .u64 0, .int .u64 0]) ?_ 0 _ rfl; (with_reducible repeat (first | refine kn_ ?_ _ | refine kd_ ?_ | refine ka_ ?_ _)); refine blk_far ?_ NB169_168.out _; (with_reducible repeat (first | refine kn_ ?_ _ | refine kd_ ?_ | refine ka_ ?_ _)); refine blk_far ?_ NB169_168.out _; (with_reducible repeat (first | refine kn_ ?_ _ | refine kd_ ?_ | refine ka_ ?_ _)); exact BK169.out) hb); have n4_ := ak_ (below_step (by repeat (first | (with_reducible first | exact HB.out | apply ba_ | apply bn_ | apply bd_ | refine below_set ?_ GE162.out | refine below_set ?_ GE168.out | refine below_set ?_ GE169.out) | exact HB.out)) hb); clear BK162; clear BK168; clear BK169; clear HB; have HO172 := n0_; have BK162 := n1_; have BK168 := n2_; have BK169 := n3_; have HB := n4_; clear n0_ n1_ n2_ n3_ n4_; clear hb ho18))
    go_ret2
    exact ⟨_, by first | rfl | (simp <;> rfl) | (simp [*] <;> rfl), by (with_reducible repeat (first | apply Kd.R_alloc | apply Kd.R_drewN | apply Kd.R_drew)); exact Kd.R_mono HO172.out (fun _ hk => trivial), by repeat (first | (with_reducible first | exact HB.out | apply ba_ | apply bn_ | apply bd_ | refine below_set ?_ GE162.out | refine below_set ?_ GE168.out | refine below_set ?_ GE169.out) | exact HB.out)⟩
   ·rw [if_neg c5] at H
    have c5b0 : (a1_1 == 0) = false := beq_eq_false_iff_ne.mpr c5
    have c5b1 : (a1_1 != 0) = true := bne_iff_ne.mpr c5
    by_cases c19 : t163 < t165
    ·rw [if_pos c19] at H
     have c19b0 : decide (t163 < t165) = true := decide_eq_true c19
     clear c19
     by_cases c20 : ([] : List (S52)).length < 8796093022208
     ·rw [if_pos c20] at H
      have LMc20 := ak_ c20
      clear c20
      obtain ⟨y173, hy173⟩ : ∃ y_ : List (S52), y_ = (([] : List (S52)) ++ [(⟨t163, IntKind.u64.wrap (t165 - 1)⟩ : S52)]) := ⟨_, rfl⟩
      replace H : (if t166 < t164 then (if y173.length < 8796093022208 then (some ((y173 ++ [(⟨IntKind.u64.wrap (t166 + 1), t164⟩ : S52)]), 0)) else (none)) else (some (y173, 0))) = some (r1, r2) := by first | (rw [hy173]; with_reducible exact H) | (have H2_ := (Option.bind_some _ _).symm.trans H; rw [hy173]; with_reducible exact H2_) | (have H2_ := (Option.bind_some _ _).symm.trans H; with_reducible exact H2_) | with_reducible exact H | (rw [hy173]; exact H) | exact H
      have Ny173 := ak_ hy173
      clear hy173
      by_cases c21 : t166 < t164
      ·rw [if_pos c21] at H
       have c21b0 : decide (t166 < t164) = true := decide_eq_true c21
       clear c21
       by_cases c22 : y173.length < 8796093022208
       ·rw [if_pos c22] at H
        have LMc22 := ak_ c22
        clear c22
        obtain ⟨y176, hy176⟩ : ∃ y_ : List (S52), y_ = (y173 ++ [(⟨IntKind.u64.wrap (t166 + 1), t164⟩ : S52)]) := ⟨_, rfl⟩
        replace H : (some (y176, 0)) = some (r1, r2) := by first | (rw [hy176]; with_reducible exact H) | (have H2_ := (Option.bind_some _ _).symm.trans H; rw [hy176]; with_reducible exact H2_) | (have H2_ := (Option.bind_some _ _).symm.trans H; with_reducible exact H2_) | with_reducible exact H | (rw [hy176]; exact H) | exact H
        have Ny176 := ak_ hy176
        clear hy176
        simp only [Option.some.injEq, Prod.mk.injEq] at H
        obtain ⟨rfl, rfl⟩ := H
        go_enter Try.func26, Try.ntmps26
        go_wp2_with (first | ((with_reducible refine gate_dst (N := 3) rfl ?_); refine box_event ?hg (N := 3) ?hd (cs := #[.int .u64 a1_0, .int .u64 a1_1]) (t := 34) ?hr ?_; (case hd => rfl); (case hg => rfl); (case hr => first | (go_simp; done) | (go_simp; rfl)); intro gb162 hg w23 hbox hb; have n0_ := ak_ (below_step (by repeat (first | (with_reducible first | exact HB.out | apply ba_ | apply bn_ | apply bd_) | exact HB.out)) hb); have n1_ := ak_ (hbox); have n2_ := ak_ ((by rw [hg]; exact (below_size (by repeat (first | (with_reducible first | exact HB.out | apply ba_ | apply bn_ | apply bd_) | exact HB.out))) : w.heap.size ≤ gb162)); have n3_ := ak_ ((by rw [hg]; exact (below_size (by repeat (first | (with_reducible first | exact HB.out | apply ba_ | apply bn_ | apply bd_) | exact HB.out))) : w.heap.size ≤ gb162)); clear HB; have HB := n0_; have BK162 := n1_; have GW162 := n2_; have GE162 := n3_; clear n0_ n1_ n2_ n3_; clear hb hbox hg; have hcz24_0 : w23.cell? ⟨gb162, 0, none⟩ = some (.int .u64 a1_0) := (blk_cell BK162.out 0).trans rfl; have hcz24_1 : w23.cell? ⟨gb162, 1, none⟩ = some (.int .u64 a1_1) := (blk_cell BK162.out 1).trans rfl; have hfz24_0 := blk_frozen BK162.out 0; have hfz24_1 := blk_frozen BK162.out 1) | ((with_reducible refine gate_callee (f := 52) rfl ?_); refine goesL_ (some 11) rfl rfl Try.func52 (by kernel_rfl) rfl #[.int .i64 a0, .agg #[.int .u64 a1_0, .int .u64 a1_1]] rfl (by (try simp only [map_toArray, map_cons, map_nil]); first | done | rfl | (simp only [length_drop, length_take]; rfl)) ?_; (with_reducible refine (sub_both.calls k a0 a1_0 a1_1 t163 t164 t165 t166 t167 _ A3.out).mono ?_); rintro e w25 ⟨rfl, hb⟩; refine ⟨_, rfl, ?_⟩; have n0_ := ak_ (blk_below (g := gb162) (o := .cells #[.int .u64 a1_0, .int .u64 a1_1] 34 (0, 0)) (by (with_reducible repeat (first | refine kn_ ?_ _ | refine kd_ ?_ | refine ka_ ?_ _)); exact BK162.out) hb); have n1_ := ak_ (below_step (by repeat (first | (with_reducible first | exact HB.out | apply ba_ | apply bn_ | apply bd_ | refine below_set ?_ GE162.out) | exact HB.out)) hb); clear BK162; clear HB; have BK162 := n0_; have HB := n1_; clear n0_ n1_; (try clear hb); (try clear hb2); (try clear hk); (try clear hi)) | ((with_reducible refine gate_dst (N := 6) rfl ?_); refine box_event ?hg (N := 6) ?hd (cs := #[.int .u64 0, .int .u64 0]) (t := 52) ?hr ?_; (case hd => rfl); (case hg => rfl); (case hr => first | (go_simp; done) | (go_simp; rfl)); intro gb168 hg w26 hbox hb; have n0_ := ak_ (blk_below (g := gb162) (o := .cells #[.int .u64 a1_0, .int .u64 a1_1] 34 (0, 0)) (by (with_reducible repeat (first | refine kn_ ?_ _ | refine kd_ ?_ | refine ka_ ?_ _)); exact BK162.out) hb); have n1_ := ak_ (below_step (by repeat (first | (with_reducible first | exact HB.out | apply ba_ | apply bn_ | apply bd_ | refine below_set ?_ GE162.out) | exact HB.out)) hb); have n2_ := ak_ (hbox); have n3_ := ak_ ((by rw [hg]; exact (below_size (by repeat (first | (with_reducible first | exact HB.out | apply ba_ | apply bn_ | apply bd_ | refine below_set ?_ GE162.out) | exact HB.out))) : w.heap.size ≤ gb168)); have n4_ := ak_ ((by rw [hg]; exact (below_size (by repeat (first | (with_reducible first | exact HB.out | apply ba_ | apply bn_ | apply bd_ | refine below_set ?_ GE162.out) | exact HB.out))) : w.heap.size ≤ gb168)); have n5_ := ak_ ((by rw [hg]; exact Nat.ne_of_lt (blk_lt (g := gb162) (o := .cells #[.int .u64 a1_0, .int .u64 a1_1] 34 (0, 0)) (by (with_reducible repeat (first | refine kn_ ?_ _ | refine kd_ ?_ | refine ka_ ?_ _)); exact BK162.out)) : gb162 ≠ gb168)); have n6_ := ak_ ((by rw [hg]; exact Nat.ne_of_gt (blk_lt (g := gb162) (o := .cells #[.int .u64 a1_0, .int .u64 a1_1] 34 (0, 0)) (by (with_reducible repeat (first | refine kn_ ?_ _ | refine kd_ ?_ | refine ka_ ?_ _)); exact BK162.out)) : gb168 ≠ gb162)); clear BK162; clear HB; have BK162 := n0_; have HB := n1_; have BK168 := n2_; have GW168 := n3_; have GE168 := n4_; have NB162_168 := n5_; have NB168_162 := n6_; clear n0_ n1_ n2_ n3_ n4_ n5_ n6_; clear hb hbox hg) | ((with_reducible refine gate_dst (N := 7) rfl ?_); refine box_event ?hg (N := 7) ?hd (cs := #[.int .u64 0, .int .u64 0]) (t := 52) ?hr ?_; (case hd => rfl); (case hg => rfl); (case hr => first | (go_simp; done) | (go_simp; rfl)); intro gb169 hg w27 hbox hb; have n0_ := ak_ (blk_below (g := gb162) (o := .cells #[.int .u64 a1_0, .int .u64 a1_1] 34 (0, 0)) (by (with_reducible repeat (first | refine kn_ ?_ _ | refine kd_ ?_ | refine ka_ ?_ _)); exact BK162.out) hb); have n1_ := ak_ (blk_below (g := gb168) (o := .cells #[.int .u64 0, .int .u64 0] 52 (0, 0)) (by (with_reducible repeat (first | refine kn_ ?_ _ | refine kd_ ?_ | refine ka_ ?_ _)); exact BK168.out) hb); have n2_ := ak_ (below_step (by repeat (first | (with_reducible first | exact HB.out | apply ba_ | apply bn_ | apply bd_ | refine below_set ?_ GE162.out | refine below_set ?_ GE168.out) | exact HB.out)) hb); have n3_ := ak_ (hbox); have n4_ := ak_ ((by rw [hg]; exact (below_size (by repeat (first | (with_reducible first | exact HB.out | apply ba_ | apply bn_ | apply bd_ | refine below_set ?_ GE162.out | refine below_set ?_ GE168.out) | exact HB.out))) : w.heap.size ≤ gb169)); have n5_ := ak_ ((by rw [hg]; exact (below_size (by repeat (first | (with_reducible first | exact HB.out | apply ba_ | apply bn_ | apply bd_ | refine below_set ?_ GE162.out | refine below_set ?_ GE168.out) | exact HB.out))) : w.heap.size ≤ gb169)); have n6_ := ak_ ((by rw [hg]; exact Nat.ne_of_lt (blk_lt (g := gb162) (o := .cells #[.int .u64 a1_0, .int .u64 a1_1] 34 (0, 0)) (by (with_reducible repeat (first | refine kn_ ?_ _ | refine kd_ ?_ | refine ka_ ?_ _)); exact BK162.out)) : gb162 ≠ gb169)); have n7_ := ak_ ((by rw [hg]; exact Nat.ne_of_gt (blk_lt (g := gb162) (o := .cells #[.int .u64 a1_0, .int .u64 a1_1] 34 (0, 0)) (by (with_reducible repeat (first | refine kn_ ?_ _ | refine kd_ ?_ | refine ka_ ?_ _)); exact BK162.out)) : gb169 ≠ gb162)); have n8_ := ak_ ((by rw [hg]; exact Nat.ne_of_lt (blk_lt (g := gb168) (o := .cells #[.int .u64 0, .int .u64 0] 52 (0, 0)) (by (with_reducible repeat (first | refine kn_ ?_ _ | refine kd_ ?_ | refine ka_ ?_ _)); exact BK168.out)) : gb168 ≠ gb169)); have n9_ := ak_ ((by rw [hg]; exact Nat.ne_of_gt (blk_lt (g := gb168) (o := .cells #[.int .u64 0, .int .u64 0] 52 (0, 0)) (by (with_reducible repeat (first | refine kn_ ?_ _ | refine kd_ ?_ | refine ka_ ?_ _)); exact BK168.out)) : gb169 ≠ gb168)); clear BK162; clear BK168; clear HB; have BK162 := n0_; have BK168 := n1_; have HB := n2_; have BK169 := n3_; have GW169 := n4_; have GE169 := n5_; have NB162_169 := n6_; have NB169_162 := n7_; have NB168_169 := n8_; have NB169_168 := n9_; clear n0_ n1_ n2_ n3_ n4_ n5_ n6_ n7_ n8_ n9_; clear hb hbox hg; have hnb28 := NB168_162.out; have hnc28 := NB162_168.out; have hnb29 := NB168_169.out; have hnc29 := NB169_168.out; have hcz30_0 : w27.cell? ⟨gb168, 0, none⟩ = some (.int .u64 0) := (blk_cell BK168.out 0).trans rfl; have hcz30_1 : w27.cell? ⟨gb168, 1, none⟩ = some (.int .u64 0) := (blk_cell BK168.out 1).trans rfl; have hfz30_0 := blk_frozen BK168.out 0; have hfz30_1 := blk_frozen BK168.out 1; have hnb31 := NB169_162.out; have hnc31 := NB162_169.out; have hcz32_0 : w27.cell? ⟨gb169, 0, none⟩ = some (.int .u64 0) := (blk_cell BK169.out 0).trans rfl; have hcz32_1 : w27.cell? ⟨gb169, 1, none⟩ = some (.int .u64 0) := (blk_cell BK169.out 1).trans rfl; have hfz32_0 := blk_frozen BK169.out 0; have hfz32_1 := blk_frozen BK169.out 1; have hcz33_0 : w27.cell? ⟨gb162, 0, none⟩ = some (.int .u64 a1_0) := (blk_cell BK162.out 0).trans rfl; have hcz33_1 : w27.cell? ⟨gb162, 1, none⟩ = some (.int .u64 a1_1) := (blk_cell BK162.out 1).trans rfl; have hfz33_0 := blk_frozen BK162.out 0; have hfz33_1 := blk_frozen BK162.out 1) | ((with_reducible refine gate_builtin (b := .append) (xs := #[.tmp 30, .tmp 37]) rfl ?_); at_builtin; refine Kd.R_append k52 (w0 := w) w.heap.size rfl (.tmp 30) (.tmp 37) 45 52 (.agg #[(.int .u64 0), (.int .u64 0)]) 16 rfl Try.underlying45 info52 rfl (by decide) (by omega) (.slice none 0 0) ([] : List (S52)) (⟨t163, IntKind.u64.wrap (t165 - 1)⟩ : S52) [.int .u64 t163, .int .u64 (IntKind.u64.wrap (t165 - 1))] (fun k_ => k_ ≠ gb168 ∧ k_ ≠ gb169) (fun _ => False) rfl (by first | (go_simp; done) | (go_simp; rfl)) ?aP (fun _ hk => hk.elim) ?aF ?aO ?aB ?aS ?aL ?_; (case aP => exact k52_mkM _ _ _ (⟨t163, IntKind.u64.wrap (t165 - 1)⟩ : S52)); (case aB => exact (by repeat (first | (with_reducible first | exact HB.out | apply ba_ | apply bn_ | apply bd_ | refine below_set ?_ GE162.out | refine below_set ?_ GE168.out | refine below_set ?_ GE169.out) | exact HB.out))); (case aF => exact (fun k_ hk => ⟨Kd.freshB (g := gb168) (o := .cells #[.int .u64 t163, .int .u64 t164] 52 (0, 0)) (by (with_reducible repeat (first | refine kn_ ?_ _ | refine kd_ ?_ | refine ka_ ?_ _)); refine blk_far ?_ NB168_169.out _; (with_reducible repeat (first | refine kn_ ?_ _ | refine kd_ ?_ | refine ka_ ?_ _)); refine blk_far ?_ NB168_169.out _; (with_reducible repeat (first | refine kn_ ?_ _ | refine kd_ ?_ | refine ka_ ?_ _)); refine blk_put (cs := #[.int .u64 t163, .int .u64 0]) ?_ 1 _ rfl; (with_reducible repeat (first | refine kn_ ?_ _ | refine kd_ ?_ | refine ka_ ?_ _)); refine blk_put (cs := #[.int .u64 0, .int .u64 0]) ?_ 0 _ rfl; (with_reducible repeat (first | refine kn_ ?_ _ | refine kd_ ?_ | refine ka_ ?_ _)); exact BK168.out) k_ hk, Kd.freshB (g := gb169) (o := .cells #[.int .u64 t165, .int .u64 t166] 52 (0, 0)) (by (with_reducible repeat (first | refine kn_ ?_ _ | refine kd_ ?_ | refine ka_ ?_ _)); refine blk_put (cs := #[.int .u64 t165, .int .u64 0]) ?_ 1 _ rfl; (with_reducible repeat (first | refine kn_ ?_ _ | refine kd_ ?_ | refine ka_ ?_ _)); refine blk_put (cs := #[.int .u64 0, .int .u64 0]) ?_ 0 _ rfl; (with_reducible repeat (first | refine kn_ ?_ _ | refine kd_ ?_ | refine ka_ ?_ _)); refine blk_far ?_ NB169_168.out _; (with_reducible repeat (first | refine kn_ ?_ _ | refine kd_ ?_ | refine ka_ ?_ _)); refine blk_far ?_ NB169_168.out _; (with_reducible repeat (first | refine kn_ ?_ _ | refine kd_ ?_ | refine ka_ ?_ _)); exact BK169.out) k_ hk⟩)); (case aO => exact ((Kd.R_nil _ _ _ _ (fun k_ => k_ ≠ gb168 ∧ k_ ≠ gb169)))); (case aS => exact (below_size (by repeat (first | (with_reducible first | exact HB.out | apply ba_ | apply bn_ | apply bd_ | refine below_set ?_ GE162.out | refine below_set ?_ GE168.out | refine below_set ?_ GE169.out) | exact HB.out)))); (case aL => have := LMc20.out; omega); intro v174 w34 ho hb hg hat; rw [← Ny173.out] at ho; have n0_ := ak_ (blk_grown (g := gb162) (o := .cells #[.int .u64 a1_0, .int .u64 a1_1] 34 (0, 0)) (by (with_reducible repeat (first | refine kn_ ?_ _ | refine kd_ ?_ | refine ka_ ?_ _)); refine blk_far ?_ NB162_169.out _; (with_reducible repeat (first | refine kn_ ?_ _ | refine kd_ ?_ | refine ka_ ?_ _)); refine blk_far ?_ NB162_169.out _; (with_reducible repeat (first | refine kn_ ?_ _ | refine kd_ ?_ | refine ka_ ?_ _)); refine blk_far ?_ NB162_168.out _; (with_reducible repeat (first | refine kn_ ?_ _ | refine kd_ ?_ | refine ka_ ?_ _)); refine blk_far ?_ NB162_168.out _; (with_reducible repeat (first | refine kn_ ?_ _ | refine kd_ ?_ | refine ka_ ?_ _)); exact BK162.out) hg (by simp [Value.ownBlock])); have n1_ := ak_ (blk_grown (g := gb168) (o := .cells #[.int .u64 t163, .int .u64 t164] 52 (0, 0)) (by (with_reducible repeat (first | refine kn_ ?_ _ | refine kd_ ?_ | refine ka_ ?_ _)); refine blk_far ?_ NB168_169.out _; (with_reducible repeat (first | refine kn_ ?_ _ | refine kd_ ?_ | refine ka_ ?_ _)); refine blk_far ?_ NB168_169.out _; (with_reducible repeat (first | refine kn_ ?_ _ | refine kd_ ?_ | refine ka_ ?_ _)); refine blk_put (cs := #[.int .u64 t163, .int .u64 0]) ?_ 1 _ rfl; (with_reducible repeat (first | refine kn_ ?_ _ | refine kd_ ?_ | refine ka_ ?_ _)); refine blk_put (cs := #[.int .u64 0, .int .u64 0]) ?_ 0 _ rfl; (with_reducible repeat (first | refine kn_ ?_ _ | refine kd_ ?_ | refine ka_ ?_ _)); exact BK168.out) hg (by simp [Value.ownBlock])); have n2_ := ak_ (blk_grown (g := gb169) (o := .cells #[.int .u64 t165, .int .u64 t166] 52 (0, 0)) (by (with_reducible repeat (first | refine kn_ ?_ _ | refine kd_ ?_ | refine ka_ ?_ _)); refine blk_put (cs := #[.int .u64 t165, .int .u64 0]) ?_ 1 _ rfl; (with_reducible repeat (first | refine kn_ ?_ _ | refine kd_ ?_ | refine ka_ ?_ _)); refine blk_put (cs := #[.int .u64 0, .int .u64 0]) ?_ 0 _ rfl; (with_reducible repeat (first | refine kn_ ?_ _ | refine kd_ ?_ | refine ka_ ?_ _)); refine blk_far ?_ NB169_168.out _; (with_reducible repeat (first | refine kn_ ?_ _ | refine kd_ ?_ | refine ka_ ?_ _)); refine blk_far ?_ NB169_168.out _; (with_reducible repeat (first | refine kn_ ?_ _ | refine kd_ ?_ | refine ka_ ?_ _)); exact BK169.out) hg (by simp [Value.ownBlock])); have n3_ := ak_ (hb); have n4_ := ak_ (ho); clear BK162; clear BK168; clear BK169; clear HB; have BK162 := n0_; have BK168 := n1_; have BK169 := n2_; have HB := n3_; have HO175 := n4_; clear n0_ n1_ n2_ n3_ n4_; clear ho hb hg hat; have hcz35_0 : w34.cell? ⟨gb169, 0, none⟩ = some (.int .u64 t165) := (blk_cell BK169.out 0).trans rfl; have hcz35_1 : w34.cell? ⟨gb169, 1, none⟩ = some (.int .u64 t166) := (blk_cell BK169.out 1).trans rfl; have hfz35_0 := blk_frozen BK169.out 0; have hfz35_1 := blk_frozen BK169.out 1; have hcz36_0 : w34.cell? ⟨gb168, 0, none⟩ = some (.int .u64 t163) := (blk_cell BK168.out 0).trans rfl; have hcz36_1 : w34.cell? ⟨gb168, 1, none⟩ = some (.int .u64 t164) := (blk_cell BK168.out 1).trans rfl; have hfz36_0 := blk_frozen BK168.out 0; have hfz36_1 := blk_frozen BK168.out 1) | ((with_reducible refine gate_builtin (b := .append) (xs := #[.tmp 44, .tmp 51]) rfl ?_); at_builtin; refine Kd.R_append k52 (w0 := w) w.heap.size rfl (.tmp 44) (.tmp 51) 45 52 (.agg #[(.int .u64 0), (.int .u64 0)]) 16 rfl Try.underlying45 info52 rfl (by decide) (by omega) v174 y173 (⟨IntKind.u64.wrap (t166 + 1), t164⟩ : S52) [.int .u64 (IntKind.u64.wrap (t166 + 1)), .int .u64 t164] (fun k_ => k_ ≠ gb168 ∧ k_ ≠ gb169) (fun _ => False) rfl rfl ?aP (fun _ hk => hk.elim) ?aF ?aO ?aB ?aS ?aL ?_; (case aP => exact k52_mkM _ _ _ (⟨IntKind.u64.wrap (t166 + 1), t164⟩ : S52)); (case aB => exact (by repeat (first | (with_reducible first | exact HB.out | apply ba_ | apply bn_ | apply bd_ | refine below_set ?_ GE162.out | refine below_set ?_ GE168.out | refine below_set ?_ GE169.out) | exact HB.out))); (case aF => exact (fun k_ hk => ⟨Kd.freshB (g := gb168) (o := .cells #[.int .u64 t163, .int .u64 t164] 52 (0, 0)) (by (with_reducible repeat (first | refine kn_ ?_ _ | refine kd_ ?_ | refine ka_ ?_ _)); exact BK168.out) k_ hk, Kd.freshB (g := gb169) (o := .cells #[.int .u64 t165, .int .u64 t166] 52 (0, 0)) (by (with_reducible repeat (first | refine kn_ ?_ _ | refine kd_ ?_ | refine ka_ ?_ _)); exact BK169.out) k_ hk⟩)); (case aO => exact (by (with_reducible repeat (first | apply Kd.R_alloc | apply Kd.R_drewN | apply Kd.R_drew)); exact HO175.out)); (case aS => exact (below_size (by repeat (first | (with_reducible first | exact HB.out | apply ba_ | apply bn_ | apply bd_ | refine below_set ?_ GE162.out | refine below_set ?_ GE168.out | refine below_set ?_ GE169.out) | exact HB.out)))); (case aL => have := LMc22.out; omega); intro v177 w37 ho hb hg hat; rw [← Ny176.out] at ho; have n0_ := ak_ (blk_grown (g := gb162) (o := .cells #[.int .u64 a1_0, .int .u64 a1_1] 34 (0, 0)) (by (with_reducible repeat (first | refine kn_ ?_ _ | refine kd_ ?_ | refine ka_ ?_ _)); exact BK162.out) hg (Kd.R_ne HO175.out BK162.out (by decide))); have n1_ := ak_ (blk_grown (g := gb168) (o := .cells #[.int .u64 t163, .int .u64 t164] 52 (0, 0)) (by (with_reducible repeat (first | refine kn_ ?_ _ | refine kd_ ?_ | refine ka_ ?_ _)); exact BK168.out) hg (Kd.R_away HO175.out (fun _ hk => hk.1))); have n2_ := ak_ (blk_grown (g := gb169) (o := .cells #[.int .u64 t165, .int .u64 t166] 52 (0, 0)) (by (with_reducible repeat (first | refine kn_ ?_ _ | refine kd_ ?_ | refine ka_ ?_ _)); exact BK169.out) hg (Kd.R_away HO175.out (fun _ hk => hk.2))); have n3_ := ak_ (hb); have n4_ := ak_ (ho); clear BK162; clear BK168; clear BK169; clear HB; clear HO175; have BK162 := n0_; have BK168 := n1_; have BK169 := n2_; have HB := n3_; have HO178 := n4_; clear n0_ n1_ n2_ n3_ n4_; clear ho hb hg hat))
        go_ret2
        exact ⟨_, by first | rfl | (simp <;> rfl) | (simp [*] <;> rfl), by (with_reducible repeat (first | apply Kd.R_alloc | apply Kd.R_drewN | apply Kd.R_drew)); exact Kd.R_mono HO178.out (fun _ hk => trivial), by repeat (first | (with_reducible first | exact HB.out | apply ba_ | apply bn_ | apply bd_ | refine below_set ?_ GE162.out | refine below_set ?_ GE168.out | refine below_set ?_ GE169.out) | exact HB.out)⟩
       ·rw [if_neg c22] at H
        exact absurd H (by simp)
      ·rw [if_neg c21] at H
       have c21b0 : decide (t166 < t164) = false := decide_eq_false c21
       clear c21
       simp only [Option.some.injEq, Prod.mk.injEq] at H
       obtain ⟨rfl, rfl⟩ := H
       go_enter Try.func26, Try.ntmps26
       go_wp2_with (first | ((with_reducible refine gate_dst (N := 3) rfl ?_); refine box_event ?hg (N := 3) ?hd (cs := #[.int .u64 a1_0, .int .u64 a1_1]) (t := 34) ?hr ?_; (case hd => rfl); (case hg => rfl); (case hr => first | (go_simp; done) | (go_simp; rfl)); intro gb162 hg w38 hbox hb; have n0_ := ak_ (below_step (by repeat (first | (with_reducible first | exact HB.out | apply ba_ | apply bn_ | apply bd_) | exact HB.out)) hb); have n1_ := ak_ (hbox); have n2_ := ak_ ((by rw [hg]; exact (below_size (by repeat (first | (with_reducible first | exact HB.out | apply ba_ | apply bn_ | apply bd_) | exact HB.out))) : w.heap.size ≤ gb162)); have n3_ := ak_ ((by rw [hg]; exact (below_size (by repeat (first | (with_reducible first | exact HB.out | apply ba_ | apply bn_ | apply bd_) | exact HB.out))) : w.heap.size ≤ gb162)); clear HB; have HB := n0_; have BK162 := n1_; have GW162 := n2_; have GE162 := n3_; clear n0_ n1_ n2_ n3_; clear hb hbox hg; have hcz39_0 : w38.cell? ⟨gb162, 0, none⟩ = some (.int .u64 a1_0) := (blk_cell BK162.out 0).trans rfl; have hcz39_1 : w38.cell? ⟨gb162, 1, none⟩ = some (.int .u64 a1_1) := (blk_cell BK162.out 1).trans rfl; have hfz39_0 := blk_frozen BK162.out 0; have hfz39_1 := blk_frozen BK162.out 1) | ((with_reducible refine gate_callee (f := 52) rfl ?_); refine goesL_ (some 11) rfl rfl Try.func52 (by kernel_rfl) rfl #[.int .i64 a0, .agg #[.int .u64 a1_0, .int .u64 a1_1]] rfl (by (try simp only [map_toArray, map_cons, map_nil]); first | done | rfl | (simp only [length_drop, length_take]; rfl)) ?_; (with_reducible refine (sub_both.calls k a0 a1_0 a1_1 t163 t164 t165 t166 t167 _ A3.out).mono ?_); rintro e w40 ⟨rfl, hb⟩; refine ⟨_, rfl, ?_⟩; have n0_ := ak_ (blk_below (g := gb162) (o := .cells #[.int .u64 a1_0, .int .u64 a1_1] 34 (0, 0)) (by (with_reducible repeat (first | refine kn_ ?_ _ | refine kd_ ?_ | refine ka_ ?_ _)); exact BK162.out) hb); have n1_ := ak_ (below_step (by repeat (first | (with_reducible first | exact HB.out | apply ba_ | apply bn_ | apply bd_ | refine below_set ?_ GE162.out) | exact HB.out)) hb); clear BK162; clear HB; have BK162 := n0_; have HB := n1_; clear n0_ n1_; (try clear hb); (try clear hb2); (try clear hk); (try clear hi)) | ((with_reducible refine gate_dst (N := 6) rfl ?_); refine box_event ?hg (N := 6) ?hd (cs := #[.int .u64 0, .int .u64 0]) (t := 52) ?hr ?_; (case hd => rfl); (case hg => rfl); (case hr => first | (go_simp; done) | (go_simp; rfl)); intro gb168 hg w41 hbox hb; have n0_ := ak_ (blk_below (g := gb162) (o := .cells #[.int .u64 a1_0, .int .u64 a1_1] 34 (0, 0)) (by (with_reducible repeat (first | refine kn_ ?_ _ | refine kd_ ?_ | refine ka_ ?_ _)); exact BK162.out) hb); have n1_ := ak_ (below_step (by repeat (first | (with_reducible first | exact HB.out | apply ba_ | apply bn_ | apply bd_ | refine below_set ?_ GE162.out) | exact HB.out)) hb); have n2_ := ak_ (hbox); have n3_ := ak_ ((by rw [hg]; exact (below_size (by repeat (first | (with_reducible first | exact HB.out | apply ba_ | apply bn_ | apply bd_ | refine below_set ?_ GE162.out) | exact HB.out))) : w.heap.size ≤ gb168)); have n4_ := ak_ ((by rw [hg]; exact (below_size (by repeat (first | (with_reducible first | exact HB.out | apply ba_ | apply bn_ | apply bd_ | refine below_set ?_ GE162.out) | exact HB.out))) : w.heap.size ≤ gb168)); have n5_ := ak_ ((by rw [hg]; exact Nat.ne_of_lt (blk_lt (g := gb162) (o := .cells #[.int .u64 a1_0, .int .u64 a1_1] 34 (0, 0)) (by (with_reducible repeat (first | refine kn_ ?_ _ | refine kd_ ?_ | refine ka_ ?_ _)); exact BK162.out)) : gb162 ≠ gb168)); have n6_ := ak_ ((by rw [hg]; exact Nat.ne_of_gt (blk_lt (g := gb162) (o := .cells #[.int .u64 a1_0, .int .u64 a1_1] 34 (0, 0)) (by (with_reducible repeat (first | refine kn_ ?_ _ | refine kd_ ?_ | refine ka_ ?_ _)); exact BK162.out)) : gb168 ≠ gb162)); clear BK162; clear HB; have BK162 := n0_; have HB := n1_; have BK168 := n2_; have GW168 := n3_; have GE168 := n4_; have NB162_168 := n5_; have NB168_162 := n6_; clear n0_ n1_ n2_ n3_ n4_ n5_ n6_; clear hb hbox hg) | ((with_reducible refine gate_dst (N := 7) rfl ?_); refine box_event ?hg (N := 7) ?hd (cs := #[.int .u64 0, .int .u64 0]) (t := 52) ?hr ?_; (case hd => rfl); (case hg => rfl); (case hr => first | (go_simp; done) | (go_simp; rfl)); intro gb169 hg w42 hbox hb; have n0_ := ak_ (blk_below (g := gb162) (o := .cells #[.int .u64 a1_0, .int .u64 a1_1] 34 (0, 0)) (by (with_reducible repeat (first | refine kn_ ?_ _ | refine kd_ ?_ | refine ka_ ?_ _)); exact BK162.out) hb); have n1_ := ak_ (blk_below (g := gb168) (o := .cells #[.int .u64 0, .int .u64 0] 52 (0, 0)) (by (with_reducible repeat (first | refine kn_ ?_ _ | refine kd_ ?_ | refine ka_ ?_ _)); exact BK168.out) hb); have n2_ := ak_ (below_step (by repeat (first | (with_reducible first | exact HB.out | apply ba_ | apply bn_ | apply bd_ | refine below_set ?_ GE162.out | refine below_set ?_ GE168.out) | exact HB.out)) hb); have n3_ := ak_ (hbox); have n4_ := ak_ ((by rw [hg]; exact (below_size (by repeat (first | (with_reducible first | exact HB.out | apply ba_ | apply bn_ | apply bd_ | refine below_set ?_ GE162.out | refine below_set ?_ GE168.out) | exact HB.out))) : w.heap.size ≤ gb169)); have n5_ := ak_ ((by rw [hg]; exact (below_size (by repeat (first | (with_reducible first | exact HB.out | apply ba_ | apply bn_ | apply bd_ | refine below_set ?_ GE162.out | refine below_set ?_ GE168.out) | exact HB.out))) : w.heap.size ≤ gb169)); have n6_ := ak_ ((by rw [hg]; exact Nat.ne_of_lt (blk_lt (g := gb162) (o := .cells #[.int .u64 a1_0, .int .u64 a1_1] 34 (0, 0)) (by (with_reducible repeat (first | refine kn_ ?_ _ | refine kd_ ?_ | refine ka_ ?_ _)); exact BK162.out)) : gb162 ≠ gb169)); have n7_ := ak_ ((by rw [hg]; exact Nat.ne_of_gt (blk_lt (g := gb162) (o := .cells #[.int .u64 a1_0, .int .u64 a1_1] 34 (0, 0)) (by (with_reducible repeat (first | refine kn_ ?_ _ | refine kd_ ?_ | refine ka_ ?_ _)); exact BK162.out)) : gb169 ≠ gb162)); have n8_ := ak_ ((by rw [hg]; exact Nat.ne_of_lt (blk_lt (g := gb168) (o := .cells #[.int .u64 0, .int .u64 0] 52 (0, 0)) (by (with_reducible repeat (first | refine kn_ ?_ _ | refine kd_ ?_ | refine ka_ ?_ _)); exact BK168.out)) : gb168 ≠ gb169)); have n9_ := ak_ ((by rw [hg]; exact Nat.ne_of_gt (blk_lt (g := gb168) (o := .cells #[.int .u64 0, .int .u64 0] 52 (0, 0)) (by (with_reducible repeat (first | refine kn_ ?_ _ | refine kd_ ?_ | refine ka_ ?_ _)); exact BK168.out)) : gb169 ≠ gb168)); clear BK162; clear BK168; clear HB; have BK162 := n0_; have BK168 := n1_; have HB := n2_; have BK169 := n3_; have GW169 := n4_; have GE169 := n5_; have NB162_169 := n6_; have NB169_162 := n7_; have NB168_169 := n8_; have NB169_168 := n9_; clear n0_ n1_ n2_ n3_ n4_ n5_ n6_ n7_ n8_ n9_; clear hb hbox hg; have hnb43 := NB168_162.out; have hnc43 := NB162_168.out; have hnb44 := NB168_169.out; have hnc44 := NB169_168.out; have hcz45_0 : w42.cell? ⟨gb168, 0, none⟩ = some (.int .u64 0) := (blk_cell BK168.out 0).trans rfl; have hcz45_1 : w42.cell? ⟨gb168, 1, none⟩ = some (.int .u64 0) := (blk_cell BK168.out 1).trans rfl; have hfz45_0 := blk_frozen BK168.out 0; have hfz45_1 := blk_frozen BK168.out 1; have hnb46 := NB169_162.out; have hnc46 := NB162_169.out; have hcz47_0 : w42.cell? ⟨gb169, 0, none⟩ = some (.int .u64 0) := (blk_cell BK169.out 0).trans rfl; have hcz47_1 : w42.cell? ⟨gb169, 1, none⟩ = some (.int .u64 0) := (blk_cell BK169.out 1).trans rfl; have hfz47_0 := blk_frozen BK169.out 0; have hfz47_1 := blk_frozen BK169.out 1; have hcz48_0 : w42.cell? ⟨gb162, 0, none⟩ = some (.int .u64 a1_0) := (blk_cell BK162.out 0).trans rfl; have hcz48_1 : w42.cell? ⟨gb162, 1, none⟩ = some (.int .u64 a1_1) := (blk_cell BK162.out 1).trans rfl; have hfz48_0 := blk_frozen BK162.out 0; have hfz48_1 := blk_frozen BK162.out 1) | ((with_reducible refine gate_builtin (b := .append) (xs := #[.tmp 30, .tmp 37]) rfl ?_); at_builtin; refine Kd.R_append k52 (w0 := w) w.heap.size rfl (.tmp 30) (.tmp 37) 45 52 (.agg #[(.int .u64 0), (.int .u64 0)]) 16 rfl Try.underlying45 info52 rfl (by decide) (by omega) (.slice none 0 0) ([] : List (S52)) (⟨t163, IntKind.u64.wrap (t165 - 1)⟩ : S52) [.int .u64 t163, .int .u64 (IntKind.u64.wrap (t165 - 1))] (fun k_ => k_ ≠ gb168 ∧ k_ ≠ gb169) (fun _ => False) rfl (by first | (go_simp; done) | (go_simp; rfl)) ?aP (fun _ hk => hk.elim) ?aF ?aO ?aB ?aS ?aL ?_; (case aP => exact k52_mkM _ _ _ (⟨t163, IntKind.u64.wrap (t165 - 1)⟩ : S52)); (case aB => exact (by repeat (first | (with_reducible first | exact HB.out | apply ba_ | apply bn_ | apply bd_ | refine below_set ?_ GE162.out | refine below_set ?_ GE168.out | refine below_set ?_ GE169.out) | exact HB.out))); (case aF => exact (fun k_ hk => ⟨Kd.freshB (g := gb168) (o := .cells #[.int .u64 t163, .int .u64 t164] 52 (0, 0)) (by (with_reducible repeat (first | refine kn_ ?_ _ | refine kd_ ?_ | refine ka_ ?_ _)); refine blk_far ?_ NB168_169.out _; (with_reducible repeat (first | refine kn_ ?_ _ | refine kd_ ?_ | refine ka_ ?_ _)); refine blk_far ?_ NB168_169.out _; (with_reducible repeat (first | refine kn_ ?_ _ | refine kd_ ?_ | refine ka_ ?_ _)); refine blk_put (cs := #[.int .u64 t163, .int .u64 0]) ?_ 1 _ rfl; (with_reducible repeat (first | refine kn_ ?_ _ | refine kd_ ?_ | refine ka_ ?_ _)); refine blk_put (cs := #[.int .u64 0, .int .u64 0]) ?_ 0 _ rfl; (with_reducible repeat (first | refine kn_ ?_ _ | refine kd_ ?_ | refine ka_ ?_ _)); exact BK168.out) k_ hk, Kd.freshB (g := gb169) (o := .cells #[.int .u64 t165, .int .u64 t166] 52 (0, 0)) (by (with_reducible repeat (first | refine kn_ ?_ _ | refine kd_ ?_ | refine ka_ ?_ _)); refine blk_put (cs := #[.int .u64 t165, .int .u64 0]) ?_ 1 _ rfl; (with_reducible repeat (first | refine kn_ ?_ _ | refine kd_ ?_ | refine ka_ ?_ _)); refine blk_put (cs := #[.int .u64 0, .int .u64 0]) ?_ 0 _ rfl; (with_reducible repeat (first | refine kn_ ?_ _ | refine kd_ ?_ | refine ka_ ?_ _)); refine blk_far ?_ NB169_168.out _; (with_reducible repeat (first | refine kn_ ?_ _ | refine kd_ ?_ | refine ka_ ?_ _)); refine blk_far ?_ NB169_168.out _; (with_reducible repeat (first | refine kn_ ?_ _ | refine kd_ ?_ | refine ka_ ?_ _)); exact BK169.out) k_ hk⟩)); (case aO => exact ((Kd.R_nil _ _ _ _ (fun k_ => k_ ≠ gb168 ∧ k_ ≠ gb169)))); (case aS => exact (below_size (by repeat (first | (with_reducible first | exact HB.out | apply ba_ | apply bn_ | apply bd_ | refine below_set ?_ GE162.out | refine below_set ?_ GE168.out | refine below_set ?_ GE169.out) | exact HB.out)))); (case aL => have := LMc20.out; omega); intro v174 w49 ho hb hg hat; rw [← Ny173.out] at ho; have n0_ := ak_ (blk_grown (g := gb162) (o := .cells #[.int .u64 a1_0, .int .u64 a1_1] 34 (0, 0)) (by (with_reducible repeat (first | refine kn_ ?_ _ | refine kd_ ?_ | refine ka_ ?_ _)); refine blk_far ?_ NB162_169.out _; (with_reducible repeat (first | refine kn_ ?_ _ | refine kd_ ?_ | refine ka_ ?_ _)); refine blk_far ?_ NB162_169.out _; (with_reducible repeat (first | refine kn_ ?_ _ | refine kd_ ?_ | refine ka_ ?_ _)); refine blk_far ?_ NB162_168.out _; (with_reducible repeat (first | refine kn_ ?_ _ | refine kd_ ?_ | refine ka_ ?_ _)); refine blk_far ?_ NB162_168.out _; (with_reducible repeat (first | refine kn_ ?_ _ | refine kd_ ?_ | refine ka_ ?_ _)); exact BK162.out) hg (by simp [Value.ownBlock])); have n1_ := ak_ (blk_grown (g := gb168) (o := .cells #[.int .u64 t163, .int .u64 t164] 52 (0, 0)) (by (with_reducible repeat (first | refine kn_ ?_ _ | refine kd_ ?_ | refine ka_ ?_ _)); refine blk_far ?_ NB168_169.out _; (with_reducible repeat (first | refine kn_ ?_ _ | refine kd_ ?_ | refine ka_ ?_ _)); refine blk_far ?_ NB168_169.out _; (with_reducible repeat (first | refine kn_ ?_ _ | refine kd_ ?_ | refine ka_ ?_ _)); refine blk_put (cs := #[.int .u64 t163, .int .u64 0]) ?_ 1 _ rfl; (with_reducible repeat (first | refine kn_ ?_ _ | refine kd_ ?_ | refine ka_ ?_ _)); refine blk_put (cs := #[.int .u64 0, .int .u64 0]) ?_ 0 _ rfl; (with_reducible repeat (first | refine kn_ ?_ _ | refine kd_ ?_ | refine ka_ ?_ _)); exact BK168.out) hg (by simp [Value.ownBlock])); have n2_ := ak_ (blk_grown (g := gb169) (o := .cells #[.int .u64 t165, .int .u64 t166] 52 (0, 0)) (by (with_reducible repeat (first | refine kn_ ?_ _ | refine kd_ ?_ | refine ka_ ?_ _)); refine blk_put (cs := #[.int .u64 t165, .int .u64 0]) ?_ 1 _ rfl; (with_reducible repeat (first | refine kn_ ?_ _ | refine kd_ ?_ | refine ka_ ?_ _)); refine blk_put (cs := #[.int .u64 0, .int .u64 0]) ?_ 0 _ rfl; (with_reducible repeat (first | refine kn_ ?_ _ | refine kd_ ?_ | refine ka_ ?_ _)); refine blk_far ?_ NB169_168.out _; (with_reducible repeat (first | refine kn_ ?_ _ | refine kd_ ?_ | refine ka_ ?_ _)); refine blk_far ?_ NB169_168.out _; (with_reducible repeat (first | refine kn_ ?_ _ | refine kd_ ?_ | refine ka_ ?_ _)); exact BK169.out) hg (by simp [Value.ownBlock])); have n3_ := ak_ (hb); have n4_ := ak_ (ho); clear BK162; clear BK168; clear BK169; clear HB; have BK162 := n0_; have BK168 := n1_; have BK169 := n2_; have HB := n3_; have HO175 := n4_; clear n0_ n1_ n2_ n3_ n4_; clear ho hb hg hat; have hcz50_0 : w49.cell? ⟨gb169, 0, none⟩ = some (.int .u64 t165) := (blk_cell BK169.out 0).trans rfl; have hcz50_1 : w49.cell? ⟨gb169, 1, none⟩ = some (.int .u64 t166) := (blk_cell BK169.out 1).trans rfl; have hfz50_0 := blk_frozen BK169.out 0; have hfz50_1 := blk_frozen BK169.out 1; have hcz51_0 : w49.cell? ⟨gb168, 0, none⟩ = some (.int .u64 t163) := (blk_cell BK168.out 0).trans rfl; have hcz51_1 : w49.cell? ⟨gb168, 1, none⟩ = some (.int .u64 t164) := (blk_cell BK168.out 1).trans rfl; have hfz51_0 := blk_frozen BK168.out 0; have hfz51_1 := blk_frozen BK168.out 1))
       go_ret2
       exact ⟨_, by first | rfl | (simp <;> rfl) | (simp [*] <;> rfl), by (with_reducible repeat (first | apply Kd.R_alloc | apply Kd.R_drewN | apply Kd.R_drew)); exact Kd.R_mono HO175.out (fun _ hk => trivial), by repeat (first | (with_reducible first | exact HB.out | apply ba_ | apply bn_ | apply bd_ | refine below_set ?_ GE162.out | refine below_set ?_ GE168.out | refine below_set ?_ GE169.out) | exact HB.out)⟩
     ·rw [if_neg c20] at H
      exact absurd H (by simp)
    ·rw [if_neg c19] at H
     have c19b0 : decide (t163 < t165) = false := decide_eq_false c19
     clear c19
     by_cases c52 : t166 < t164
     ·rw [if_pos c52] at H
      have c52b0 : decide (t166 < t164) = true := decide_eq_true c52
      clear c52
      by_cases c53 : ([] : List (S52)).length < 8796093022208
      ·rw [if_pos c53] at H
       have LMc53 := ak_ c53
       clear c53
       obtain ⟨y179, hy179⟩ : ∃ y_ : List (S52), y_ = (([] : List (S52)) ++ [(⟨IntKind.u64.wrap (t166 + 1), t164⟩ : S52)]) := ⟨_, rfl⟩
       replace H : (some (y179, 0)) = some (r1, r2) := by first | (rw [hy179]; with_reducible exact H) | (have H2_ := (Option.bind_some _ _).symm.trans H; rw [hy179]; with_reducible exact H2_) | (have H2_ := (Option.bind_some _ _).symm.trans H; with_reducible exact H2_) | with_reducible exact H | (rw [hy179]; exact H) | exact H
       have Ny179 := ak_ hy179
       clear hy179
       simp only [Option.some.injEq, Prod.mk.injEq] at H
       obtain ⟨rfl, rfl⟩ := H
       go_enter Try.func26, Try.ntmps26
       go_wp2_with (first | ((with_reducible refine gate_dst (N := 3) rfl ?_); refine box_event ?hg (N := 3) ?hd (cs := #[.int .u64 a1_0, .int .u64 a1_1]) (t := 34) ?hr ?_; (case hd => rfl); (case hg => rfl); (case hr => first | (go_simp; done) | (go_simp; rfl)); intro gb162 hg w54 hbox hb; have n0_ := ak_ (below_step (by repeat (first | (with_reducible first | exact HB.out | apply ba_ | apply bn_ | apply bd_) | exact HB.out)) hb); have n1_ := ak_ (hbox); have n2_ := ak_ ((by rw [hg]; exact (below_size (by repeat (first | (with_reducible first | exact HB.out | apply ba_ | apply bn_ | apply bd_) | exact HB.out))) : w.heap.size ≤ gb162)); have n3_ := ak_ ((by rw [hg]; exact (below_size (by repeat (first | (with_reducible first | exact HB.out | apply ba_ | apply bn_ | apply bd_) | exact HB.out))) : w.heap.size ≤ gb162)); clear HB; have HB := n0_; have BK162 := n1_; have GW162 := n2_; have GE162 := n3_; clear n0_ n1_ n2_ n3_; clear hb hbox hg; have hcz55_0 : w54.cell? ⟨gb162, 0, none⟩ = some (.int .u64 a1_0) := (blk_cell BK162.out 0).trans rfl; have hcz55_1 : w54.cell? ⟨gb162, 1, none⟩ = some (.int .u64 a1_1) := (blk_cell BK162.out 1).trans rfl; have hfz55_0 := blk_frozen BK162.out 0; have hfz55_1 := blk_frozen BK162.out 1) | ((with_reducible refine gate_callee (f := 52) rfl ?_); refine goesL_ (some 11) rfl rfl Try.func52 (by kernel_rfl) rfl #[.int .i64 a0, .agg #[.int .u64 a1_0, .int .u64 a1_1]] rfl (by (try simp only [map_toArray, map_cons, map_nil]); first | done | rfl | (simp only [length_drop, length_take]; rfl)) ?_; (with_reducible refine (sub_both.calls k a0 a1_0 a1_1 t163 t164 t165 t166 t167 _ A3.out).mono ?_); rintro e w56 ⟨rfl, hb⟩; refine ⟨_, rfl, ?_⟩; have n0_ := ak_ (blk_below (g := gb162) (o := .cells #[.int .u64 a1_0, .int .u64 a1_1] 34 (0, 0)) (by (with_reducible repeat (first | refine kn_ ?_ _ | refine kd_ ?_ | refine ka_ ?_ _)); exact BK162.out) hb); have n1_ := ak_ (below_step (by repeat (first | (with_reducible first | exact HB.out | apply ba_ | apply bn_ | apply bd_ | refine below_set ?_ GE162.out) | exact HB.out)) hb); clear BK162; clear HB; have BK162 := n0_; have HB := n1_; clear n0_ n1_; (try clear hb); (try clear hb2); (try clear hk); (try clear hi)) | ((with_reducible refine gate_dst (N := 6) rfl ?_); refine box_event ?hg (N := 6) ?hd (cs := #[.int .u64 0, .int .u64 0]) (t := 52) ?hr ?_; (case hd => rfl); (case hg => rfl); (case hr => first | (go_simp; done) | (go_simp; rfl)); intro gb168 hg w57 hbox hb; have n0_ := ak_ (blk_below (g := gb162) (o := .cells #[.int .u64 a1_0, .int .u64 a1_1] 34 (0, 0)) (by (with_reducible repeat (first | refine kn_ ?_ _ | refine kd_ ?_ | refine ka_ ?_ _)); exact BK162.out) hb); have n1_ := ak_ (below_step (by repeat (first | (with_reducible first | exact HB.out | apply ba_ | apply bn_ | apply bd_ | refine below_set ?_ GE162.out) | exact HB.out)) hb); have n2_ := ak_ (hbox); have n3_ := ak_ ((by rw [hg]; exact (below_size (by repeat (first | (with_reducible first | exact HB.out | apply ba_ | apply bn_ | apply bd_ | refine below_set ?_ GE162.out) | exact HB.out))) : w.heap.size ≤ gb168)); have n4_ := ak_ ((by rw [hg]; exact (below_size (by repeat (first | (with_reducible first | exact HB.out | apply ba_ | apply bn_ | apply bd_ | refine below_set ?_ GE162.out) | exact HB.out))) : w.heap.size ≤ gb168)); have n5_ := ak_ ((by rw [hg]; exact Nat.ne_of_lt (blk_lt (g := gb162) (o := .cells #[.int .u64 a1_0, .int .u64 a1_1] 34 (0, 0)) (by (with_reducible repeat (first | refine kn_ ?_ _ | refine kd_ ?_ | refine ka_ ?_ _)); exact BK162.out)) : gb162 ≠ gb168)); have n6_ := ak_ ((by rw [hg]; exact Nat.ne_of_gt (blk_lt (g := gb162) (o := .cells #[.int .u64 a1_0, .int .u64 a1_1] 34 (0, 0)) (by (with_reducible repeat (first | refine kn_ ?_ _ | refine kd_ ?_ | refine ka_ ?_ _)); exact BK162.out)) : gb168 ≠ gb162)); clear BK162; clear HB; have BK162 := n0_; have HB := n1_; have BK168 := n2_; have GW168 := n3_; have GE168 := n4_; have NB162_168 := n5_; have NB168_162 := n6_; clear n0_ n1_ n2_ n3_ n4_ n5_ n6_; clear hb hbox hg) | ((with_reducible refine gate_dst (N := 7) rfl ?_); refine box_event ?hg (N := 7) ?hd (cs := #[.int .u64 0, .int .u64 0]) (t := 52) ?hr ?_; (case hd => rfl); (case hg => rfl); (case hr => first | (go_simp; done) | (go_simp; rfl)); intro gb169 hg w58 hbox hb; have n0_ := ak_ (blk_below (g := gb162) (o := .cells #[.int .u64 a1_0, .int .u64 a1_1] 34 (0, 0)) (by (with_reducible repeat (first | refine kn_ ?_ _ | refine kd_ ?_ | refine ka_ ?_ _)); exact BK162.out) hb); have n1_ := ak_ (blk_below (g := gb168) (o := .cells #[.int .u64 0, .int .u64 0] 52 (0, 0)) (by (with_reducible repeat (first | refine kn_ ?_ _ | refine kd_ ?_ | refine ka_ ?_ _)); exact BK168.out) hb); have n2_ := ak_ (below_step (by repeat (first | (with_reducible first | exact HB.out | apply ba_ | apply bn_ | apply bd_ | refine below_set ?_ GE162.out | refine below_set ?_ GE168.out) | exact HB.out)) hb); have n3_ := ak_ (hbox); have n4_ := ak_ ((by rw [hg]; exact (below_size (by repeat (first | (with_reducible first | exact HB.out | apply ba_ | apply bn_ | apply bd_ | refine below_set ?_ GE162.out | refine below_set ?_ GE168.out) | exact HB.out))) : w.heap.size ≤ gb169)); have n5_ := ak_ ((by rw [hg]; exact (below_size (by repeat (first | (with_reducible first | exact HB.out | apply ba_ | apply bn_ | apply bd_ | refine below_set ?_ GE162.out | refine below_set ?_ GE168.out) | exact HB.out))) : w.heap.size ≤ gb169)); have n6_ := ak_ ((by rw [hg]; exact Nat.ne_of_lt (blk_lt (g := gb162) (o := .cells #[.int .u64 a1_0, .int .u64 a1_1] 34 (0, 0)) (by (with_reducible repeat (first | refine kn_ ?_ _ | refine kd_ ?_ | refine ka_ ?_ _)); exact BK162.out)) : gb162 ≠ gb169)); have n7_ := ak_ ((by rw [hg]; exact Nat.ne_of_gt (blk_lt (g := gb162) (o := .cells #[.int .u64 a1_0, .int .u64 a1_1] 34 (0, 0)) (by (with_reducible repeat (first | refine kn_ ?_ _ | refine kd_ ?_ | refine ka_ ?_ _)); exact BK162.out)) : gb169 ≠ gb162)); have n8_ := ak_ ((by rw [hg]; exact Nat.ne_of_lt (blk_lt (g := gb168) (o := .cells #[.int .u64 0, .int .u64 0] 52 (0, 0)) (by (with_reducible repeat (first | refine kn_ ?_ _ | refine kd_ ?_ | refine ka_ ?_ _)); exact BK168.out)) : gb168 ≠ gb169)); have n9_ := ak_ ((by rw [hg]; exact Nat.ne_of_gt (blk_lt (g := gb168) (o := .cells #[.int .u64 0, .int .u64 0] 52 (0, 0)) (by (with_reducible repeat (first | refine kn_ ?_ _ | refine kd_ ?_ | refine ka_ ?_ _)); exact BK168.out)) : gb169 ≠ gb168)); clear BK162; clear BK168; clear HB; have BK162 := n0_; have BK168 := n1_; have HB := n2_; have BK169 := n3_; have GW169 := n4_; have GE169 := n5_; have NB162_169 := n6_; have NB169_162 := n7_; have NB168_169 := n8_; have NB169_168 := n9_; clear n0_ n1_ n2_ n3_ n4_ n5_ n6_ n7_ n8_ n9_; clear hb hbox hg; have hnb59 := NB168_162.out; have hnc59 := NB162_168.out; have hnb60 := NB168_169.out; have hnc60 := NB169_168.out; have hcz61_0 : w58.cell? ⟨gb168, 0, none⟩ = some (.int .u64 0) := (blk_cell BK168.out 0).trans rfl; have hcz61_1 : w58.cell? ⟨gb168, 1, none⟩ = some (.int .u64 0) := (blk_cell BK168.out 1).trans rfl; have hfz61_0 := blk_frozen BK168.out 0; have hfz61_1 := blk_frozen BK168.out 1; have hnb62 := NB169_162.out; have hnc62 := NB162_169.out; have hcz63_0 : w58.cell? ⟨gb169, 0, none⟩ = some (.int .u64 0) := (blk_cell BK169.out 0).trans rfl; have hcz63_1 : w58.cell? ⟨gb169, 1, none⟩ = some (.int .u64 0) := (blk_cell BK169.out 1).trans rfl; have hfz63_0 := blk_frozen BK169.out 0; have hfz63_1 := blk_frozen BK169.out 1; have hcz64_0 : w58.cell? ⟨gb162, 0, none⟩ = some (.int .u64 a1_0) := (blk_cell BK162.out 0).trans rfl; have hcz64_1 : w58.cell? ⟨gb162, 1, none⟩ = some (.int .u64 a1_1) := (blk_cell BK162.out 1).trans rfl; have hfz64_0 := blk_frozen BK162.out 0; have hfz64_1 := blk_frozen BK162.out 1) | ((with_reducible refine gate_builtin (b := .append) (xs := #[.tmp 44, .tmp 51]) rfl ?_); at_builtin; refine Kd.R_append k52 (w0 := w) w.heap.size rfl (.tmp 44) (.tmp 51) 45 52 (.agg #[(.int .u64 0), (.int .u64 0)]) 16 rfl Try.underlying45 info52 rfl (by decide) (by omega) (.slice none 0 0) ([] : List (S52)) (⟨IntKind.u64.wrap (t166 + 1), t164⟩ : S52) [.int .u64 (IntKind.u64.wrap (t166 + 1)), .int .u64 t164] (fun k_ => k_ ≠ gb168 ∧ k_ ≠ gb169) (fun _ => False) rfl (by first | (go_simp; done) | (go_simp; rfl)) ?aP (fun _ hk => hk.elim) ?aF ?aO ?aB ?aS ?aL ?_; (case aP => exact k52_mkM _ _ _ (⟨IntKind.u64.wrap (t166 + 1), t164⟩ : S52)); (case aB => exact (by repeat (first | (with_reducible first | exact HB.out | apply ba_ | apply bn_ | apply bd_ | refine below_set ?_ GE162.out | refine below_set ?_ GE168.out | refine below_set ?_ GE169.out) | exact HB.out))); (case aF => exact (fun k_ hk => ⟨Kd.freshB (g := gb168) (o := .cells #[.int .u64 t163, .int .u64 t164] 52 (0, 0)) (by (with_reducible repeat (first | refine kn_ ?_ _ | refine kd_ ?_ | refine ka_ ?_ _)); refine blk_far ?_ NB168_169.out _; (with_reducible repeat (first | refine kn_ ?_ _ | refine kd_ ?_ | refine ka_ ?_ _)); refine blk_far ?_ NB168_169.out _; (with_reducible repeat (first | refine kn_ ?_ _ | refine kd_ ?_ | refine ka_ ?_ _)); refine blk_put (cs := #[.int .u64 t163, .int .u64 0]) ?_ 1 _ rfl; (with_reducible repeat (first | refine kn_ ?_ _ | refine kd_ ?_ | refine ka_ ?_ _)); refine blk_put (cs := #[.int .u64 0, .int .u64 0]) ?_ 0 _ rfl; (with_reducible repeat (first | refine kn_ ?_ _ | refine kd_ ?_ | refine ka_ ?_ _)); exact BK168.out) k_ hk, Kd.freshB (g := gb169) (o := .cells #[.int .u64 t165, .int .u64 t166] 52 (0, 0)) (by (with_reducible repeat (first | refine kn_ ?_ _ | refine kd_ ?_ | refine ka_ ?_ _)); refine blk_put (cs := #[.int .u64 t165, .int .u64 0]) ?_ 1 _ rfl; (with_reducible repeat (first | refine kn_ ?_ _ | refine kd_ ?_ | refine ka_ ?_ _)); refine blk_put (cs := #[.int .u64 0, .int .u64 0]) ?_ 0 _ rfl; (with_reducible repeat (first | refine kn_ ?_ _ | refine kd_ ?_ | refine ka_ ?_ _)); refine blk_far ?_ NB169_168.out _; (with_reducible repeat (first | refine kn_ ?_ _ | refine kd_ ?_ | refine ka_ ?_ _)); refine blk_far ?_ NB169_168.out _; (with_reducible repeat (first | refine kn_ ?_ _ | refine kd_ ?_ | refine ka_ ?_ _)); exact BK169.out) k_ hk⟩)); (case aO => exact ((Kd.R_nil _ _ _ _ (fun k_ => k_ ≠ gb168 ∧ k_ ≠ gb169)))); (case aS => exact (below_size (by repeat (first | (with_reducible first | exact HB.out | apply ba_ | apply bn_ | apply bd_ | refine below_set ?_ GE162.out | refine below_set ?_ GE168.out | refine below_set ?_ GE169.out) | exact HB.out)))); (case aL => have := LMc53.out; omega); intro v180 w65 ho hb hg hat; rw [← Ny179.out] at ho; have n0_ := ak_ (blk_grown (g := gb162) (o := .cells #[.int .u64 a1_0, .int .u64 a1_1] 34 (0, 0)) (by (with_reducible repeat (first | refine kn_ ?_ _ | refine kd_ ?_ | refine ka_ ?_ _)); refine blk_far ?_ NB162_169.out _; (with_reducible repeat (first | refine kn_ ?_ _ | refine kd_ ?_ | refine ka_ ?_ _)); refine blk_far ?_ NB162_169.out _; (with_reducible repeat (first | refine kn_ ?_ _ | refine kd_ ?_ | refine ka_ ?_ _)); refine blk_far ?_ NB162_168.out _; (with_reducible repeat (first | refine kn_ ?_ _ | refine kd_ ?_ | refine ka_ ?_ _)); refine blk_far ?_ NB162_168.out _; (with_reducible repeat (first | refine kn_ ?_ _ | refine kd_ ?_ | refine ka_ ?_ _)); exact BK162.out) hg (by simp [Value.ownBlock])); have n1_ := ak_ (blk_grown (g := gb168) (o := .cells #[.int .u64 t163, .int .u64 t164] 52 (0, 0)) (by (with_reducible repeat (first | refine kn_ ?_ _ | refine kd_ ?_ | refine ka_ ?_ _)); refine blk_far ?_ NB168_169.out _; (with_reducible repeat (first | refine kn_ ?_ _ | refine kd_ ?_ | refine ka_ ?_ _)); refine blk_far ?_ NB168_169.out _; (with_reducible repeat (first | refine kn_ ?_ _ | refine kd_ ?_ | refine ka_ ?_ _)); refine blk_put (cs := #[.int .u64 t163, .int .u64 0]) ?_ 1 _ rfl; (with_reducible repeat (first | refine kn_ ?_ _ | refine kd_ ?_ | refine ka_ ?_ _)); refine blk_put (cs := #[.int .u64 0, .int .u64 0]) ?_ 0 _ rfl; (with_reducible repeat (first | refine kn_ ?_ _ | refine kd_ ?_ | refine ka_ ?_ _)); exact BK168.out) hg (by simp [Value.ownBlock])); have n2_ := ak_ (blk_grown (g := gb169) (o := .cells #[.int .u64 t165, .int .u64 t166] 52 (0, 0)) (by (with_reducible repeat (first | refine kn_ ?_ _ | refine kd_ ?_ | refine ka_ ?_ _)); refine blk_put (cs := #[.int .u64 t165, .int .u64 0]) ?_ 1 _ rfl; (with_reducible repeat (first | refine kn_ ?_ _ | refine kd_ ?_ | refine ka_ ?_ _)); refine blk_put (cs := #[.int .u64 0, .int .u64 0]) ?_ 0 _ rfl; (with_reducible repeat (first | refine kn_ ?_ _ | refine kd_ ?_ | refine ka_ ?_ _)); refine blk_far ?_ NB169_168.out _; (with_reducible repeat (first | refine kn_ ?_ _ | refine kd_ ?_ | refine ka_ ?_ _)); refine blk_far ?_ NB169_168.out _; (with_reducible repeat (first | refine kn_ ?_ _ | refine kd_ ?_ | refine ka_ ?_ _)); exact BK169.out) hg (by simp [Value.ownBlock])); have n3_ := ak_ (hb); have n4_ := ak_ (ho); clear BK162; clear BK168; clear BK169; clear HB; have BK162 := n0_; have BK168 := n1_; have BK169 := n2_; have HB := n3_; have HO181 := n4_; clear n0_ n1_ n2_ n3_ n4_; clear ho hb hg hat))
       go_ret2
       exact ⟨_, by first | rfl | (simp <;> rfl) | (simp [*] <;> rfl), by (with_reducible repeat (first | apply Kd.R_alloc | apply Kd.R_drewN | apply Kd.R_drew)); exact Kd.R_mono HO181.out (fun _ hk => trivial), by repeat (first | (with_reducible first | exact HB.out | apply ba_ | apply bn_ | apply bd_ | refine below_set ?_ GE162.out | refine below_set ?_ GE168.out | refine below_set ?_ GE169.out) | exact HB.out)⟩
      ·rw [if_neg c53] at H
       exact absurd H (by simp)
     ·rw [if_neg c52] at H
      have c52b0 : decide (t166 < t164) = false := decide_eq_false c52
      clear c52
      simp only [Option.some.injEq, Prod.mk.injEq] at H
      obtain ⟨rfl, rfl⟩ := H
      go_enter Try.func26, Try.ntmps26
      go_wp2_with (first | ((with_reducible refine gate_dst (N := 3) rfl ?_); refine box_event ?hg (N := 3) ?hd (cs := #[.int .u64 a1_0, .int .u64 a1_1]) (t := 34) ?hr ?_; (case hd => rfl); (case hg => rfl); (case hr => first | (go_simp; done) | (go_simp; rfl)); intro gb162 hg w66 hbox hb; have n0_ := ak_ (below_step (by repeat (first | (with_reducible first | exact HB.out | apply ba_ | apply bn_ | apply bd_) | exact HB.out)) hb); have n1_ := ak_ (hbox); have n2_ := ak_ ((by rw [hg]; exact (below_size (by repeat (first | (with_reducible first | exact HB.out | apply ba_ | apply bn_ | apply bd_) | exact HB.out))) : w.heap.size ≤ gb162)); have n3_ := ak_ ((by rw [hg]; exact (below_size (by repeat (first | (with_reducible first | exact HB.out | apply ba_ | apply bn_ | apply bd_) | exact HB.out))) : w.heap.size ≤ gb162)); clear HB; have HB := n0_; have BK162 := n1_; have GW162 := n2_; have GE162 := n3_; clear n0_ n1_ n2_ n3_; clear hb hbox hg; have hcz67_0 : w66.cell? ⟨gb162, 0, none⟩ = some (.int .u64 a1_0) := (blk_cell BK162.out 0).trans rfl; have hcz67_1 : w66.cell? ⟨gb162, 1, none⟩ = some (.int .u64 a1_1) := (blk_cell BK162.out 1).trans rfl; have hfz67_0 := blk_frozen BK162.out 0; have hfz67_1 := blk_frozen BK162.out 1) | ((with_reducible refine gate_callee (f := 52) rfl ?_); refine goesL_ (some 11) rfl rfl Try.func52 (by kernel_rfl) rfl #[.int .i64 a0, .agg #[.int .u64 a1_0, .int .u64 a1_1]] rfl (by (try simp only [map_toArray, map_cons, map_nil]); first | done | rfl | (simp only [length_drop, length_take]; rfl)) ?_; (with_reducible refine (sub_both.calls k a0 a1_0 a1_1 t163 t164 t165 t166 t167 _ A3.out).mono ?_); rintro e w68 ⟨rfl, hb⟩; refine ⟨_, rfl, ?_⟩; have n0_ := ak_ (blk_below (g := gb162) (o := .cells #[.int .u64 a1_0, .int .u64 a1_1] 34 (0, 0)) (by (with_reducible repeat (first | refine kn_ ?_ _ | refine kd_ ?_ | refine ka_ ?_ _)); exact BK162.out) hb); have n1_ := ak_ (below_step (by repeat (first | (with_reducible first | exact HB.out | apply ba_ | apply bn_ | apply bd_ | refine below_set ?_ GE162.out) | exact HB.out)) hb); clear BK162; clear HB; have BK162 := n0_; have HB := n1_; clear n0_ n1_; (try clear hb); (try clear hb2); (try clear hk); (try clear hi)) | ((with_reducible refine gate_dst (N := 6) rfl ?_); refine box_event ?hg (N := 6) ?hd (cs := #[.int .u64 0, .int .u64 0]) (t := 52) ?hr ?_; (case hd => rfl); (case hg => rfl); (case hr => first | (go_simp; done) | (go_simp; rfl)); intro gb168 hg w69 hbox hb; have n0_ := ak_ (blk_below (g := gb162) (o := .cells #[.int .u64 a1_0, .int .u64 a1_1] 34 (0, 0)) (by (with_reducible repeat (first | refine kn_ ?_ _ | refine kd_ ?_ | refine ka_ ?_ _)); exact BK162.out) hb); have n1_ := ak_ (below_step (by repeat (first | (with_reducible first | exact HB.out | apply ba_ | apply bn_ | apply bd_ | refine below_set ?_ GE162.out) | exact HB.out)) hb); have n2_ := ak_ (hbox); have n3_ := ak_ ((by rw [hg]; exact (below_size (by repeat (first | (with_reducible first | exact HB.out | apply ba_ | apply bn_ | apply bd_ | refine below_set ?_ GE162.out) | exact HB.out))) : w.heap.size ≤ gb168)); have n4_ := ak_ ((by rw [hg]; exact (below_size (by repeat (first | (with_reducible first | exact HB.out | apply ba_ | apply bn_ | apply bd_ | refine below_set ?_ GE162.out) | exact HB.out))) : w.heap.size ≤ gb168)); have n5_ := ak_ ((by rw [hg]; exact Nat.ne_of_lt (blk_lt (g := gb162) (o := .cells #[.int .u64 a1_0, .int .u64 a1_1] 34 (0, 0)) (by (with_reducible repeat (first | refine kn_ ?_ _ | refine kd_ ?_ | refine ka_ ?_ _)); exact BK162.out)) : gb162 ≠ gb168)); have n6_ := ak_ ((by rw [hg]; exact Nat.ne_of_gt (blk_lt (g := gb162) (o := .cells #[.int .u64 a1_0, .int .u64 a1_1] 34 (0, 0)) (by (with_reducible repeat (first | refine kn_ ?_ _ | refine kd_ ?_ | refine ka_ ?_ _)); exact BK162.out)) : gb168 ≠ gb162)); clear BK162; clear HB; have BK162 := n0_; have HB := n1_; have BK168 := n2_; have GW168 := n3_; have GE168 := n4_; have NB162_168 := n5_; have NB168_162 := n6_; clear n0_ n1_ n2_ n3_ n4_ n5_ n6_; clear hb hbox hg) | ((with_reducible refine gate_dst (N := 7) rfl ?_); refine box_event ?hg (N := 7) ?hd (cs := #[.int .u64 0, .int .u64 0]) (t := 52) ?hr ?_; (case hd => rfl); (case hg => rfl); (case hr => first | (go_simp; done) | (go_simp; rfl)); intro gb169 hg w70 hbox hb; have n0_ := ak_ (blk_below (g := gb162) (o := .cells #[.int .u64 a1_0, .int .u64 a1_1] 34 (0, 0)) (by (with_reducible repeat (first | refine kn_ ?_ _ | refine kd_ ?_ | refine ka_ ?_ _)); exact BK162.out) hb); have n1_ := ak_ (blk_below (g := gb168) (o := .cells #[.int .u64 0, .int .u64 0] 52 (0, 0)) (by (with_reducible repeat (first | refine kn_ ?_ _ | refine kd_ ?_ | refine ka_ ?_ _)); exact BK168.out) hb); have n2_ := ak_ (below_step (by repeat (first | (with_reducible first | exact HB.out | apply ba_ | apply bn_ | apply bd_ | refine below_set ?_ GE162.out | refine below_set ?_ GE168.out) | exact HB.out)) hb); have n3_ := ak_ (hbox); have n4_ := ak_ ((by rw [hg]; exact (below_size (by repeat (first | (with_reducible first | exact HB.out | apply ba_ | apply bn_ | apply bd_ | refine below_set ?_ GE162.out | refine below_set ?_ GE168.out) | exact HB.out))) : w.heap.size ≤ gb169)); have n5_ := ak_ ((by rw [hg]; exact (below_size (by repeat (first | (with_reducible first | exact HB.out | apply ba_ | apply bn_ | apply bd_ | refine below_set ?_ GE162.out | refine below_set ?_ GE168.out) | exact HB.out))) : w.heap.size ≤ gb169)); have n6_ := ak_ ((by rw [hg]; exact Nat.ne_of_lt (blk_lt (g := gb162) (o := .cells #[.int .u64 a1_0, .int .u64 a1_1] 34 (0, 0)) (by (with_reducible repeat (first | refine kn_ ?_ _ | refine kd_ ?_ | refine ka_ ?_ _)); exact BK162.out)) : gb162 ≠ gb169)); have n7_ := ak_ ((by rw [hg]; exact Nat.ne_of_gt (blk_lt (g := gb162) (o := .cells #[.int .u64 a1_0, .int .u64 a1_1] 34 (0, 0)) (by (with_reducible repeat (first | refine kn_ ?_ _ | refine kd_ ?_ | refine ka_ ?_ _)); exact BK162.out)) : gb169 ≠ gb162)); have n8_ := ak_ ((by rw [hg]; exact Nat.ne_of_lt (blk_lt (g := gb168) (o := .cells #[.int .u64 0, .int .u64 0] 52 (0, 0)) (by (with_reducible repeat (first | refine kn_ ?_ _ | refine kd_ ?_ | refine ka_ ?_ _)); exact BK168.out)) : gb168 ≠ gb169)); have n9_ := ak_ ((by rw [hg]; exact Nat.ne_of_gt (blk_lt (g := gb168) (o := .cells #[.int .u64 0, .int .u64 0] 52 (0, 0)) (by (with_reducible repeat (first | refine kn_ ?_ _ | refine kd_ ?_ | refine ka_ ?_ _)); exact BK168.out)) : gb169 ≠ gb168)); clear BK162; clear BK168; clear HB; have BK162 := n0_; have BK168 := n1_; have HB := n2_; have BK169 := n3_; have GW169 := n4_; have GE169 := n5_; have NB162_169 := n6_; have NB169_162 := n7_; have NB168_169 := n8_; have NB169_168 := n9_; clear n0_ n1_ n2_ n3_ n4_ n5_ n6_ n7_ n8_ n9_; clear hb hbox hg; have hnb71 := NB168_162.out; have hnc71 := NB162_168.out; have hnb72 := NB168_169.out; have hnc72 := NB169_168.out; have hcz73_0 : w70.cell? ⟨gb168, 0, none⟩ = some (.int .u64 0) := (blk_cell BK168.out 0).trans rfl; have hcz73_1 : w70.cell? ⟨gb168, 1, none⟩ = some (.int .u64 0) := (blk_cell BK168.out 1).trans rfl; have hfz73_0 := blk_frozen BK168.out 0; have hfz73_1 := blk_frozen BK168.out 1; have hnb74 := NB169_162.out; have hnc74 := NB162_169.out; have hcz75_0 : w70.cell? ⟨gb169, 0, none⟩ = some (.int .u64 0) := (blk_cell BK169.out 0).trans rfl; have hcz75_1 : w70.cell? ⟨gb169, 1, none⟩ = some (.int .u64 0) := (blk_cell BK169.out 1).trans rfl; have hfz75_0 := blk_frozen BK169.out 0; have hfz75_1 := blk_frozen BK169.out 1; have hcz76_0 : w70.cell? ⟨gb162, 0, none⟩ = some (.int .u64 a1_0) := (blk_cell BK162.out 0).trans rfl; have hcz76_1 : w70.cell? ⟨gb162, 1, none⟩ = some (.int .u64 a1_1) := (blk_cell BK162.out 1).trans rfl; have hfz76_0 := blk_frozen BK162.out 0; have hfz76_1 := blk_frozen BK162.out 1))
      go_ret2
      exact ⟨_, by first | rfl | (simp <;> rfl) | (simp [*] <;> rfl), by first | exact Kd.R_nil _ _ _ _ _ | exact Kd.N_nil _ _ _ _ _ | exact Kd.V_nil _ _ _ _ _ | exact Kd.Q_nil _ _ _ _ _ | exact Kd.S_nil _ _ _ _ _, by repeat (first | (with_reducible first | exact HB.out | apply ba_ | apply bn_ | apply bd_ | refine below_set ?_ GE162.out | refine below_set ?_ GE168.out | refine below_set ?_ GE169.out) | exact HB.out)⟩
  ·rw [if_neg c4] at H
   have c4b0 : (t167 == 0) = false := beq_eq_false_iff_ne.mpr c4
   have c4b1 : (t167 != 0) = true := bne_iff_ne.mpr c4
   simp only [Option.some.injEq, Prod.mk.injEq] at H
   obtain ⟨rfl, rfl⟩ := H
   go_enter Try.func26, Try.ntmps26
   go_wp2_with (first | ((with_reducible refine gate_dst (N := 3) rfl ?_); refine box_event ?hg (N := 3) ?hd (cs := #[.int .u64 a1_0, .int .u64 a1_1]) (t := 34) ?hr ?_; (case hd => rfl); (case hg => rfl); (case hr => first | (go_simp; done) | (go_simp; rfl)); intro gb162 hg w77 hbox hb; have n0_ := ak_ (below_step (by repeat (first | (with_reducible first | exact HB.out | apply ba_ | apply bn_ | apply bd_) | exact HB.out)) hb); have n1_ := ak_ (hbox); have n2_ := ak_ ((by rw [hg]; exact (below_size (by repeat (first | (with_reducible first | exact HB.out | apply ba_ | apply bn_ | apply bd_) | exact HB.out))) : w.heap.size ≤ gb162)); have n3_ := ak_ ((by rw [hg]; exact (below_size (by repeat (first | (with_reducible first | exact HB.out | apply ba_ | apply bn_ | apply bd_) | exact HB.out))) : w.heap.size ≤ gb162)); clear HB; have HB := n0_; have BK162 := n1_; have GW162 := n2_; have GE162 := n3_; clear n0_ n1_ n2_ n3_; clear hb hbox hg; have hcz78_0 : w77.cell? ⟨gb162, 0, none⟩ = some (.int .u64 a1_0) := (blk_cell BK162.out 0).trans rfl; have hcz78_1 : w77.cell? ⟨gb162, 1, none⟩ = some (.int .u64 a1_1) := (blk_cell BK162.out 1).trans rfl; have hfz78_0 := blk_frozen BK162.out 0; have hfz78_1 := blk_frozen BK162.out 1) | ((with_reducible refine gate_callee (f := 52) rfl ?_); refine goesL_ (some 11) rfl rfl Try.func52 (by kernel_rfl) rfl #[.int .i64 a0, .agg #[.int .u64 a1_0, .int .u64 a1_1]] rfl (by (try simp only [map_toArray, map_cons, map_nil]); first | done | rfl | (simp only [length_drop, length_take]; rfl)) ?_; (with_reducible refine (sub_both.calls k a0 a1_0 a1_1 t163 t164 t165 t166 t167 _ A3.out).mono ?_); rintro e w79 ⟨rfl, hb⟩; refine ⟨_, rfl, ?_⟩; have n0_ := ak_ (blk_below (g := gb162) (o := .cells #[.int .u64 a1_0, .int .u64 a1_1] 34 (0, 0)) (by (with_reducible repeat (first | refine kn_ ?_ _ | refine kd_ ?_ | refine ka_ ?_ _)); exact BK162.out) hb); have n1_ := ak_ (below_step (by repeat (first | (with_reducible first | exact HB.out | apply ba_ | apply bn_ | apply bd_ | refine below_set ?_ GE162.out) | exact HB.out)) hb); clear BK162; clear HB; have BK162 := n0_; have HB := n1_; clear n0_ n1_; (try clear hb); (try clear hb2); (try clear hk); (try clear hi)) | ((with_reducible refine gate_dst (N := 6) rfl ?_); refine box_event ?hg (N := 6) ?hd (cs := #[.int .u64 0, .int .u64 0]) (t := 52) ?hr ?_; (case hd => rfl); (case hg => rfl); (case hr => first | (go_simp; done) | (go_simp; rfl)); intro gb168 hg w80 hbox hb; have n0_ := ak_ (blk_below (g := gb162) (o := .cells #[.int .u64 a1_0, .int .u64 a1_1] 34 (0, 0)) (by (with_reducible repeat (first | refine kn_ ?_ _ | refine kd_ ?_ | refine ka_ ?_ _)); exact BK162.out) hb); have n1_ := ak_ (below_step (by repeat (first | (with_reducible first | exact HB.out | apply ba_ | apply bn_ | apply bd_ | refine below_set ?_ GE162.out) | exact HB.out)) hb); have n2_ := ak_ (hbox); have n3_ := ak_ ((by rw [hg]; exact (below_size (by repeat (first | (with_reducible first | exact HB.out | apply ba_ | apply bn_ | apply bd_ | refine below_set ?_ GE162.out) | exact HB.out))) : w.heap.size ≤ gb168)); have n4_ := ak_ ((by rw [hg]; exact (below_size (by repeat (first | (with_reducible first | exact HB.out | apply ba_ | apply bn_ | apply bd_ | refine below_set ?_ GE162.out) | exact HB.out))) : w.heap.size ≤ gb168)); have n5_ := ak_ ((by rw [hg]; exact Nat.ne_of_lt (blk_lt (g := gb162) (o := .cells #[.int .u64 a1_0, .int .u64 a1_1] 34 (0, 0)) (by (with_reducible repeat (first | refine kn_ ?_ _ | refine kd_ ?_ | refine ka_ ?_ _)); exact BK162.out)) : gb162 ≠ gb168)); have n6_ := ak_ ((by rw [hg]; exact Nat.ne_of_gt (blk_lt (g := gb162) (o := .cells #[.int .u64 a1_0, .int .u64 a1_1] 34 (0, 0)) (by (with_reducible repeat (first | refine kn_ ?_ _ | refine kd_ ?_ | refine ka_ ?_ _)); exact BK162.out)) : gb168 ≠ gb162)); clear BK162; clear HB; have BK162 := n0_; have HB := n1_; have BK168 := n2_; have GW168 := n3_; have GE168 := n4_; have NB162_168 := n5_; have NB168_162 := n6_; clear n0_ n1_ n2_ n3_ n4_ n5_ n6_; clear hb hbox hg) | ((with_reducible refine gate_dst (N := 7) rfl ?_); refine box_event ?hg (N := 7) ?hd (cs := #[.int .u64 0, .int .u64 0]) (t := 52) ?hr ?_; (case hd => rfl); (case hg => rfl); (case hr => first | (go_simp; done) | (go_simp; rfl)); intro gb169 hg w81 hbox hb; have n0_ := ak_ (blk_below (g := gb162) (o := .cells #[.int .u64 a1_0, .int .u64 a1_1] 34 (0, 0)) (by (with_reducible repeat (first | refine kn_ ?_ _ | refine kd_ ?_ | refine ka_ ?_ _)); exact BK162.out) hb); have n1_ := ak_ (blk_below (g := gb168) (o := .cells #[.int .u64 0, .int .u64 0] 52 (0, 0)) (by (with_reducible repeat (first | refine kn_ ?_ _ | refine kd_ ?_ | refine ka_ ?_ _)); exact BK168.out) hb); have n2_ := ak_ (below_step (by repeat (first | (with_reducible first | exact HB.out | apply ba_ | apply bn_ | apply bd_ | refine below_set ?_ GE162.out | refine below_set ?_ GE168.out) | exact HB.out)) hb); have n3_ := ak_ (hbox); have n4_ := ak_ ((by rw [hg]; exact (below_size (by repeat (first | (with_reducible first | exact HB.out | apply ba_ | apply bn_ | apply bd_ | refine below_set ?_ GE162.out | refine below_set ?_ GE168.out) | exact HB.out))) : w.heap.size ≤ gb169)); have n5_ := ak_ ((by rw [hg]; exact (below_size (by repeat (first | (with_reducible first | exact HB.out | apply ba_ | apply bn_ | apply bd_ | refine below_set ?_ GE162.out | refine below_set ?_ GE168.out) | exact HB.out))) : w.heap.size ≤ gb169)); have n6_ := ak_ ((by rw [hg]; exact Nat.ne_of_lt (blk_lt (g := gb162) (o := .cells #[.int .u64 a1_0, .int .u64 a1_1] 34 (0, 0)) (by (with_reducible repeat (first | refine kn_ ?_ _ | refine kd_ ?_ | refine ka_ ?_ _)); exact BK162.out)) : gb162 ≠ gb169)); have n7_ := ak_ ((by rw [hg]; exact Nat.ne_of_gt (blk_lt (g := gb162) (o := .cells #[.int .u64 a1_0, .int .u64 a1_1] 34 (0, 0)) (by (with_reducible repeat (first | refine kn_ ?_ _ | refine kd_ ?_ | refine ka_ ?_ _)); exact BK162.out)) : gb169 ≠ gb162)); have n8_ := ak_ ((by rw [hg]; exact Nat.ne_of_lt (blk_lt (g := gb168) (o := .cells #[.int .u64 0, .int .u64 0] 52 (0, 0)) (by (with_reducible repeat (first | refine kn_ ?_ _ | refine kd_ ?_ | refine ka_ ?_ _)); exact BK168.out)) : gb168 ≠ gb169)); have n9_ := ak_ ((by rw [hg]; exact Nat.ne_of_gt (blk_lt (g := gb168) (o := .cells #[.int .u64 0, .int .u64 0] 52 (0, 0)) (by (with_reducible repeat (first | refine kn_ ?_ _ | refine kd_ ?_ | refine ka_ ?_ _)); exact BK168.out)) : gb169 ≠ gb168)); clear BK162; clear BK168; clear HB; have BK162 := n0_; have BK168 := n1_; have HB := n2_; have BK169 := n3_; have GW169 := n4_; have GE169 := n5_; have NB162_169 := n6_; have NB169_162 := n7_; have NB168_169 := n8_; have NB169_168 := n9_; clear n0_ n1_ n2_ n3_ n4_ n5_ n6_ n7_ n8_ n9_; clear hb hbox hg; have hnb82 := NB168_162.out; have hnc82 := NB162_168.out; have hnb83 := NB168_169.out; have hnc83 := NB169_168.out; have hcz84_0 : w81.cell? ⟨gb168, 0, none⟩ = some (.int .u64 0) := (blk_cell BK168.out 0).trans rfl; have hcz84_1 : w81.cell? ⟨gb168, 1, none⟩ = some (.int .u64 0) := (blk_cell BK168.out 1).trans rfl; have hfz84_0 := blk_frozen BK168.out 0; have hfz84_1 := blk_frozen BK168.out 1; have hnb85 := NB169_162.out; have hnc85 := NB162_169.out; have hcz86_0 : w81.cell? ⟨gb169, 0, none⟩ = some (.int .u64 0) := (blk_cell BK169.out 0).trans rfl; have hcz86_1 : w81.cell? ⟨gb169, 1, none⟩ = some (.int .u64 0) := (blk_cell BK169.out 1).trans rfl; have hfz86_0 := blk_frozen BK169.out 0; have hfz86_1 := blk_frozen BK169.out 1))
   go_ret2
   exact ⟨_, by first | rfl | (simp <;> rfl) | (simp [*] <;> rfl), by first | exact Kd.R_nil _ _ _ _ _ | exact Kd.N_nil _ _ _ _ _ | exact Kd.V_nil _ _ _ _ _ | exact Kd.Q_nil _ _ _ _ _ | exact Kd.S_nil _ _ _ _ _, by repeat (first | (with_reducible first | exact HB.out | apply ba_ | apply bn_ | apply bd_ | refine below_set ?_ GE162.out | refine below_set ?_ GE168.out | refine below_set ?_ GE169.out) | exact HB.out)⟩

/-! ### leaf_Many: function 27 -/
def leaf_Many.l0 : Nat → Int → List (S52) → Int → List (S52) → Int → Int → Option (Int × Int)
  | 0, _, _, _, _, _, _ => none
  | k + 1, x0, x1, x4, x14, x15, x16 => if x16 < x15 then (if 0 ≤ x16 then (if x16 < (x14.length : Int) then (if ((rd_T52 x14 x16).f0) > ((rd_T52 x14 x16).f1) then (some (0, 1)) else ((leaf_is.f x0 ((rd_T52 x14 x16).f1)).bind fun t185 => (if t185 = true then (if x16 > 0 then (if 0 ≤ (wrap64 (x16 - 1)) then (if (wrap64 (x16 - 1)) < (x1.length : Int) then (if ((rd_T52 x1 (wrap64 (x16 - 1))).f1) ≥ ((rd_T52 x14 x16).f0) then (some (0, 1)) else (leaf_Many.l0 k x0 x1 (IntKind.u64.wrap (x4 + (IntKind.u64.wrap ((IntKind.u64.wrap (((rd_T52 x14 x16).f1) - ((rd_T52 x14 x16).f0))) + 1)))) x14 x15 (wrap64 (x16 + 1)))) else (none)) else (none)) else (leaf_Many.l0 k x0 x1 (IntKind.u64.wrap (x4 + (IntKind.u64.wrap ((IntKind.u64.wrap (((rd_T52 x14 x16).f1) - ((rd_T52 x14 x16).f0))) + 1)))) x14 x15 (wrap64 (x16 + 1)))) else (some (0, 1))))) else (none)) else (none)) else (some (x4, 0))
def leaf_Many.f (k : Nat) (a0 : Int) (l1 : List (S52)) : Option (Int × Int) := (node_Check.f k a0 1).bind fun t182 => (if t182 = 0 then (leaf_Many.l0 k a0 l1 0 l1 (l1.length : Int) 0) else (some (0, t182)))
theorem leaf_Many.mono_l : ∀ k, (∀ y0 y1 y2 y3 y4 y5, LeO (leaf_Many.l0 k y0 y1 y2 y3 y4 y5) (leaf_Many.l0 (k + 1) y0 y1 y2 y3 y4 y5))
  | 0 => fun _ _ _ _ _ _ r h => by simp [leaf_Many.l0] at h
  | k + 1 => by
   have ih0 := leaf_Many.mono_l k
   ·intro y0 y1 y2 y3 y4 y5
    unfold leaf_Many.l0
    repeat' first
    | (with_reducible exact ih0 _ _ _ _ _ _)
    | (with_reducible exact node_Check.mono _ _ _)
    | (with_reducible exact LeO.refl _)
    | (with_reducible exact LeO.none _)
    | (with_reducible refine LeO.ite ?_ ?_)
    | (with_reducible refine LeO.bind ?_ (fun _ => ?_))
    | exact ih0 _ _ _ _ _ _
    | exact node_Check.mono _ _ _
    | exact LeO.none _
    | refine LeO.ite ?_ ?_
    | refine LeO.bind ?_ (fun _ => ?_)
theorem leaf_Many.mono : ∀ a0 a1 k, LeO (leaf_Many.f k a0 a1) (leaf_Many.f (k + 1) a0 a1) := by
  intro a0 a1 k
  have ih0 := leaf_Many.mono_l k
  unfold leaf_Many.f
  repeat' first
    | (with_reducible exact ih0 _ _ _ _ _ _)
    | (with_reducible exact node_Check.mono _ _ _)
    | (with_reducible exact LeO.refl _)
    | (with_reducible exact LeO.none _)
    | (with_reducible refine LeO.ite ?_ ?_)
    | (with_reducible refine LeO.bind ?_ (fun _ => ?_))
    | exact ih0 _ _ _ _ _ _
    | exact node_Check.mono _ _ _
    | exact LeO.none _
    | refine LeO.ite ?_ ?_
    | refine LeO.bind ?_ (fun _ => ?_)
set_option maxHeartbeats 8000000 in
set_option maxRecDepth 100000 in
theorem leaf_Many.calls (k : Nat) (a0 : Int) (A1 : Option Addr) (c1 : Nat) (l1 : List (S52)) (r1 : Int) (r2 : Int) (w : World) (hr1 : Kd.C k52 w A1 l1.length l1) (hc1 : l1.length ≤ c1) (h : leaf_Many.f k a0 l1 = some (r1, r2)) :
   Calls Try.prog 27 #[.int .i64 a0, .slice A1 l1.length c1] w fun e w' => e = .returned (.tuple #[.int .u64 r1, .int .i64 r2]) ∧ Below w.heap.size w w' := by
  have hu52 := Try.underlying52
  have HR1 := ak_ hr1
  have HC1 := ak_ hc1
  clear hr1 hc1
  have HB := ak_ (Below.refl w.heap.size w)
  have H : ((node_Check.f k a0 1).bind fun t182 => (if t182 = 0 then (leaf_Many.l0 k a0 l1 0 l1 (l1.length : Int) 0) else (some (0, t182)))) = some (r1, r2) := h
  clear h
  replace H := Option.bind_eq_some_iff.mp H
  obtain ⟨t182, A30, H⟩ := H
  replace H : (if t182 = 0 then (leaf_Many.l0 k a0 l1 0 l1 (l1.length : Int) 0) else (some (0, t182))) = some (r1, r2) := H
  have A3 := ak_ A30
  clear A30
  by_cases c4 : t182 = 0
  ·rw [if_pos c4] at H
   have c4b0 : (t182 == 0) = true := beq_iff_eq.mpr c4
   have c4b1 : (t182 != 0) = false := bne_eq_false_iff_eq.mpr c4
   clear c4
   have H' := ak_ H
   clear H
   go_enter Try.func27, Try.ntmps27
   go_wp2_with (first | (go_at_call 64; (with_reducible refine (node_Check.calls k a0 1 t182 _ A3.out).mono ?_); rintro e w' ⟨rfl, ⟨nd, rfl⟩⟩; (try first | exact ⟨rfl, _, World.drewN_drewN _ _ _⟩ | exact ⟨rfl, _, Eq.trans (World.drewN_drewN _ _ _) (congrArg (World.drewN _) (Nat.add_assoc _ _ _))⟩)))
   repeat (go_quiet (first | (go_at_call 64; (with_reducible refine (node_Check.calls k a0 1 t182 _ A3.out).mono ?_); rintro e w' ⟨rfl, ⟨nd, rfl⟩⟩; (try first | exact ⟨rfl, _, World.drewN_drewN _ _ _⟩ | exact ⟨rfl, _, Eq.trans (World.drewN_drewN _ _ _) (congrArg (World.drewN _) (Nat.add_assoc _ _ _))⟩))); try go_wp2_with (first | (go_at_call 64; (with_reducible refine (node_Check.calls k a0 1 t182 _ A3.out).mono ?_); rintro e w' ⟨rfl, ⟨nd, rfl⟩⟩; (try first | exact ⟨rfl, _, World.drewN_drewN _ _ _⟩ | exact ⟨rfl, _, Eq.trans (World.drewN_drewN _ _ _) (congrArg (World.drewN _) (Nat.add_assoc _ _ _))⟩))))
   go_loopg [4, 16] k (fun kq v4 v16 w' => ∃ (x4_1 : Int) (x16_1 : Int), v4 = .int .u64 x4_1 ∧ v16 = .int .i64 x16_1 ∧ Aside0 (leaf_Many.l0 kq a0 l1 x4_1 l1 (l1.length : Int) x16_1 = some (r1, r2)) ∧ Aside0 (kq ≤ k) ∧ Aside0 (Below w.heap.size w w'))
   case atStart => exact ⟨(0), (0), (by first | rfl | (simp; done) | (simp [*]; done)), (by first | rfl | (simp; done) | (simp [*]; done)), H', ⟨Nat.le_refl _⟩, ⟨by repeat (first | (with_reducible first | exact HB.out | apply ba_ | apply bn_ | apply bd_) | exact HB.out)⟩⟩
   case round =>
    clear H'
    try clear c1
    try clear c2
    try clear p2
    try clear c4
    try clear c4b0
    try clear c4b1
    obtain ⟨x4_1, x16_1, rfl, rfl, HA, HK1, HB⟩ := hrel
    cases gk with
    | zero => exact absurd HA.out (by simp [leaf_Many.l0])
    | succ k1 =>
     have H := HA.out
     clear HA
     simp only [leaf_Many.l0] at H
     by_cases c5 : x16_1 < (l1.length : Int)
     ·rw [if_pos c5] at H
      have c5b0 : decide (x16_1 < (l1.length : Int)) = true := decide_eq_true c5
      clear c5
      by_cases c6 : 0 ≤ x16_1
      ·rw [if_pos c6] at H
       have c6b0 : decide (0 ≤ x16_1) = true := decide_eq_true c6
       clear c6
       by_cases c7 : x16_1 < (l1.length : Int)
       ·rw [if_pos c7] at H
        have c7b0 : decide (x16_1 < (l1.length : Int)) = true := decide_eq_true c7
        clear c7
        by_cases c8 : ((rd_T52 l1 x16_1).f0) > ((rd_T52 l1 x16_1).f1)
        ·rw [if_pos c8] at H
         have c8b0 : decide (((rd_T52 l1 x16_1).f1) < ((rd_T52 l1 x16_1).f0)) = true := decide_eq_true c8
         clear c8
         simp only [Option.some.injEq, Prod.mk.injEq] at H
         obtain ⟨rfl, rfl⟩ := H
         have p183 : 0 ≤ (x16_1 : Int) := of_decide_eq_true (by first | (with_reducible assumption) | assumption)
         have q183 : x16_1 < (l1.length : Int) := of_decide_eq_true (by first | (with_reducible assumption) | assumption)
         obtain ⟨ad183, e183, hx183_0, hx183_1⟩ := at_T52 HR1.out x16_1 p183 q183
         cases e183
         replace hx183_0 := (HB.out.cell (World.block_lt_of_cell? w _ hx183_0)).trans hx183_0
         replace hx183_1 := (HB.out.cell (World.block_lt_of_cell? w _ hx183_1)).trans hx183_1
         replace p183 := eq_true p183
         replace q183 := eq_true q183
         go_wp2_with (first | ((with_reducible refine gate_dst (N := 8) rfl ?_); refine box_event ?hg (N := 8) ?hd (cs := #[.int .u64 0, .int .u64 0]) (t := 52) ?hr ?_; (case hd => rfl); (case hg => rfl); (case hr => first | (go_simp; done) | (go_simp; rfl)); intro gb184 hg w9 hbox hb; have n0_ := ak_ (below_step (by repeat (first | (with_reducible first | exact HB.out | apply ba_ | apply bn_ | apply bd_) | exact HB.out)) hb); have n1_ := ak_ (hbox); have n2_ := ak_ ((by rw [hg]; exact (below_size (by repeat (first | (with_reducible first | exact HB.out | apply ba_ | apply bn_ | apply bd_) | exact HB.out))) : w.heap.size ≤ gb184)); have n3_ := ak_ ((by rw [hg]; exact (below_size (by repeat (first | (with_reducible first | exact HB.out | apply ba_ | apply bn_ | apply bd_) | exact HB.out))) : w.heap.size ≤ gb184)); clear HB; have HB := n0_; have BK184 := n1_; have GW184 := n2_; have GE184 := n3_; clear n0_ n1_ n2_ n3_; clear hb hbox hg; have hcz10_0 : w9.cell? ⟨gb184, 0, none⟩ = some (.int .u64 0) := (blk_cell BK184.out 0).trans rfl; have hcz10_1 : w9.cell? ⟨gb184, 1, none⟩ = some (.int .u64 0) := (blk_cell BK184.out 1).trans rfl; have hfz10_0 := blk_frozen BK184.out 0; have hfz10_1 := blk_frozen BK184.out 1))
         repeat (go_quiet (first | ((with_reducible refine gate_dst (N := 8) rfl ?_); refine box_event ?hg (N := 8) ?hd (cs := #[.int .u64 0, .int .u64 0]) (t := 52) ?hr ?_; (case hd => rfl); (case hg => rfl); (case hr => first | (go_simp; done) | (go_simp; rfl)); intro gb184 hg w9 hbox hb; have n0_ := ak_ (below_step (by repeat (first | (with_reducible first | exact HB.out | apply ba_ | apply bn_ | apply bd_) | exact HB.out)) hb); have n1_ := ak_ (hbox); have n2_ := ak_ ((by rw [hg]; exact (below_size (by repeat (first | (with_reducible first | exact HB.out | apply ba_ | apply bn_ | apply bd_) | exact HB.out))) : w.heap.size ≤ gb184)); have n3_ := ak_ ((by rw [hg]; exact (below_size (by repeat (first | (with_reducible first | exact HB.out | apply ba_ | apply bn_ | apply bd_) | exact HB.out))) : w.heap.size ≤ gb184)); clear HB; have HB := n0_; have BK184 := n1_; have GW184 := n2_; have GE184 := n3_; clear n0_ n1_ n2_ n3_; clear hb hbox hg; have hcz10_0 : w9.cell? ⟨gb184, 0, none⟩ = some (.int .u64 0) := (blk_cell BK184.out 0).trans rfl; have hcz10_1 : w9.cell? ⟨gb184, 1, none⟩ = some (.int .u64 0) := (blk_cell BK184.out 1).trans rfl; have hfz10_0 := blk_frozen BK184.out 0; have hfz10_1 := blk_frozen BK184.out 1)); try go_wp2_with (first | ((with_reducible refine gate_dst (N := 8) rfl ?_); refine box_event ?hg (N := 8) ?hd (cs := #[.int .u64 0, .int .u64 0]) (t := 52) ?hr ?_; (case hd => rfl); (case hg => rfl); (case hr => first | (go_simp; done) | (go_simp; rfl)); intro gb184 hg w9 hbox hb; have n0_ := ak_ (below_step (by repeat (first | (with_reducible first | exact HB.out | apply ba_ | apply bn_ | apply bd_) | exact HB.out)) hb); have n1_ := ak_ (hbox); have n2_ := ak_ ((by rw [hg]; exact (below_size (by repeat (first | (with_reducible first | exact HB.out | apply ba_ | apply bn_ | apply bd_) | exact HB.out))) : w.heap.size ≤ gb184)); have n3_ := ak_ ((by rw [hg]; exact (below_size (by repeat (first | (with_reducible first | exact HB.out | apply ba_ | apply bn_ | apply bd_) | exact HB.out))) : w.heap.size ≤ gb184)); clear HB; have HB := n0_; have BK184 := n1_; have GW184 := n2_; have GE184 := n3_; clear n0_ n1_ n2_ n3_; clear hb hbox hg; have hcz10_0 : w9.cell? ⟨gb184, 0, none⟩ = some (.int .u64 0) := (blk_cell BK184.out 0).trans rfl; have hcz10_1 : w9.cell? ⟨gb184, 1, none⟩ = some (.int .u64 0) := (blk_cell BK184.out 1).trans rfl; have hfz10_0 := blk_frozen BK184.out 0; have hfz10_1 := blk_frozen BK184.out 1)))
         go_ret2
         exact ⟨by first | rfl | (simp <;> rfl) | (simp [*] <;> rfl), by repeat (first | (with_reducible first | exact HB.out | apply ba_ | apply bn_ | apply bd_ | refine below_set ?_ GE184.out) | exact HB.out)⟩
        ·rw [if_neg c8] at H
         have c8b0 : decide (((rd_T52 l1 x16_1).f1) < ((rd_T52 l1 x16_1).f0)) = false := decide_eq_false c8
         clear c8
         replace H := Option.bind_eq_some_iff.mp H
         obtain ⟨t185, A110, H⟩ := H
         replace H : (if t185 = true then (if x16_1 > 0 then (if 0 ≤ (wrap64 (x16_1 - 1)) then (if (wrap64 (x16_1 - 1)) < (l1.length : Int) then (if ((rd_T52 l1 (wrap64 (x16_1 - 1))).f1) ≥ ((rd_T52 l1 x16_1).f0) then (some (0, 1)) else (leaf_Many.l0 k1 a0 l1 (IntKind.u64.wrap (x4_1 + (IntKind.u64.wrap ((IntKind.u64.wrap (((rd_T52 l1 x16_1).f1) - ((rd_T52 l1 x16_1).f0))) + 1)))) l1 (l1.length : Int) (wrap64 (x16_1 + 1)))) else (none)) else (none)) else (leaf_Many.l0 k1 a0 l1 (IntKind.u64.wrap (x4_1 + (IntKind.u64.wrap ((IntKind.u64.wrap (((rd_T52 l1 x16_1).f1) - ((rd_T52 l1 x16_1).f0))) + 1)))) l1 (l1.length : Int) (wrap64 (x16_1 + 1)))) else (some (0, 1))) = some (r1, r2) := H
         have A11 := ak_ A110
         clear A110
         by_cases c12 : t185 = true
         ·subst c12
          have H1 : (if x16_1 > 0 then (if 0 ≤ (wrap64 (x16_1 - 1)) then (if (wrap64 (x16_1 - 1)) < (l1.length : Int) then (if ((rd_T52 l1 (wrap64 (x16_1 - 1))).f1) ≥ ((rd_T52 l1 x16_1).f0) then (some (0, 1)) else (leaf_Many.l0 k1 a0 l1 (IntKind.u64.wrap (x4_1 + (IntKind.u64.wrap ((IntKind.u64.wrap (((rd_T52 l1 x16_1).f1) - ((rd_T52 l1 x16_1).f0))) + 1)))) l1 (l1.length : Int) (wrap64 (x16_1 + 1)))) else (none)) else (none)) else (leaf_Many.l0 k1 a0 l1 (IntKind.u64.wrap (x4_1 + (IntKind.u64.wrap ((IntKind.u64.wrap (((rd_T52 l1 x16_1).f1) - ((rd_T52 l1 x16_1).f0))) + 1)))) l1 (l1.length : Int) (wrap64 (x16_1 + 1)))) = some (r1, r2) := by rw [if_pos rfl] at H; exact H
          clear H
          have H := H1
          clear H1
          by_cases c13 : x16_1 > 0
          ·rw [if_pos c13] at H
           have c13b0 : decide (0 < x16_1) = true := decide_eq_true c13
           clear c13
           obtain ⟨ji14, hji14⟩ : ∃ j_ : Int, (wrap64 (x16_1 - 1)) = j_ := ⟨_, rfl⟩
           replace H : (if 0 ≤ (ji14) then (if (ji14) < (l1.length : Int) then (if ((rd_T52 l1 (ji14)).f1) ≥ ((rd_T52 l1 x16_1).f0) then (some (0, 1)) else (leaf_Many.l0 k1 a0 l1 (IntKind.u64.wrap (x4_1 + (IntKind.u64.wrap ((IntKind.u64.wrap (((rd_T52 l1 x16_1).f1) - ((rd_T52 l1 x16_1).f0))) + 1)))) l1 (l1.length : Int) (wrap64 (x16_1 + 1)))) else (none)) else (none)) = some (r1, r2) := by first | (rw [hji14] at H; exact H) | (simp only [hji14] at H ⊢; exact H)
           (try rw [hji14] at A11)
           have hji14w : (IntKind.i64.wrap (x16_1 - 1)) = ji14 := (i64_w _).trans hji14
           by_cases c15 : 0 ≤ (ji14)
           ·rw [if_pos c15] at H
            have c15b0 : decide (0 ≤ (ji14)) = true := decide_eq_true c15
            clear c15
            by_cases c16 : (ji14) < (l1.length : Int)
            ·rw [if_pos c16] at H
             have c16b0 : decide ((ji14) < (l1.length : Int)) = true := decide_eq_true c16
             clear c16
             by_cases c17 : ((rd_T52 l1 (ji14)).f1) ≥ ((rd_T52 l1 x16_1).f0)
             ·rw [if_pos c17] at H
              have c17b0 : decide (((rd_T52 l1 x16_1).f0) ≤ ((rd_T52 l1 (ji14)).f1)) = true := decide_eq_true c17
              clear c17
              simp only [Option.some.injEq, Prod.mk.injEq] at H
              obtain ⟨rfl, rfl⟩ := H
              have p183 : 0 ≤ (x16_1 : Int) := of_decide_eq_true (by first | (with_reducible assumption) | assumption)
              have q183 : x16_1 < (l1.length : Int) := of_decide_eq_true (by first | (with_reducible assumption) | assumption)
              obtain ⟨ad183, e183, hx183_0, hx183_1⟩ := at_T52 HR1.out x16_1 p183 q183
              cases e183
              replace hx183_0 := (HB.out.cell (World.block_lt_of_cell? w _ hx183_0)).trans hx183_0
              replace hx183_1 := (HB.out.cell (World.block_lt_of_cell? w _ hx183_1)).trans hx183_1
              replace p183 := eq_true p183
              replace q183 := eq_true q183
              go_wp2_with (first | ((with_reducible refine gate_dst (N := 8) rfl ?_); refine box_event ?hg (N := 8) ?hd (cs := #[.int .u64 0, .int .u64 0]) (t := 52) ?hr ?_; (case hd => rfl); (case hg => rfl); (case hr => first | (go_simp; done) | (go_simp; rfl)); intro gb184 hg w18 hbox hb; have n0_ := ak_ (below_step (by repeat (first | (with_reducible first | exact HB.out | apply ba_ | apply bn_ | apply bd_) | exact HB.out)) hb); have n1_ := ak_ (hbox); have n2_ := ak_ ((by rw [hg]; exact (below_size (by repeat (first | (with_reducible first | exact HB.out | apply ba_ | apply bn_ | apply bd_) | exact HB.out))) : w.heap.size ≤ gb184)); have n3_ := ak_ ((by rw [hg]; exact (below_size (by repeat (first | (with_reducible first | exact HB.out | apply ba_ | apply bn_ | apply bd_) | exact HB.out))) : w.heap.size ≤ gb184)); clear HB; have HB := n0_; have BK184 := n1_; have GW184 := n2_; have GE184 := n3_; clear n0_ n1_ n2_ n3_; clear hb hbox hg; have hcz19_0 : w18.cell? ⟨gb184, 0, none⟩ = some (.int .u64 0) := (blk_cell BK184.out 0).trans rfl; have hcz19_1 : w18.cell? ⟨gb184, 1, none⟩ = some (.int .u64 0) := (blk_cell BK184.out 1).trans rfl; have hfz19_0 := blk_frozen BK184.out 0; have hfz19_1 := blk_frozen BK184.out 1) | (go_at_call 65; (with_reducible refine (leaf_is.calls a0 ((rd_T52 l1 x16_1).f1) true _ A11.out).mono ?_); rintro e w' ⟨rfl, ⟨nd, rfl⟩⟩; (try first | exact ⟨rfl, _, World.drewN_drewN _ _ _⟩ | exact ⟨rfl, _, Eq.trans (World.drewN_drewN _ _ _) (congrArg (World.drewN _) (Nat.add_assoc _ _ _))⟩); have p186 : 0 ≤ ((ji14) : Int) := of_decide_eq_true (by first | (with_reducible assumption) | assumption); have q186 : (ji14) < (l1.length : Int) := of_decide_eq_true (by first | (with_reducible assumption) | assumption); obtain ⟨ad186, e186, hx186_0, hx186_1⟩ := at_T52 HR1.out (ji14) p186 q186; obtain rfl : ad183 = ad186 := (by injection e186); have hn186_0 : ad183.block ≠ gb184 := Nat.ne_of_lt (Nat.lt_of_lt_of_le (by have := World.block_lt_of_cell? _ _ hx186_0; first | rwa [add_block] at this | exact this) GW184.out); have hn186_1 : ad183.block ≠ gb184 := Nat.ne_of_lt (Nat.lt_of_lt_of_le (by have := World.block_lt_of_cell? _ _ hx186_0; first | rwa [add_block] at this | exact this) GW184.out); replace hx186_0 := (HB.out.cell (World.block_lt_of_cell? w _ hx186_0)).trans hx186_0; replace hx186_1 := (HB.out.cell (World.block_lt_of_cell? w _ hx186_1)).trans hx186_1; replace hx186_0 := (cell_far (p := ⟨gb184, 0, none⟩) (by first | (rw [add_block]; exact hn186_0) | (show (Addr.add _ _).block ≠ _; rw [add_block]; exact hn186_0) | exact hn186_0) (.int .u64 ((rd_T52 l1 x16_1).f0))).trans hx186_0; replace hx186_1 := (cell_far (p := ⟨gb184, 0, none⟩) (by first | (rw [add_block]; exact hn186_0) | (show (Addr.add _ _).block ≠ _; rw [add_block]; exact hn186_0) | exact hn186_0) (.int .u64 ((rd_T52 l1 x16_1).f0))).trans hx186_1; replace hx186_0 := (cell_far (p := ⟨gb184, 1, none⟩) (by first | (rw [add_block]; exact hn186_1) | (show (Addr.add _ _).block ≠ _; rw [add_block]; exact hn186_1) | exact hn186_1) (.int .u64 ((rd_T52 l1 x16_1).f1))).trans hx186_0; replace hx186_1 := (cell_far (p := ⟨gb184, 1, none⟩) (by first | (rw [add_block]; exact hn186_1) | (show (Addr.add _ _).block ≠ _; rw [add_block]; exact hn186_1) | exact hn186_1) (.int .u64 ((rd_T52 l1 x16_1).f1))).trans hx186_1; (try have hy186_0 := fun (n_ : Nat) => (show ((((w18.drewN n_).setCell ⟨gb184, 0, none⟩ (.int .u64 ((rd_T52 l1 x16_1).f0))).setCell ⟨gb184, 1, none⟩ (.int .u64 ((rd_T52 l1 x16_1).f1)))).cell? _ = some _ from hx186_0)); (try have hy186_1 := fun (n_ : Nat) => (show ((((w18.drewN n_).setCell ⟨gb184, 0, none⟩ (.int .u64 ((rd_T52 l1 x16_1).f0))).setCell ⟨gb184, 1, none⟩ (.int .u64 ((rd_T52 l1 x16_1).f1)))).cell? _ = some _ from hx186_1)); clear hn186_0; clear hn186_1; replace p186 := eq_true p186; replace q186 := eq_true q186))
              repeat (go_quiet (first | ((with_reducible refine gate_dst (N := 8) rfl ?_); refine box_event ?hg (N := 8) ?hd (cs := #[.int .u64 0, .int .u64 0]) (t := 52) ?hr ?_; (case hd => rfl); (case hg => rfl); (case hr => first | (go_simp; done) | (go_simp; rfl)); intro gb184 hg w18 hbox hb; have n0_ := ak_ (below_step (by repeat (first | (with_reducible first | exact HB.out | apply ba_ | apply bn_ | apply bd_) | exact HB.out)) hb); have n1_ := ak_ (hbox); have n2_ := ak_ ((by rw [hg]; exact (below_size (by repeat (first | (with_reducible first | exact HB.out | apply ba_ | apply bn_ | apply bd_) | exact HB.out))) : w.heap.size ≤ gb184)); have n3_ := ak_ ((by rw [hg]; exact (below_size (by repeat (first | (with_reducible first | exact HB.out | apply ba_ | apply bn_ | apply bd_) | exact HB.out))) : w.heap.size ≤ gb184)); clear HB; have HB := n0_; have BK184 := n1_; have GW184 := n2_; have GE184 := n3_; clear n0_ n1_ n2_ n3_; clear hb hbox hg; have hcz19_0 : w18.cell? ⟨gb184, 0, none⟩ = some (.int .u64 0) := (blk_cell BK184.out 0).trans rfl; have hcz19_1 : w18.cell? ⟨gb184, 1, none⟩ = some (.int .u64 0) := (blk_cell BK184.out 1).trans rfl; have hfz19_0 := blk_frozen BK184.out 0; have hfz19_1 := blk_frozen BK184.out 1) | (go_at_call 65; (with_reducible refine (leaf_is.calls a0 ((rd_T52 l1 x16_1).f1) true _ A11.out).mono ?_); rintro e w' ⟨rfl, ⟨nd, rfl⟩⟩; (try first | exact ⟨rfl, _, World.drewN_drewN _ _ _⟩ | exact ⟨rfl, _, Eq.trans (World.drewN_drewN _ _ _) (congrArg (World.drewN _) (Nat.add_assoc _ _ _))⟩); have p186 : 0 ≤ ((ji14) : Int) := of_decide_eq_true (by first | (with_reducible assumption) | assumption); have q186 : (ji14) < (l1.length : Int) := of_decide_eq_true (by first | (with_reducible assumption) | assumption); obtain ⟨ad186, e186, hx186_0, hx186_1⟩ := at_T52 HR1.out (ji14) p186 q186; obtain rfl : ad183 = ad186 := (by injection e186); have hn186_0 : ad183.block ≠ gb184 := Nat.ne_of_lt (Nat.lt_of_lt_of_le (by have := World.block_lt_of_cell? _ _ hx186_0; first | rwa [add_block] at this | exact this) GW184.out); have hn186_1 : ad183.block ≠ gb184 := Nat.ne_of_lt (Nat.lt_of_lt_of_le (by have := World.block_lt_of_cell? _ _ hx186_0; first | rwa [add_block] at this | exact this) GW184.out); replace hx186_0 := (HB.out.cell (World.block_lt_of_cell? w _ hx186_0)).trans hx186_0; replace hx186_1 := (HB.out.cell (World.block_lt_of_cell? w _ hx186_1)).trans hx186_1; replace hx186_0 := (cell_far (p := ⟨gb184, 0, none⟩) (by first | (rw [add_block]; exact hn186_0) | (show (Addr.add _ _).block ≠ _; rw [add_block]; exact hn186_0) | exact hn186_0) (.int .u64 ((rd_T52 l1 x16_1).f0))).trans hx186_0; replace hx186_1 := (cell_far (p := ⟨gb184, 0, none⟩) (by first | (rw [add_block]; exact hn186_0) | (show (Addr.add _ _).block ≠ _; rw [add_block]; exact hn186_0) | exact hn186_0) (.int .u64 ((rd_T52 l1 x16_1).f0))).trans hx186_1; replace hx186_0 := (cell_far (p := ⟨gb184, 1, none⟩) (by first | (rw [add_block]; exact hn186_1) | (show (Addr.add _ _).block ≠ _; rw [add_block]; exact hn186_1) | exact hn186_1) (.int .u64 ((rd_T52 l1 x16_1).f1))).trans hx186_0; replace hx186_1 := (cell_far (p := ⟨gb184, 1, none⟩) (by first | (rw [add_block]; exact hn186_1) | (show (Addr.add _ _).block ≠ _; rw [add_block]; exact hn186_1) | exact hn186_1) (.int .u64 ((rd_T52 l1 x16_1).f1))).trans hx186_1; (try have hy186_0 := fun (n_ : Nat) => (show ((((w18.drewN n_).setCell ⟨gb184, 0, none⟩ (.int .u64 ((rd_T52 l1 x16_1).f0))).setCell ⟨gb184, 1, none⟩ (.int .u64 ((rd_T52 l1 x16_1).f1)))).cell? _ = some _ from hx186_0)); (try have hy186_1 := fun (n_ : Nat) => (show ((((w18.drewN n_).setCell ⟨gb184, 0, none⟩ (.int .u64 ((rd_T52 l1 x16_1).f0))).setCell ⟨gb184, 1, none⟩ (.int .u64 ((rd_T52 l1 x16_1).f1)))).cell? _ = some _ from hx186_1)); clear hn186_0; clear hn186_1; replace p186 := eq_true p186; replace q186 := eq_true q186)); try go_wp2_with (first | ((with_reducible refine gate_dst (N := 8) rfl ?_); refine box_event ?hg (N := 8) ?hd (cs := #[.int .u64 0, .int .u64 0]) (t := 52) ?hr ?_; (case hd => rfl); (case hg => rfl); (case hr => first | (go_simp; done) | (go_simp; rfl)); intro gb184 hg w18 hbox hb; have n0_ := ak_ (below_step (by repeat (first | (with_reducible first | exact HB.out | apply ba_ | apply bn_ | apply bd_) | exact HB.out)) hb); have n1_ := ak_ (hbox); have n2_ := ak_ ((by rw [hg]; exact (below_size (by repeat (first | (with_reducible first | exact HB.out | apply ba_ | apply bn_ | apply bd_) | exact HB.out))) : w.heap.size ≤ gb184)); have n3_ := ak_ ((by rw [hg]; exact (below_size (by repeat (first | (with_reducible first | exact HB.out | apply ba_ | apply bn_ | apply bd_) | exact HB.out))) : w.heap.size ≤ gb184)); clear HB; have HB := n0_; have BK184 := n1_; have GW184 := n2_; have GE184 := n3_; clear n0_ n1_ n2_ n3_; clear hb hbox hg; have hcz19_0 : w18.cell? ⟨gb184, 0, none⟩ = some (.int .u64 0) := (blk_cell BK184.out 0).trans rfl; have hcz19_1 : w18.cell? ⟨gb184, 1, none⟩ = some (.int .u64 0) := (blk_cell BK184.out 1).trans rfl; have hfz19_0 := blk_frozen BK184.out 0; have hfz19_1 := blk_frozen BK184.out 1) | (go_at_call 65; (with_reducible refine (leaf_is.calls a0 ((rd_T52 l1 x16_1).f1) true _ A11.out).mono ?_); rintro e w' ⟨rfl, ⟨nd, rfl⟩⟩; (try first | exact ⟨rfl, _, World.drewN_drewN _ _ _⟩ | exact ⟨rfl, _, Eq.trans (World.drewN_drewN _ _ _) (congrArg (World.drewN _) (Nat.add_assoc _ _ _))⟩); have p186 : 0 ≤ ((ji14) : Int) := of_decide_eq_true (by first | (with_reducible assumption) | assumption); have q186 : (ji14) < (l1.length : Int) := of_decide_eq_true (by first | (with_reducible assumption) | assumption); obtain ⟨ad186, e186, hx186_0, hx186_1⟩ := at_T52 HR1.out (ji14) p186 q186; obtain rfl : ad183 = ad186 := (by injection e186); have hn186_0 : ad183.block ≠ gb184 := Nat.ne_of_lt (Nat.lt_of_lt_of_le (by have := World.block_lt_of_cell? _ _ hx186_0; first | rwa [add_block] at this | exact this) GW184.out); have hn186_1 : ad183.block ≠ gb184 := Nat.ne_of_lt (Nat.lt_of_lt_of_le (by have := World.block_lt_of_cell? _ _ hx186_0; first | rwa [add_block] at this | exact this) GW184.out); replace hx186_0 := (HB.out.cell (World.block_lt_of_cell? w _ hx186_0)).trans hx186_0; replace hx186_1 := (HB.out.cell (World.block_lt_of_cell? w _ hx186_1)).trans hx186_1; replace hx186_0 := (cell_far (p := ⟨gb184, 0, none⟩) (by first | (rw [add_block]; exact hn186_0) | (show (Addr.add _ _).block ≠ _; rw [add_block]; exact hn186_0) | exact hn186_0) (.int .u64 ((rd_T52 l1 x16_1).f0))).trans hx186_0; replace hx186_1 := (cell_far (p := ⟨gb184, 0, none⟩) (by first | (rw [add_block]; exact hn186_0) | (show (Addr.add _ _).block ≠ _; rw [add_block]; exact hn186_0) | exact hn186_0) (.int .u64 ((rd_T52 l1 x16_1).f0))).trans hx186_1; replace hx186_0 := (cell_far (p := ⟨gb184, 1, none⟩) (by first | (rw [add_block]; exact hn186_1) | (show (Addr.add _ _).block ≠ _; rw [add_block]; exact hn186_1) | exact hn186_1) (.int .u64 ((rd_T52 l1 x16_1).f1))).trans hx186_0; replace hx186_1 := (cell_far (p := ⟨gb184, 1, none⟩) (by first | (rw [add_block]; exact hn186_1) | (show (Addr.add _ _).block ≠ _; rw [add_block]; exact hn186_1) | exact hn186_1) (.int .u64 ((rd_T52 l1 x16_1).f1))).trans hx186_1; (try have hy186_0 := fun (n_ : Nat) => (show ((((w18.drewN n_).setCell ⟨gb184, 0, none⟩ (.int .u64 ((rd_T52 l1 x16_1).f0))).setCell ⟨gb184, 1, none⟩ (.int .u64 ((rd_T52 l1 x16_1).f1)))).cell? _ = some _ from hx186_0)); (try have hy186_1 := fun (n_ : Nat) => (show ((((w18.drewN n_).setCell ⟨gb184, 0, none⟩ (.int .u64 ((rd_T52 l1 x16_1).f0))).setCell ⟨gb184, 1, none⟩ (.int .u64 ((rd_T52 l1 x16_1).f1)))).cell? _ = some _ from hx186_1)); clear hn186_0; clear hn186_1; replace p186 := eq_true p186; replace q186 := eq_true q186)))
              go_ret2
              exact ⟨by first | rfl | (simp <;> rfl) | (simp only [← hji14]; first | rfl | (simp <;> rfl)) | (simp [*] <;> rfl), by repeat (first | (with_reducible first | exact HB.out | apply ba_ | apply bn_ | apply bd_ | refine below_set ?_ GE184.out) | exact HB.out)⟩
             ·rw [if_neg c17] at H
              have c17b0 : decide (((rd_T52 l1 x16_1).f0) ≤ ((rd_T52 l1 (ji14)).f1)) = false := decide_eq_false c17
              clear c17
              have H' := ak_ H
              clear H
              have p183 : 0 ≤ (x16_1 : Int) := of_decide_eq_true (by first | (with_reducible assumption) | assumption)
              have q183 : x16_1 < (l1.length : Int) := of_decide_eq_true (by first | (with_reducible assumption) | assumption)
              obtain ⟨ad183, e183, hx183_0, hx183_1⟩ := at_T52 HR1.out x16_1 p183 q183
              cases e183
              replace hx183_0 := (HB.out.cell (World.block_lt_of_cell? w _ hx183_0)).trans hx183_0
              replace hx183_1 := (HB.out.cell (World.block_lt_of_cell? w _ hx183_1)).trans hx183_1
              replace p183 := eq_true p183
              replace q183 := eq_true q183
              go_wp2_with (first | ((with_reducible refine gate_dst (N := 8) rfl ?_); refine box_event ?hg (N := 8) ?hd (cs := #[.int .u64 0, .int .u64 0]) (t := 52) ?hr ?_; (case hd => rfl); (case hg => rfl); (case hr => first | (go_simp; done) | (go_simp; rfl)); intro gb184 hg w20 hbox hb; have n0_ := ak_ (below_step (by repeat (first | (with_reducible first | exact HB.out | apply ba_ | apply bn_ | apply bd_) | exact HB.out)) hb); have n1_ := ak_ (hbox); have n2_ := ak_ ((by rw [hg]; exact (below_size (by repeat (first | (with_reducible first | exact HB.out | apply ba_ | apply bn_ | apply bd_) | exact HB.out))) : w.heap.size ≤ gb184)); have n3_ := ak_ ((by rw [hg]; exact (below_size (by repeat (first | (with_reducible first | exact HB.out | apply ba_ | apply bn_ | apply bd_) | exact HB.out))) : w.heap.size ≤ gb184)); clear HB; have HB := n0_; have BK184 := n1_; have GW184 := n2_; have GE184 := n3_; clear n0_ n1_ n2_ n3_; clear hb hbox hg; have hcz21_0 : w20.cell? ⟨gb184, 0, none⟩ = some (.int .u64 0) := (blk_cell BK184.out 0).trans rfl; have hcz21_1 : w20.cell? ⟨gb184, 1, none⟩ = some (.int .u64 0) := (blk_cell BK184.out 1).trans rfl; have hfz21_0 := blk_frozen BK184.out 0; have hfz21_1 := blk_frozen BK184.out 1) | (go_at_call 65; (with_reducible refine (leaf_is.calls a0 ((rd_T52 l1 x16_1).f1) true _ A11.out).mono ?_); rintro e w' ⟨rfl, ⟨nd, rfl⟩⟩; (try first | exact ⟨rfl, _, World.drewN_drewN _ _ _⟩ | exact ⟨rfl, _, Eq.trans (World.drewN_drewN _ _ _) (congrArg (World.drewN _) (Nat.add_assoc _ _ _))⟩); have p186 : 0 ≤ ((ji14) : Int) := of_decide_eq_true (by first | (with_reducible assumption) | assumption); have q186 : (ji14) < (l1.length : Int) := of_decide_eq_true (by first | (with_reducible assumption) | assumption); obtain ⟨ad186, e186, hx186_0, hx186_1⟩ := at_T52 HR1.out (ji14) p186 q186; obtain rfl : ad183 = ad186 := (by injection e186); have hn186_0 : ad183.block ≠ gb184 := Nat.ne_of_lt (Nat.lt_of_lt_of_le (by have := World.block_lt_of_cell? _ _ hx186_0; first | rwa [add_block] at this | exact this) GW184.out); have hn186_1 : ad183.block ≠ gb184 := Nat.ne_of_lt (Nat.lt_of_lt_of_le (by have := World.block_lt_of_cell? _ _ hx186_0; first | rwa [add_block] at this | exact this) GW184.out); replace hx186_0 := (HB.out.cell (World.block_lt_of_cell? w _ hx186_0)).trans hx186_0; replace hx186_1 := (HB.out.cell (World.block_lt_of_cell? w _ hx186_1)).trans hx186_1; replace hx186_0 := (cell_far (p := ⟨gb184, 0, none⟩) (by first | (rw [add_block]; exact hn186_0) | (show (Addr.add _ _).block ≠ _; rw [add_block]; exact hn186_0) | exact hn186_0) (.int .u64 ((rd_T52 l1 x16_1).f0))).trans hx186_0; replace hx186_1 := (cell_far (p := ⟨gb184, 0, none⟩) (by first | (rw [add_block]; exact hn186_0) | (show (Addr.add _ _).block ≠ _; rw [add_block]; exact hn186_0) | exact hn186_0) (.int .u64 ((rd_T52 l1 x16_1).f0))).trans hx186_1; replace hx186_0 := (cell_far (p := ⟨gb184, 1, none⟩) (by first | (rw [add_block]; exact hn186_1) | (show (Addr.add _ _).block ≠ _; rw [add_block]; exact hn186_1) | exact hn186_1) (.int .u64 ((rd_T52 l1 x16_1).f1))).trans hx186_0; replace hx186_1 := (cell_far (p := ⟨gb184, 1, none⟩) (by first | (rw [add_block]; exact hn186_1) | (show (Addr.add _ _).block ≠ _; rw [add_block]; exact hn186_1) | exact hn186_1) (.int .u64 ((rd_T52 l1 x16_1).f1))).trans hx186_1; (try have hy186_0 := fun (n_ : Nat) => (show ((((w20.drewN n_).setCell ⟨gb184, 0, none⟩ (.int .u64 ((rd_T52 l1 x16_1).f0))).setCell ⟨gb184, 1, none⟩ (.int .u64 ((rd_T52 l1 x16_1).f1)))).cell? _ = some _ from hx186_0)); (try have hy186_1 := fun (n_ : Nat) => (show ((((w20.drewN n_).setCell ⟨gb184, 0, none⟩ (.int .u64 ((rd_T52 l1 x16_1).f0))).setCell ⟨gb184, 1, none⟩ (.int .u64 ((rd_T52 l1 x16_1).f1)))).cell? _ = some _ from hx186_1)); clear hn186_0; clear hn186_1; replace p186 := eq_true p186; replace q186 := eq_true q186))
              repeat (go_quiet (first | ((with_reducible refine gate_dst (N := 8) rfl ?_); refine box_event ?hg (N := 8) ?hd (cs := #[.int .u64 0, .int .u64 0]) (t := 52) ?hr ?_; (case hd => rfl); (case hg => rfl); (case hr => first | (go_simp; done) | (go_simp; rfl)); intro gb184 hg w20 hbox hb; have n0_ := ak_ (below_step (by repeat (first | (with_reducible first | exact HB.out | apply ba_ | apply bn_ | apply bd_) | exact HB.out)) hb); have n1_ := ak_ (hbox); have n2_ := ak_ ((by rw [hg]; exact (below_size (by repeat (first | (with_reducible first | exact HB.out | apply ba_ | apply bn_ | apply bd_) | exact HB.out))) : w.heap.size ≤ gb184)); have n3_ := ak_ ((by rw [hg]; exact (below_size (by repeat (first | (with_reducible first | exact HB.out | apply ba_ | apply bn_ | apply bd_) | exact HB.out))) : w.heap.size ≤ gb184)); clear HB; have HB := n0_; have BK184 := n1_; have GW184 := n2_; have GE184 := n3_; clear n0_ n1_ n2_ n3_; clear hb hbox hg; have hcz21_0 : w20.cell? ⟨gb184, 0, none⟩ = some (.int .u64 0) := (blk_cell BK184.out 0).trans rfl; have hcz21_1 : w20.cell? ⟨gb184, 1, none⟩ = some (.int .u64 0) := (blk_cell BK184.out 1).trans rfl; have hfz21_0 := blk_frozen BK184.out 0; have hfz21_1 := blk_frozen BK184.out 1) | (go_at_call 65; (with_reducible refine (leaf_is.calls a0 ((rd_T52 l1 x16_1).f1) true _ A11.out).mono ?_); rintro e w' ⟨rfl, ⟨nd, rfl⟩⟩; (try first | exact ⟨rfl, _, World.drewN_drewN _ _ _⟩ | exact ⟨rfl, _, Eq.trans (World.drewN_drewN _ _ _) (congrArg (World.drewN _) (Nat.add_assoc _ _ _))⟩); have p186 : 0 ≤ ((ji14) : Int) := of_decide_eq_true (by first | (with_reducible assumption) | assumption); have q186 : (ji14) < (l1.length : Int) := of_decide_eq_true (by first | (with_reducible assumption) | assumption); obtain ⟨ad186, e186, hx186_0, hx186_1⟩ := at_T52 HR1.out (ji14) p186 q186; obtain rfl : ad183 = ad186 := (by injection e186); have hn186_0 : ad183.block ≠ gb184 := Nat.ne_of_lt (Nat.lt_of_lt_of_le (by have := World.block_lt_of_cell? _ _ hx186_0; first | rwa [add_block] at this | exact this) GW184.out); have hn186_1 : ad183.block ≠ gb184 := Nat.ne_of_lt (Nat.lt_of_lt_of_le (by have := World.block_lt_of_cell? _ _ hx186_0; first | rwa [add_block] at this | exact this) GW184.out); replace hx186_0 := (HB.out.cell (World.block_lt_of_cell? w _ hx186_0)).trans hx186_0; replace hx186_1 := (HB.out.cell (World.block_lt_of_cell? w _ hx186_1)).trans hx186_1; replace hx186_0 := (cell_far (p := ⟨gb184, 0, none⟩) (by first | (rw [add_block]; exact hn186_0) | (show (Addr.add _ _).block ≠ _; rw [add_block]; exact hn186_0) | exact hn186_0) (.int .u64 ((rd_T52 l1 x16_1).f0))).trans hx186_0; replace hx186_1 := (cell_far (p := ⟨gb184, 0, none⟩) (by first | (rw [add_block]; exact hn186_0) | (show (Addr.add _ _).block ≠ _; rw [add_block]; exact hn186_0) | exact hn186_0) (.int .u64 ((rd_T52 l1 x16_1).f0))).trans hx186_1; replace hx186_0 := (cell_far (p := ⟨gb184, 1, none⟩) (by first | (rw [add_block]; exact hn186_1) | (show (Addr.add _ _).block ≠ _; rw [add_block]; exact hn186_1) | exact hn186_1) (.int .u64 ((rd_T52 l1 x16_1).f1))).trans hx186_0; replace hx186_1 := (cell_far (p := ⟨gb184, 1, none⟩) (by first | (rw [add_block]; exact hn186_1) | (show (Addr.add _ _).block ≠ _; rw [add_block]; exact hn186_1) | exact hn186_1) (.int .u64 ((rd_T52 l1 x16_1).f1))).trans hx186_1; (try have hy186_0 := fun (n_ : Nat) => (show ((((w20.drewN n_).setCell ⟨gb184, 0, none⟩ (.int .u64 ((rd_T52 l1 x16_1).f0))).setCell ⟨gb184, 1, none⟩ (.int .u64 ((rd_T52 l1 x16_1).f1)))).cell? _ = some _ from hx186_0)); (try have hy186_1 := fun (n_ : Nat) => (show ((((w20.drewN n_).setCell ⟨gb184, 0, none⟩ (.int .u64 ((rd_T52 l1 x16_1).f0))).setCell ⟨gb184, 1, none⟩ (.int .u64 ((rd_T52 l1 x16_1).f1)))).cell? _ = some _ from hx186_1)); clear hn186_0; clear hn186_1; replace p186 := eq_true p186; replace q186 := eq_true q186)); try go_wp2_with (first | ((with_reducible refine gate_dst (N := 8) rfl ?_); refine box_event ?hg (N := 8) ?hd (cs := #[.int .u64 0, .int .u64 0]) (t := 52) ?hr ?_; (case hd => rfl); (case hg => rfl); (case hr => first | (go_simp; done) | (go_simp; rfl)); intro gb184 hg w20 hbox hb; have n0_ := ak_ (below_step (by repeat (first | (with_reducible first | exact HB.out | apply ba_ | apply bn_ | apply bd_) | exact HB.out)) hb); have n1_ := ak_ (hbox); have n2_ := ak_ ((by rw [hg]; exact (below_size (by repeat (first | (with_reducible first | exact HB.out | apply ba_ | apply bn_ | apply bd_) | exact HB.out))) : w.heap.size ≤ gb184)); have n3_ := ak_ ((by rw [hg]; exact (below_size (by repeat (first | (with_reducible first | exact HB.out | apply ba_ | apply bn_ | apply bd_) | exact HB.out))) : w.heap.size ≤ gb184)); clear HB; have HB := n0_; have BK184 := n1_; have GW184 := n2_; have GE184 := n3_; clear n0_ n1_ n2_ n3_; clear hb hbox hg; have hcz21_0 : w20.cell? ⟨gb184, 0, none⟩ = some (.int .u64 0) := (blk_cell BK184.out 0).trans rfl; have hcz21_1 : w20.cell? ⟨gb184, 1, none⟩ = some (.int .u64 0) := (blk_cell BK184.out 1).trans rfl; have hfz21_0 := blk_frozen BK184.out 0; have hfz21_1 := blk_frozen BK184.out 1) | (go_at_call 65; (with_reducible refine (leaf_is.calls a0 ((rd_T52 l1 x16_1).f1) true _ A11.out).mono ?_); rintro e w' ⟨rfl, ⟨nd, rfl⟩⟩; (try first | exact ⟨rfl, _, World.drewN_drewN _ _ _⟩ | exact ⟨rfl, _, Eq.trans (World.drewN_drewN _ _ _) (congrArg (World.drewN _) (Nat.add_assoc _ _ _))⟩); have p186 : 0 ≤ ((ji14) : Int) := of_decide_eq_true (by first | (with_reducible assumption) | assumption); have q186 : (ji14) < (l1.length : Int) := of_decide_eq_true (by first | (with_reducible assumption) | assumption); obtain ⟨ad186, e186, hx186_0, hx186_1⟩ := at_T52 HR1.out (ji14) p186 q186; obtain rfl : ad183 = ad186 := (by injection e186); have hn186_0 : ad183.block ≠ gb184 := Nat.ne_of_lt (Nat.lt_of_lt_of_le (by have := World.block_lt_of_cell? _ _ hx186_0; first | rwa [add_block] at this | exact this) GW184.out); have hn186_1 : ad183.block ≠ gb184 := Nat.ne_of_lt (Nat.lt_of_lt_of_le (by have := World.block_lt_of_cell? _ _ hx186_0; first | rwa [add_block] at this | exact this) GW184.out); replace hx186_0 := (HB.out.cell (World.block_lt_of_cell? w _ hx186_0)).trans hx186_0; replace hx186_1 := (HB.out.cell (World.block_lt_of_cell? w _ hx186_1)).trans hx186_1; replace hx186_0 := (cell_far (p := ⟨gb184, 0, none⟩) (by first | (rw [add_block]; exact hn186_0) | (show (Addr.add _ _).block ≠ _; rw [add_block]; exact hn186_0) | exact hn186_0) (.int .u64 ((rd_T52 l1 x16_1).f0))).trans hx186_0; replace hx186_1 := (cell_far (p := ⟨gb184, 0, none⟩) (by first | (rw [add_block]; exact hn186_0) | (show (Addr.add _ _).block ≠ _; rw [add_block]; exact hn186_0) | exact hn186_0) (.int .u64 ((rd_T52 l1 x16_1).f0))).trans hx186_1; replace hx186_0 := (cell_far (p := ⟨gb184, 1, none⟩) (by first | (rw [add_block]; exact hn186_1) | (show (Addr.add _ _).block ≠ _; rw [add_block]; exact hn186_1) | exact hn186_1) (.int .u64 ((rd_T52 l1 x16_1).f1))).trans hx186_0; replace hx186_1 := (cell_far (p := ⟨gb184, 1, none⟩) (by first | (rw [add_block]; exact hn186_1) | (show (Addr.add _ _).block ≠ _; rw [add_block]; exact hn186_1) | exact hn186_1) (.int .u64 ((rd_T52 l1 x16_1).f1))).trans hx186_1; (try have hy186_0 := fun (n_ : Nat) => (show ((((w20.drewN n_).setCell ⟨gb184, 0, none⟩ (.int .u64 ((rd_T52 l1 x16_1).f0))).setCell ⟨gb184, 1, none⟩ (.int .u64 ((rd_T52 l1 x16_1).f1)))).cell? _ = some _ from hx186_0)); (try have hy186_1 := fun (n_ : Nat) => (show ((((w20.drewN n_).setCell ⟨gb184, 0, none⟩ (.int .u64 ((rd_T52 l1 x16_1).f0))).setCell ⟨gb184, 1, none⟩ (.int .u64 ((rd_T52 l1 x16_1).f1)))).cell? _ = some _ from hx186_1)); clear hn186_0; clear hn186_1; replace p186 := eq_true p186; replace q186 := eq_true q186)))
              go_roundg k1
              case measure => have := HK1.out; omega
              case rel => exact ⟨(IntKind.u64.wrap (x4_1 + (IntKind.u64.wrap ((IntKind.u64.wrap (((rd_T52 l1 x16_1).f1) - ((rd_T52 l1 x16_1).f0))) + 1)))), (wrap64 (x16_1 + 1)), (by first | rfl | (simp; done) | (simp [*]; done)), (by first | rfl | (simp; done) | (simp [*]; done)), H', ⟨by have := HK1.out; omega⟩, ⟨by repeat (first | (with_reducible first | exact HB.out | apply ba_ | apply bn_ | apply bd_ | refine below_set ?_ GE184.out) | exact HB.out)⟩⟩
            ·rw [if_neg c16] at H
             exact absurd H (by simp)
           ·rw [if_neg c15] at H
            exact absurd H (by simp)
          ·rw [if_neg c13] at H
           have c13b0 : decide (0 < x16_1) = false := decide_eq_false c13
           clear c13
           have H' := ak_ H
           clear H
           have p183 : 0 ≤ (x16_1 : Int) := of_decide_eq_true (by first | (with_reducible assumption) | assumption)
           have q183 : x16_1 < (l1.length : Int) := of_decide_eq_true (by first | (with_reducible assumption) | assumption)
           obtain ⟨ad183, e183, hx183_0, hx183_1⟩ := at_T52 HR1.out x16_1 p183 q183
           cases e183
           replace hx183_0 := (HB.out.cell (World.block_lt_of_cell? w _ hx183_0)).trans hx183_0
           replace hx183_1 := (HB.out.cell (World.block_lt_of_cell? w _ hx183_1)).trans hx183_1
           replace p183 := eq_true p183
           replace q183 := eq_true q183
           go_wp2_with (first | ((with_reducible refine gate_dst (N := 8) rfl ?_); refine box_event ?hg (N := 8) ?hd (cs := #[.int .u64 0, .int .u64 0]) (t := 52) ?hr ?_; (case hd => rfl); (case hg => rfl); (case hr => first | (go_simp; done) | (go_simp; rfl)); intro gb184 hg w22 hbox hb; have n0_ := ak_ (below_step (by repeat (first | (with_reducible first | exact HB.out | apply ba_ | apply bn_ | apply bd_) | exact HB.out)) hb); have n1_ := ak_ (hbox); have n2_ := ak_ ((by rw [hg]; exact (below_size (by repeat (first | (with_reducible first | exact HB.out | apply ba_ | apply bn_ | apply bd_) | exact HB.out))) : w.heap.size ≤ gb184)); have n3_ := ak_ ((by rw [hg]; exact (below_size (by repeat (first | (with_reducible first | exact HB.out | apply ba_ | apply bn_ | apply bd_) | exact HB.out))) : w.heap.size ≤ gb184)); clear HB; have HB := n0_; have BK184 := n1_; have GW184 := n2_; have GE184 := n3_; clear n0_ n1_ n2_ n3_; clear hb hbox hg; have hcz23_0 : w22.cell? ⟨gb184, 0, none⟩ = some (.int .u64 0) := (blk_cell BK184.out 0).trans rfl; have hcz23_1 : w22.cell? ⟨gb184, 1, none⟩ = some (.int .u64 0) := (blk_cell BK184.out 1).trans rfl; have hfz23_0 := blk_frozen BK184.out 0; have hfz23_1 := blk_frozen BK184.out 1) | (go_at_call 65; (with_reducible refine (leaf_is.calls a0 ((rd_T52 l1 x16_1).f1) true _ A11.out).mono ?_); rintro e w' ⟨rfl, ⟨nd, rfl⟩⟩; (try first | exact ⟨rfl, _, World.drewN_drewN _ _ _⟩ | exact ⟨rfl, _, Eq.trans (World.drewN_drewN _ _ _) (congrArg (World.drewN _) (Nat.add_assoc _ _ _))⟩)))
           repeat (go_quiet (first | ((with_reducible refine gate_dst (N := 8) rfl ?_); refine box_event ?hg (N := 8) ?hd (cs := #[.int .u64 0, .int .u64 0]) (t := 52) ?hr ?_; (case hd => rfl); (case hg => rfl); (case hr => first | (go_simp; done) | (go_simp; rfl)); intro gb184 hg w22 hbox hb; have n0_ := ak_ (below_step (by repeat (first | (with_reducible first | exact HB.out | apply ba_ | apply bn_ | apply bd_) | exact HB.out)) hb); have n1_ := ak_ (hbox); have n2_ := ak_ ((by rw [hg]; exact (below_size (by repeat (first | (with_reducible first | exact HB.out | apply ba_ | apply bn_ | apply bd_) | exact HB.out))) : w.heap.size ≤ gb184)); have n3_ := ak_ ((by rw [hg]; exact (below_size (by repeat (first | (with_reducible first | exact HB.out | apply ba_ | apply bn_ | apply bd_) | exact HB.out))) : w.heap.size ≤ gb184)); clear HB; have HB := n0_; have BK184 := n1_; have GW184 := n2_; have GE184 := n3_; clear n0_ n1_ n2_ n3_; clear hb hbox hg; have hcz23_0 : w22.cell? ⟨gb184, 0, none⟩ = some (.int .u64 0) := (blk_cell BK184.out 0).trans rfl; have hcz23_1 : w22.cell? ⟨gb184, 1, none⟩ = some (.int .u64 0) := (blk_cell BK184.out 1).trans rfl; have hfz23_0 := blk_frozen BK184.out 0; have hfz23_1 := blk_frozen BK184.out 1) | (go_at_call 65; (with_reducible refine (leaf_is.calls a0 ((rd_T52 l1 x16_1).f1) true _ A11.out).mono ?_); rintro e w' ⟨rfl, ⟨nd, rfl⟩⟩; (try first | exact ⟨rfl, _, World.drewN_drewN _ _ _⟩ | exact ⟨rfl, _, Eq.trans (World.drewN_drewN _ _ _) (congrArg (World.drewN _) (Nat.add_assoc _ _ _))⟩))); try go_wp2_with (first | ((with_reducible refine gate_dst (N := 8) rfl ?_); refine box_event ?hg (N := 8) ?hd (cs := #[.int .u64 0, .int .u64 0]) (t := 52) ?hr ?_; (case hd => rfl); (case hg => rfl); (case hr => first | (go_simp; done) | (go_simp; rfl)); intro gb184 hg w22 hbox hb; have n0_ := ak_ (below_step (by repeat (first | (with_reducible first | exact HB.out | apply ba_ | apply bn_ | apply bd_) | exact HB.out)) hb); have n1_ := ak_ (hbox); have n2_ := ak_ ((by rw [hg]; exact (below_size (by repeat (first | (with_reducible first | exact HB.out | apply ba_ | apply bn_ | apply bd_) | exact HB.out))) : w.heap.size ≤ gb184)); have n3_ := ak_ ((by rw [hg]; exact (below_size (by repeat (first | (with_reducible first | exact HB.out | apply ba_ | apply bn_ | apply bd_) | exact HB.out))) : w.heap.size ≤ gb184)); clear HB; have HB := n0_; have BK184 := n1_; have GW184 := n2_; have GE184 := n3_; clear n0_ n1_ n2_ n3_; clear hb hbox hg; have hcz23_0 : w22.cell? ⟨gb184, 0, none⟩ = some (.int .u64 0) := (blk_cell BK184.out 0).trans rfl; have hcz23_1 : w22.cell? ⟨gb184, 1, none⟩ = some (.int .u64 0) := (blk_cell BK184.out 1).trans rfl; have hfz23_0 := blk_frozen BK184.out 0; have hfz23_1 := blk_frozen BK184.out 1) | (go_at_call 65; (with_reducible refine (leaf_is.calls a0 ((rd_T52 l1 x16_1).f1) true _ A11.out).mono ?_); rintro e w' ⟨rfl, ⟨nd, rfl⟩⟩; (try first | exact ⟨rfl, _, World.drewN_drewN _ _ _⟩ | exact ⟨rfl, _, Eq.trans (World.drewN_drewN _ _ _) (congrArg (World.drewN _) (Nat.add_assoc _ _ _))⟩))))
           go_roundg k1
           case measure => have := HK1.out; omega
           case rel => exact ⟨(IntKind.u64.wrap (x4_1 + (IntKind.u64.wrap ((IntKind.u64.wrap (((rd_T52 l1 x16_1).f1) - ((rd_T52 l1 x16_1).f0))) + 1)))), (wrap64 (x16_1 + 1)), (by first | rfl | (simp; done) | (simp [*]; done)), (by first | rfl | (simp; done) | (simp [*]; done)), H', ⟨by have := HK1.out; omega⟩, ⟨by repeat (first | (with_reducible first | exact HB.out | apply ba_ | apply bn_ | apply bd_ | refine below_set ?_ GE184.out) | exact HB.out)⟩⟩
         ·replace c12 := Bool.eq_false_iff.mpr c12
          subst c12
          have H1 : (some (0, 1)) = some (r1, r2) := by rw [if_neg (show ¬ (false = true) by decide)] at H; exact H
          clear H
          have H := H1
          clear H1
          simp only [Option.some.injEq, Prod.mk.injEq] at H
          obtain ⟨rfl, rfl⟩ := H
          have p183 : 0 ≤ (x16_1 : Int) := of_decide_eq_true (by first | (with_reducible assumption) | assumption)
          have q183 : x16_1 < (l1.length : Int) := of_decide_eq_true (by first | (with_reducible assumption) | assumption)
          obtain ⟨ad183, e183, hx183_0, hx183_1⟩ := at_T52 HR1.out x16_1 p183 q183
          cases e183
          replace hx183_0 := (HB.out.cell (World.block_lt_of_cell? w _ hx183_0)).trans hx183_0
          replace hx183_1 := (HB.out.cell (World.block_lt_of_cell? w _ hx183_1)).trans hx183_1
          replace p183 := eq_true p183
          replace q183 := eq_true q183
          go_wp2_with (first | ((with_reducible refine gate_dst (N := 8) rfl ?_); refine box_event ?hg (N := 8) ?hd (cs := #[.int .u64 0, .int .u64 0]) (t := 52) ?hr ?_; (case hd => rfl); (case hg => rfl); (case hr => first | (go_simp; done) | (go_simp; rfl)); intro gb184 hg w24 hbox hb; have n0_ := ak_ (below_step (by repeat (first | (with_reducible first | exact HB.out | apply ba_ | apply bn_ | apply bd_) | exact HB.out)) hb); have n1_ := ak_ (hbox); have n2_ := ak_ ((by rw [hg]; exact (below_size (by repeat (first | (with_reducible first | exact HB.out | apply ba_ | apply bn_ | apply bd_) | exact HB.out))) : w.heap.size ≤ gb184)); have n3_ := ak_ ((by rw [hg]; exact (below_size (by repeat (first | (with_reducible first | exact HB.out | apply ba_ | apply bn_ | apply bd_) | exact HB.out))) : w.heap.size ≤ gb184)); clear HB; have HB := n0_; have BK184 := n1_; have GW184 := n2_; have GE184 := n3_; clear n0_ n1_ n2_ n3_; clear hb hbox hg; have hcz25_0 : w24.cell? ⟨gb184, 0, none⟩ = some (.int .u64 0) := (blk_cell BK184.out 0).trans rfl; have hcz25_1 : w24.cell? ⟨gb184, 1, none⟩ = some (.int .u64 0) := (blk_cell BK184.out 1).trans rfl; have hfz25_0 := blk_frozen BK184.out 0; have hfz25_1 := blk_frozen BK184.out 1) | (go_at_call 65; (with_reducible refine (leaf_is.calls a0 ((rd_T52 l1 x16_1).f1) false _ A11.out).mono ?_); rintro e w' ⟨rfl, ⟨nd, rfl⟩⟩; (try first | exact ⟨rfl, _, World.drewN_drewN _ _ _⟩ | exact ⟨rfl, _, Eq.trans (World.drewN_drewN _ _ _) (congrArg (World.drewN _) (Nat.add_assoc _ _ _))⟩)))
          repeat (go_quiet (first | ((with_reducible refine gate_dst (N := 8) rfl ?_); refine box_event ?hg (N := 8) ?hd (cs := #[.int .u64 0, .int .u64 0]) (t := 52) ?hr ?_; (case hd => rfl); (case hg => rfl); (case hr => first | (go_simp; done) | (go_simp; rfl)); intro gb184 hg w24 hbox hb; have n0_ := ak_ (below_step (by repeat (first | (with_reducible first | exact HB.out | apply ba_ | apply bn_ | apply bd_) | exact HB.out)) hb); have n1_ := ak_ (hbox); have n2_ := ak_ ((by rw [hg]; exact (below_size (by repeat (first | (with_reducible first | exact HB.out | apply ba_ | apply bn_ | apply bd_) | exact HB.out))) : w.heap.size ≤ gb184)); have n3_ := ak_ ((by rw [hg]; exact (below_size (by repeat (first | (with_reducible first | exact HB.out | apply ba_ | apply bn_ | apply bd_) | exact HB.out))) : w.heap.size ≤ gb184)); clear HB; have HB := n0_; have BK184 := n1_; have GW184 := n2_; have GE184 := n3_; clear n0_ n1_ n2_ n3_; clear hb hbox hg; have hcz25_0 : w24.cell? ⟨gb184, 0, none⟩ = some (.int .u64 0) := (blk_cell BK184.out 0).trans rfl; have hcz25_1 : w24.cell? ⟨gb184, 1, none⟩ = some (.int .u64 0) := (blk_cell BK184.out 1).trans rfl; have hfz25_0 := blk_frozen BK184.out 0; have hfz25_1 := blk_frozen BK184.out 1) | (go_at_call 65; (with_reducible refine (leaf_is.calls a0 ((rd_T52 l1 x16_1).f1) false _ A11.out).mono ?_); rintro e w' ⟨rfl, ⟨nd, rfl⟩⟩; (try first | exact ⟨rfl, _, World.drewN_drewN _ _ _⟩ | exact ⟨rfl, _, Eq.trans (World.drewN_drewN _ _ _) (congrArg (World.drewN _) (Nat.add_assoc _ _ _))⟩))); try go_wp2_with (first | ((with_reducible refine gate_dst (N := 8) rfl ?_); refine box_event ?hg (N := 8) ?hd (cs := #[.int .u64 0, .int .u64 0]) (t := 52) ?hr ?_; (case hd => rfl); (case hg => rfl); (case hr => first | (go_simp; done) | (go_simp; rfl)); intro gb184 hg w24 hbox hb; have n0_ := ak_ (below_step (by repeat (first | (with_reducible first | exact HB.out | apply ba_ | apply bn_ | apply bd_) | exact HB.out)) hb); have n1_ := ak_ (hbox); have n2_ := ak_ ((by rw [hg]; exact (below_size (by repeat (first | (with_reducible first | exact HB.out | apply ba_ | apply bn_ | apply bd_) | exact HB.out))) : w.heap.size ≤ gb184)); have n3_ := ak_ ((by rw [hg]; exact (below_size (by repeat (first | (with_reducible first | exact HB.out | apply ba_ | apply bn_ | apply bd_) | exact HB.out))) : w.heap.size ≤ gb184)); clear HB; have HB := n0_; have BK184 := n1_; have GW184 := n2_; have GE184 := n3_; clear n0_ n1_ n2_ n3_; clear hb hbox hg; have hcz25_0 : w24.cell? ⟨gb184, 0, none⟩ = some (.int .u64 0) := (blk_cell BK184.out 0).trans rfl; have hcz25_1 : w24.cell? ⟨gb184, 1, none⟩ = some (.int .u64 0) := (blk_cell BK184.out 1).trans rfl; have hfz25_0 := blk_frozen BK184.out 0; have hfz25_1 := blk_frozen BK184.out 1) | (go_at_call 65; (with_reducible refine (leaf_is.calls a0 ((rd_T52 l1 x16_1).f1) false _ A11.out).mono ?_); rintro e w' ⟨rfl, ⟨nd, rfl⟩⟩; (try first | exact ⟨rfl, _, World.drewN_drewN _ _ _⟩ | exact ⟨rfl, _, Eq.trans (World.drewN_drewN _ _ _) (congrArg (World.drewN _) (Nat.add_assoc _ _ _))⟩))))
          go_ret2
          exact ⟨by first | rfl | (simp <;> rfl) | (simp [*] <;> rfl), by repeat (first | (with_reducible first | exact HB.out | apply ba_ | apply bn_ | apply bd_ | refine below_set ?_ GE184.out) | exact HB.out)⟩
       ·rw [if_neg c7] at H
        exact absurd H (by simp)
      ·rw [if_neg c6] at H
       exact absurd H (by simp)
     ·rw [if_neg c5] at H
      have c5b0 : decide (x16_1 < (l1.length : Int)) = false := decide_eq_false c5
      clear c5
      simp only [Option.some.injEq, Prod.mk.injEq] at H
      obtain ⟨rfl, rfl⟩ := H
      go_wp2
      repeat (go_quiet (fail); try go_wp2)
      go_ret2
      exact ⟨by first | rfl | (simp <;> rfl) | (simp [*] <;> rfl), by repeat (first | (with_reducible first | exact HB.out | apply ba_ | apply bn_ | apply bd_) | exact HB.out)⟩
  ·rw [if_neg c4] at H
   have c4b0 : (t182 == 0) = false := beq_eq_false_iff_ne.mpr c4
   have c4b1 : (t182 != 0) = true := bne_iff_ne.mpr c4
   simp only [Option.some.injEq, Prod.mk.injEq] at H
   obtain ⟨rfl, rfl⟩ := H
   go_enter Try.func27, Try.ntmps27
   go_wp2_with (first | (go_at_call 64; (with_reducible refine (node_Check.calls k a0 1 t182 _ A3.out).mono ?_); rintro e w' ⟨rfl, ⟨nd, rfl⟩⟩; (try first | exact ⟨rfl, _, World.drewN_drewN _ _ _⟩ | exact ⟨rfl, _, Eq.trans (World.drewN_drewN _ _ _) (congrArg (World.drewN _) (Nat.add_assoc _ _ _))⟩)))
   repeat (go_quiet (first | (go_at_call 64; (with_reducible refine (node_Check.calls k a0 1 t182 _ A3.out).mono ?_); rintro e w' ⟨rfl, ⟨nd, rfl⟩⟩; (try first | exact ⟨rfl, _, World.drewN_drewN _ _ _⟩ | exact ⟨rfl, _, Eq.trans (World.drewN_drewN _ _ _) (congrArg (World.drewN _) (Nat.add_assoc _ _ _))⟩))); try go_wp2_with (first | (go_at_call 64; (with_reducible refine (node_Check.calls k a0 1 t182 _ A3.out).mono ?_); rintro e w' ⟨rfl, ⟨nd, rfl⟩⟩; (try first | exact ⟨rfl, _, World.drewN_drewN _ _ _⟩ | exact ⟨rfl, _, Eq.trans (World.drewN_drewN _ _ _) (congrArg (World.drewN _) (Nat.add_assoc _ _ _))⟩))))
   go_ret2
   exact ⟨by first | rfl | (simp <;> rfl) | (simp [*] <;> rfl), by repeat (first | (with_reducible first | exact HB.out | apply ba_ | apply bn_ | apply bd_) | exact HB.out)⟩

/-! ### leaf_Gaps: function 28 -/
section
open Go.Shelf
attribute [local go_sem] Oper.semAt_some
def leaf_gapl (last : Int) : Int → List Int → List S52
  | fr, [] => if fr ≤ last then [⟨fr, last⟩] else []
  | fr, i :: l => (if fr < i then [⟨fr, IntKind.u64.wrap (i - 1)⟩] else []) ++ leaf_gapl last (IntKind.u64.wrap (i + 1)) l
set_option maxRecDepth 100000 in
set_option maxHeartbeats 2000000 in
theorem leaf_between1_in (n : Nat) (hn : 1 ≤ n) (l Bs Bl : Nat) (w : World) (A : Option Addr) (c : Nat) (zs : List Int) (last : Int) (hR : Kd.C (Kd.int .u64) w A zs.length zs) (hlen : zs.length ≤ 1000000) (J Jx : List S52 → World → Prop)
   (hY : ∀ pre x W, J pre W → pre.length < zs.length + 1 → YieldAt Fence.wide (n - 1) Try.prog l #[.agg #[.int .u64 x.f0, .int .u64 x.f1]] W fun e W' =>
    (e = .returned (.bool true) ∧ J (pre ++ [x]) W' ∧ (Below w.heap.size W W' ∧ (W.cell? ⟨Bl, 0, none⟩ = some (.int .u64 last) → W'.cell? ⟨Bl, 0, none⟩ = some (.int .u64 last)))) ∨ (e = .returned (.bool false) ∧ Jx (pre ++ [x]) W'))
   (W : World) (hB : Below w.heap.size w W) (hBs : W.cell? ⟨Bs, 0, none⟩ = some (.slice A zs.length c)) (hBl : W.cell? ⟨Bl, 0, none⟩ = some (.int .u64 last)) (h0 : J [] W) :
   CallsIn Fence.wide n Try.prog 109 #[.func (.yield l) #[] #[], .pointer (some ⟨Bs, 0, none⟩), .pointer (some ⟨Bl, 0, none⟩)] W fun e W' => (∃ v, e = .returned v) ∧ ((∃ ys, ys = leaf_gapl last 0 zs ∧ J ys W') ∨ (∃ pre, True ∧ Jx pre W')) := by
  refine callsIn_of_wp Try.func109 rfl trivial ?_ rfl
  simp only [Try.ntmps109, List.size_toArray, List.length_cons, List.length_nil, Nat.reduceAdd, Nat.reduceSub, Array.replicate_succ, Array.replicate_zero, List.push_toArray, List.append_toArray, List.nil_append, List.cons_append]
  gi_wp2
  gi_loopw [4, 9] (fun fr i wr => ∃ (k : Nat) (f : Int) (pre : List S52), k ≤ zs.length ∧ i = .int .i64 k ∧ fr = .int .u64 f ∧ J pre wr ∧ Below w.heap.size w wr ∧ wr.cell? ⟨Bl, 0, none⟩ = some (.int .u64 last) ∧ pre.length ≤ k ∧ pre ++ leaf_gapl last f (zs.drop k) = leaf_gapl last 0 zs)
   (fun _ i _ => zs.length - (intOf i).toNat)
  case atStart => exact ⟨0, 0, [], Nat.zero_le _, rfl, rfl, h0, hB, hBl, by simp, rfl⟩
  case round =>
   obtain ⟨k, f, pre, hk, rfl, rfl, hJ, hBr, hL, hpl, hpre⟩ := hrel
   have HP := ak_ hpre
   have HR := ak_ (Kd.C_below hR hBr)
   have HBr := ak_ hBr
   clear hpre
   by_cases hlt : k < zs.length
   ·obtain ⟨ad, e1, hx⟩ := Kd.at_int HR.out (k : Int) (by omega) (by omega)
    cases e1
    rw [Int.toNat_natCast] at hx
    have hd : zs.drop k = rd zs (k : Int) :: zs.drop (k + 1) := by
     rw [List.drop_eq_getElem_cons hlt]; congr 1
     unfold rd; simp [hlt]
    rw [hd] at HP
    generalize rd zs (k : Int) = x at *
    clear hd
    have hkd : decide ((k : Int) < (zs.length : Int)) = true := decide_eq_true (by omega)
    by_cases hf : f < x
    ·obtain ⟨fn, tmps, assign, body, hy, hRn⟩ := hY pre ⟨f, IntKind.u64.wrap (x - 1)⟩ wr hJ (by omega)
     dsimp only at hy
     have hfd : decide (f < x) = true := decide_eq_true hf
     rw [leaf_gapl, if_pos hf] at HP
     clear hf
     gi_wp2
     refine hRn.mono ?_
     rintro e W3 (⟨rfl, hJ3, hk3, hl3⟩ | ⟨rfl, hJx3⟩)
     ·gi_wp2
      go_roundw
      case rel => exact ⟨k + 1, _, _, by omega, by go_num, rfl, hJ3, HBr.out.trans hk3, hl3 hL, by simp; omega, by rw [← HP.out]; simp⟩
      case measure => simp [intOf]; omega
     ·gi_wp2
      refine bodyPost_ret (results_none rfl _ _ _) rfl ?_
      exact ⟨⟨_, rfl⟩, .inr ⟨_, trivial, hJx3⟩⟩
    ·have hfd : decide (f < x) = false := decide_eq_false hf
     rw [leaf_gapl, if_neg hf] at HP
     clear hf
     gi_wp2
     refine ⟨fun _ h => (by cases h), ?_⟩
     gi_wp2
     go_roundw
     case rel => exact ⟨k + 1, _, _, by omega, by go_num, rfl, hJ, HBr.out, hL, by omega, by rw [← HP.out]; simp⟩
     case measure => simp [intOf]; omega
   ·obtain rfl : k = zs.length := by omega
    have hkd : decide ((zs.length : Int) < (zs.length : Int)) = false := decide_eq_false (by omega)
    rw [List.drop_length, leaf_gapl] at HP
    by_cases hf : f ≤ last
    ·rw [if_pos hf] at HP
     have hfd : decide (f ≤ last) = true := decide_eq_true hf
     obtain ⟨fn, tmps, assign, body, hy, hRn⟩ := hY pre ⟨f, last⟩ wr hJ (by omega)
     dsimp only at hy
     clear hf
     gi_wp2
     refine hRn.mono ?_
     rintro e W3 (⟨rfl, hJ3, hk3, hl3⟩ | ⟨rfl, hJx3⟩)
     ·gi_wp2
      go_end0
      exact ⟨⟨_, rfl⟩, .inl ⟨_, HP.out, hJ3⟩⟩
     ·gi_wp2
      go_end0
      exact ⟨⟨_, rfl⟩, .inr ⟨_, trivial, hJx3⟩⟩
    ·rw [if_neg hf, List.append_nil] at HP
     have hfd : decide (f ≤ last) = false := decide_eq_false hf
     clear hf
     gi_wp2
     go_end0
     exact ⟨⟨_, rfl⟩, .inl ⟨_, HP.out, hJ⟩⟩

theorem leaf_gapl_len (last : Int) : ∀ (l : List Int) (fr : Int), (leaf_gapl last fr l).length ≤ l.length + 1
  | [], fr => by unfold leaf_gapl; split <;> simp
  | i :: l, fr => by
   have := leaf_gapl_len last l (IntKind.u64.wrap (i + 1))
   unfold leaf_gapl; rw [List.length_append, List.length_cons]; split <;> simp <;> omega
theorem leaf_between.calls (A : Option Addr) (n c : Nat) (last : Int) (w : World) : Calls Try.prog 66 #[.slice A n c, .int .u64 last] w fun e w' => e = .returned (.func (.func 109) #[] #[.pointer (some ⟨w.heap.size, 0, none⟩), .pointer (some ⟨w.heap.size + 1, 0, none⟩)]) ∧ w' = (w.alloc (.cells #[.slice A n c] 22)).alloc (.cells #[.int .u64 last] 28) := by
  have hmf : ∀ (fn : Fn) (first cap : Array Value) (w : World), (Instr.makeFunc fn first cap).run Try.prog w = .ok (.func fn first cap) w := fun _ _ _ _ => rfl
  go_enter Try.func66, Try.ntmps66
  go_wp2
  go_ret
  exact ⟨by simp, rfl⟩

def cs_span (x : S52) : List Value := [.int .u64 x.f0, .int .u64 x.f1]
theorem reps_span {R : S52 → List Value → Prop} (hR : ∀ x, R x (cs_span x)) : ∀ xs : List S52, Reps R 2 xs (xs.flatMap cs_span)
  | [] => Reps.none _ _
  | x :: xs => Reps.c2 (hR x) (reps_span hR xs)
theorem R_span {e : Nat} {w : World} {base : Nat} {v : Value} {xs : List S52} (h : w.ownsRow base e 2 v xs.length (xs.flatMap cs_span)) : Kd.R k52 e w base (fun _ => True) v xs :=
  ⟨fun _ _ => trivial, _, h, reps_span (fun x => k52_mkM _ _ _ x) xs⟩
def GapsI (w : World) (B : Nat) (hi : Int) (pre : List S52) (W : World) : Prop := ((∃ v, Boxed W B 45 v ∧ W.ownsRow w.heap.size 52 2 v pre.length (pre.flatMap cs_span) ∧ True) ∧ Boxed W (B + 1 + 1) 28 (.int .u64 hi)) ∧ Below w.heap.size w W
theorem gapsI_own (w : World) (B : Nat) (hi : Int) (B0 : Nat) (h : w.heap.size ≤ B0) : OwnFrom B0 (GapsI w B hi) :=
  OwnFrom.and (Own.from (fun s X Y row hs hg hr => ⟨holdsRow_own w.heap.size B 45 52 2 (fun pre : List S52 => pre.length) (fun pre => pre.flatMap cs_span) (fun _ _ => True) s X Y row hs.1 hg hr, boxed_own (B + 1 + 1) 28 (fun _ : List S52 => Value.int .u64 hi) s X Y row hs.2 hg hr⟩) _) (ownFrom_below (Nat.le_refl _) h)
theorem cell_two_new (W : World) (a b : Value) (ty : TypeId) : ∀ j u, [a, b][j]? = some u → (W.alloc (.cells #[a, b] ty)).cell? ((⟨W.heap.size, 0, none⟩ : Addr).add j) = some u := by
  intro j u hj
  rw [add_plain]
  match j with
  | 0 => simp at hj; subst hj; simp
  | 1 => simp at hj; subst hj; simp
  | j + 2 => simp at hj
def leaf_Gaps.f (k : Nat) (a0 : Int) (l1 : List Int) : Option (List S52 × Int) := (node_Leaves.f k a0 1).bind fun b => if b.2.2 = 0 then ((leaf_Check.f k a0 l1).bind fun t => if t = 0 then (if l1.length ≤ 1000000 then some (leaf_gapl b.2.1 0 l1, 0) else none) else some ([], 1)) else some ([], 1)
theorem leaf_Gaps.mono : ∀ a0 a1 k, LeO (leaf_Gaps.f k a0 a1) (leaf_Gaps.f (k + 1) a0 a1) := by
  intro a0 a1 k
  unfold leaf_Gaps.f
  repeat' first
    | (with_reducible exact node_Leaves.mono _ _ _)
    | (with_reducible exact leaf_Check.mono _ _ _)
    | (with_reducible exact LeO.refl _)
    | (with_reducible exact LeO.none _)
    | (with_reducible refine LeO.ite ?_ ?_)
    | (with_reducible refine LeO.bind ?_ (fun _ => ?_))
set_option maxHeartbeats 8000000 in
set_option maxRecDepth 100000 in
theorem leaf_Gaps.calls (k : Nat) (a0 : Int) (A1 : Option Addr) (c1 : Nat) (l1 : List Int) (r1 : List S52) (r2 : Int) (w : World) (hr1 : Kd.C (Kd.int .u64) w A1 l1.length l1) (hc1 : l1.length ≤ c1) (h : leaf_Gaps.f k a0 l1 = some (r1, r2)) :
   Calls Try.prog 28 #[.int .i64 a0, .slice A1 l1.length c1] w fun e w' => ∃ v0_ : Value, e = .returned (.tuple #[v0_, .int .i64 r2]) ∧ Kd.R k52 52 w' w.heap.size (fun _ => True) v0_ r1 ∧ Below w.heap.size w w' := by
  obtain ⟨⟨lo, hi, e1⟩, A30, H⟩ := Option.bind_eq_some_iff.mp h
  clear h
  replace H : (if e1 = 0 then ((leaf_Check.f k a0 l1).bind fun t => if t = 0 then (if l1.length ≤ 1000000 then some (leaf_gapl hi 0 l1, 0) else none) else some ([], 1)) else some ([], 1)) = some (r1, r2) := H
  have A3 := ak_ A30
  clear A30
  have HR1 := ak_ hr1
  have HC1 := ak_ hc1
  clear hr1 hc1
  have hu34 := Try.underlying52
  by_cases c1_ : e1 = 0
  ·rw [if_pos c1_] at H
   have c1b0 : (e1 != 0) = false := bne_eq_false_iff_eq.mpr c1_
   clear c1_
   obtain ⟨t, A40, H⟩ := Option.bind_eq_some_iff.mp H
   have A4 := ak_ A40
   clear A40
   by_cases c2 : t = 0
   ·rw [if_pos c2] at H
    have c2b0 : (t != 0) = false := bne_eq_false_iff_eq.mpr c2
    clear c2
    by_cases c3 : l1.length ≤ 1000000
    ·rw [if_pos c3] at H
     simp only [Option.some.injEq, Prod.mk.injEq] at H
     obtain ⟨rfl, rfl⟩ := H
     have HL := ak_ c3
     clear c3
     refine (callsIn_wide (n := 5)).1 ?_
     refine callsIn_of_wp_marks Try.func28 rfl trivial ?_ rfl
     simp only [Try.ntmps28, List.size_toArray, List.length_cons, List.length_nil, Nat.reduceAdd, Nat.reduceSub, Array.replicate_succ, Array.replicate_zero, List.push_toArray, List.append_toArray, List.nil_append, List.cons_append]
     gi_wp2
     refine ⟨trivial, ?_⟩
     refine (callsIn_wide.2 (node_Leaves.calls k a0 1 lo hi e1 _ A3.out)).mono ?_
     rintro e w1 ⟨rfl, hb1⟩
     have HB1 := ak_ hb1
     have HRc := ak_ (Kd.C_below HR1.out hb1)
     clear hb1
     gi_wp2
     refine ⟨trivial, ?_⟩
     refine (callsIn_wide.2 (leaf_Check.calls k a0 _ _ l1 t _ ?s1 HC1.out A4.out)).mono ?_
     case s1 => exact Kd.C_alloc HRc.out _
     rintro e w2 ⟨rfl, ⟨nd, rfl⟩⟩
     gi_wp2
     refine ⟨trivial, ?_⟩
     refine (callsIn_wide.2 (leaf_between.calls A1 l1.length c1 hi _)).mono ?_
     rintro e w3 ⟨rfl, rfl⟩
     have hb2 : Below w.heap.size w ((w1.alloc (.cells #[.int .u64 lo, .int .u64 hi] 52)).drewN nd) := bn_ (ba_ HB1.out _) nd
     have hsz2 : ((w1.alloc (.cells #[.int .u64 lo, .int .u64 hi] 52)).drewN nd).heap.size = w1.heap.size + 1 := by simp
     generalize ((w1.alloc (.cells #[.int .u64 lo, .int .u64 hi] 52)).drewN nd) = W2 at hb2 hsz2 ⊢
     have hs1 : (W2.alloc (.cells #[.slice none 0 0] 45)).heap.size = W2.heap.size + 1 := by simp
     have bO := Boxed.new W2 45 (.slice none 0 0)
     have bS := Boxed.new (W2.alloc (.cells #[.slice none 0 0] 45)) 22 (.slice A1 l1.length c1)
     have bL := Boxed.new ((W2.alloc (.cells #[.slice none 0 0] 45)).alloc (.cells #[.slice A1 l1.length c1] 22)) 28 (.int .u64 hi)
     rw [hs1] at bS
     have hs2 : ((W2.alloc (.cells #[.slice none 0 0] 45)).alloc (.cells #[.slice A1 l1.length c1] 22)).heap.size = W2.heap.size + 1 + 1 := by simp
     rw [hs2] at bL
     have bO' := (bO.alloc (.cells #[.slice A1 l1.length c1] 22)).alloc (.cells #[.int .u64 hi] 28)
     have bS' := bS.alloc (.cells #[.int .u64 hi] 28)
     have hb3 := ((hb2.alloc hb2.size (.cells #[.slice none 0 0] 45)).alloc (by have := hb2.size; simp; omega) (.cells #[.slice A1 l1.length c1] 22)).alloc (by have := hb2.size; simp; omega) (.cells #[.int .u64 hi] 28)
     obtain ⟨W0, hW0⟩ : ∃ W0, ((W2.alloc (.cells #[.slice none 0 0] 45)).alloc (.cells #[.slice A1 l1.length c1] 22)).alloc (.cells #[.int .u64 hi] 28) = W0 := ⟨_, rfl⟩
     have hz0 : W0.heap.size = W2.heap.size + 3 := by rw [← hW0]; simp
     rw [hW0] at bL bO' bS' hb3
     rw [hs1, hW0, hsz2]
     rw [hsz2] at hz0 bL bO' bS'
     have HB3 := ak_ hb3
     have hw2 := hb2.size
     clear bO bS hs1 hs2 hb2 hb3
     gi_wp2
     have hbb : W0.heap.size = w.heap.size + (W0.heap.size - w.heap.size) := by omega
     refine wpIn_rangeFunc_ownH (α := S52) (encs := fun x => #[.agg #[.int .u64 x.f0, .int .u64 x.f1]]) (Kp := fun X Y => Below w.heap.size X Y ∧ (X.cell? ⟨(w1.heap.size + 1) + 1 + 1, 0, none⟩ = some (.int .u64 hi) → Y.cell? ⟨(w1.heap.size + 1) + 1 + 1, 0, none⟩ = some (.int .u64 hi)))
      (S := fun ys => ys = leaf_gapl hi 0 l1) (Sp := fun _ => True) (N := l1.length + 1) (w0 := W0) rfl (by omega) (gf := 109) (lb := #[.pointer (some ⟨(w1.heap.size + 1) + 1, 0, none⟩), .pointer (some ⟨(w1.heap.size + 1) + 1 + 1, 0, none⟩)]) rfl trivial (enters_of Try.func109 (by kernel_rfl) rfl)
      (fun l J Jx W hW _ _ hY h0 => leaf_between1_in (5 - 1) (by omega) l ((w1.heap.size + 1) + 1) ((w1.heap.size + 1) + 1 + 1) w A1 c1 l1 hi HR1.out HL.out J Jx hY W (HB3.out.trans (hW.mono (by omega))) ((hW.cell (p := ⟨(w1.heap.size + 1) + 1, 0, none⟩) (by show (w1.heap.size + 1) + 1 < _; omega)).trans bS'.cell) ((hW.cell (p := ⟨(w1.heap.size + 1) + 1 + 1, 0, none⟩) (by show (w1.heap.size + 1) + 1 + 1 < _; omega)).trans bL.cell) h0)
      (fun h1 h2 => ⟨h1.1.trans h2.1, fun z => h2.2 (h1.2 z)⟩)
      (fun W l o o' h1 h2 h3 h4 => ⟨belowK_b (w := W0) (by omega) W l o o' h1 h2 h3 h4, fun z => ((belowK_b (w := W0) (Nat.le_refl _) W l o o' h1 h2 h3 h4).cell (p := ⟨(w1.heap.size + 1) + 1 + 1, 0, none⟩) (by show (w1.heap.size + 1) + 1 + 1 < _; omega)).trans z⟩)
      (Below.refl _ _) (fun _ => rfl)
      (GapsI w (w1.heap.size + 1) hi)
      (fun _ _ _ => False)
      (gapsI_own w _ hi _ (by omega))
      (fun _ _ _ _ _ hs _ _ => hs)
      ⟨⟨⟨_, bO', World.ownsRow_nil _ _ _ _, trivial⟩, bL⟩, HB3.out⟩
      (fun x a' W => ∃ Bx, W.heap[Bx]? = some (.cells #[.int .u64 x.f0, .int .u64 x.f1] 52 (0, 0)) ∧ a' = { tmps := #[.int .i64 a0, .slice A1 l1.length c1, undef, undef, .slice none 0 0, .int .i64 0, .pointer (some ⟨w1.heap.size, 0, none⟩), .int .i64 e1, .pointer (some ⟨w1.heap.size + 1, 0, none⟩), .pointer (some ⟨Bx, 0, none⟩), .tuple #[.agg #[.int .u64 lo, .int .u64 hi], .int .i64 e1], .int .i64 a0, .tuple #[.agg #[.int .u64 lo, .int .u64 hi], .int .i64 e1], .agg #[.int .u64 lo, .int .u64 hi], .int .i64 e1, .int .i64 e1, .bool false, .bool false, .int .i64 a0, .slice A1 l1.length c1, .int .i64 t, .bool false, .bool false, .slice A1 l1.length c1, .pointer (some ⟨w1.heap.size, 1, none⟩), .int .u64 hi, .func (.func 109) #[] #[.pointer (some ⟨w1.heap.size + 1 + 1, 0, none⟩), .pointer (some ⟨w1.heap.size + 1 + 1 + 1, 0, none⟩)], .agg #[.int .u64 x.f0, .int .u64 x.f1], undef, undef, undef, undef, undef], defers := [] })
      ?hAx ?assign ?body ?done ?stop
     case hAx =>
      rintro x a' _ X Y row ⟨Bx, hx, rfl⟩ hg hr
      refine ⟨Bx, (hg.block Bx (Array.getElem?_eq_some_iff.1 hx).1 (fun e => ?_)).trans hx, rfl⟩
      obtain ⟨_, o, ho, hc⟩ := hr Bx e.symm
      rw [hx] at ho; cases ho; cases hc
     case assign =>
      intro l pre x W K hI hK
      have hsz : w.heap.size ≤ W.heap.size := hI.2.size
      gi_wp2
      exact hK _ _ ((KeepsOthers.alloc _ _).from _) ⟨(Below.refl _ W).alloc hsz _, fun z => ((Below.refl W.heap.size W).alloc (Nat.le_refl _) _).cell (World.block_lt_of_cell? W _ z) |>.trans z⟩ ((gapsI_own w _ hi _ (Nat.le_refl _)).alloc _ hI) ⟨W.heap.size, blk_new _ _, rfl⟩
     case body =>
      rintro l pre x a' W hl ⟨r, hr⟩ ⟨⟨⟨v, hbo, hrow, _⟩, hbl⟩, hB⟩ ⟨Bx, hx, rfl⟩ hlt
      obtain ⟨i0, hi0, hz0_, hz1_, hz2_⟩ := info_parts info52
      have hlen := HL.out
      have hx0 := blk_cell hx 0
      have hx1 := blk_cell hx 1
      have hbc := hbo.cell
      simp at hx0 hx1
      have HBO := ak_ hbo
      have HBL := ak_ hbl
      have HROW := ak_ hrow
      have HB := ak_ hB
      clear hbo hbl hB
      gi_wp2_with (gi_at_builtin; refine wpListIn_append_own _ rfl _ _ 45 rfl w.heap.size 52 i0 (.agg #[.int .u64 0, .int .u64 0]) 2 16 Try.underlying45 hi0 hz0_ hz1_ hz2_ rfl (by decide) _ _ _ rfl (hrow.alloc _) ⟨W.heap.size, 0, none⟩ 1 1 (cs_span x) rfl rfl (cell_two_new _ _ _ _) (by simp [cs_span, Value.oneCell']) (by unfold maxLen; omega) (by omega) (by have := HB.out.size; simp; omega) ?_; intro v' w1' hown' hgrow _; obtain ⟨g', cap', rfl⟩ := ownsRow_succ hown'; obtain ⟨hv1, hv2, hr2, hk2, hb2⟩ := HBO.out.appended (by decide) HROW.out HB.out.size (by omega) hown' hgrow; have hbl1 := ((HBL.out.alloc _).kept hgrow (HBL.out.not_row (by decide) HROW.out)).other (B' := w1.heap.size + 1) (by omega) (.slice (some ⟨g', 0, none⟩) (pre.length + 1) cap'); have hc1 := hv1.cell; have hf1 := hv1.frozen)
      exact ⟨hk2.from _, ⟨hb2, fun _ => hbl1.cell⟩, ⟨⟨_, hv2, by simpa [List.flatMap_append] using hr2, trivial⟩, hbl1⟩, HB.out.trans hb2⟩
     case done =>
      rintro D ys W hD rfl ⟨⟨⟨v, hbo, hrow, _⟩, hbl⟩, hB⟩ hK
      have hbc := hbo.cell
      gi_wp2
      refine ⟨by simp, .inl ⟨_, _, rfl, run_takeDeferred hK, ?_⟩⟩
      exact ⟨_, results_tmp2 rfl _ _ _, v, rfl, R_span (ownsRow_putObj hrow _ hK rfl), hB.trans (belowK_b (w := W0) (by omega) W D _ _ hD hK rfl rfl)⟩
     case stop =>
      rintro D c pre W hD _ h _
      exact h.elim
    ·rw [if_neg c3] at H; cases H
   ·rw [if_neg c2] at H
    have c2b0 : (t != 0) = true := bne_iff_ne.mpr c2
    clear c2
    simp only [Option.some.injEq, Prod.mk.injEq] at H
    obtain ⟨rfl, rfl⟩ := H
    refine (callsIn_wide (n := 5)).1 ?_
    refine callsIn_of_wp Try.func28 rfl trivial ?_ rfl
    simp only [Try.ntmps28, List.size_toArray, List.length_cons, List.length_nil, Nat.reduceAdd, Nat.reduceSub, Array.replicate_succ, Array.replicate_zero, List.push_toArray, List.append_toArray, List.nil_append, List.cons_append]
    gi_wp2
    refine ⟨trivial, ?_⟩
    refine (callsIn_wide.2 (node_Leaves.calls k a0 1 lo hi e1 _ A3.out)).mono ?_
    rintro e w1 ⟨rfl, hb1⟩
    have HB1 := ak_ hb1
    have HRc := ak_ (Kd.C_below HR1.out hb1)
    clear hb1
    gi_wp2
    refine ⟨trivial, ?_⟩
    refine (callsIn_wide.2 (leaf_Check.calls k a0 _ _ l1 t _ ?s1 HC1.out A4.out)).mono ?_
    case s1 => exact Kd.C_alloc HRc.out _
    rintro e w2 ⟨rfl, ⟨nd, rfl⟩⟩
    gi_wp2
    go_ret2
    exact ⟨_, rfl, Kd.R_nil _ _ _ _ _, bn_ (ba_ HB1.out _) nd⟩
  ·rw [if_neg c1_] at H
   have c1b0 : (e1 != 0) = true := bne_iff_ne.mpr c1_
   clear c1_
   simp only [Option.some.injEq, Prod.mk.injEq] at H
   obtain ⟨rfl, rfl⟩ := H
   go_enter Try.func28, Try.ntmps28
   go_wp2_with (go_at_call 54; (with_reducible refine (node_Leaves.calls k a0 1 lo hi e1 _ A3.out).mono ?_); rintro e w1 ⟨rfl, hb1⟩; have HB1 := ak_ hb1; clear hb1)
   go_ret2
   exact ⟨_, rfl, Kd.R_nil _ _ _ _ _, ba_ HB1.out _⟩
end

/-! ### medlarref08_Same: function 19 -/
def medlarref08_Same.l0 : Nat → List (S34) → List (S34) → Int → Int → Option (Bool)
  | 0, _, _, _, _ => none
  | k + 1, x0, x1, x12, x13 => if x13 < x12 then (if 0 ≤ x13 then (if x13 < (x0.length : Int) then (if x13 < (x1.length : Int) then (if (!(((rd_T34 x0 x13).f0) == ((rd_T34 x1 x13).f0)) || (!(((rd_T34 x0 x13).f1) == ((rd_T34 x1 x13).f1)))) = true then (some false) else (medlarref08_Same.l0 k x0 x1 x12 (wrap64 (x13 + 1)))) else (none)) else (none)) else (none)) else (some true)
def medlarref08_Same.f (k : Nat) (l0 : List (S34)) (l1 : List (S34)) : Option (Bool) := if (l0.length : Int) = (l1.length : Int) then (medlarref08_Same.l0 k l0 l1 (l0.length : Int) 0) else (some false)
theorem medlarref08_Same.mono_l : ∀ k, (∀ y0 y1 y2 y3, LeO (medlarref08_Same.l0 k y0 y1 y2 y3) (medlarref08_Same.l0 (k + 1) y0 y1 y2 y3))
  | 0 => fun _ _ _ _ r h => by simp [medlarref08_Same.l0] at h
  | k + 1 => by
   have ih0 := medlarref08_Same.mono_l k
   ·intro y0 y1 y2 y3
    unfold medlarref08_Same.l0
    repeat' first
    | (with_reducible exact ih0 _ _ _ _)
    | (with_reducible exact LeO.refl _)
    | (with_reducible exact LeO.none _)
    | (with_reducible refine LeO.ite ?_ ?_)
    | (with_reducible refine LeO.bind ?_ (fun _ => ?_))
    | exact ih0 _ _ _ _
    | exact LeO.none _
    | refine LeO.ite ?_ ?_
    | refine LeO.bind ?_ (fun _ => ?_)
theorem medlarref08_Same.mono : ∀ a0 a1 k, LeO (medlarref08_Same.f k a0 a1) (medlarref08_Same.f (k + 1) a0 a1) := by
  intro a0 a1 k
  have ih0 := medlarref08_Same.mono_l k
  unfold medlarref08_Same.f
  repeat' first
    | (with_reducible exact ih0 _ _ _ _)
    | (with_reducible exact LeO.refl _)
    | (with_reducible exact LeO.none _)
    | (with_reducible refine LeO.ite ?_ ?_)
    | (with_reducible refine LeO.bind ?_ (fun _ => ?_))
    | exact ih0 _ _ _ _
    | exact LeO.none _
    | refine LeO.ite ?_ ?_
    | refine LeO.bind ?_ (fun _ => ?_)
set_option maxHeartbeats 8000000 in
set_option maxRecDepth 100000 in
theorem medlarref08_Same.calls (k : Nat) (A0 : Option Addr) (c0 : Nat) (l0 : List (S34)) (A1 : Option Addr) (c1 : Nat) (l1 : List (S34)) (r : Bool) (w : World) (hr0 : Kd.C k34 w A0 l0.length l0) (hc0 : l0.length ≤ c0) (hr1 : Kd.C k34 w A1 l1.length l1) (hc1 : l1.length ≤ c1) (h : medlarref08_Same.f k l0 l1 = some r) :
   Calls Try.prog 19 #[.slice A0 l0.length c0, .slice A1 l1.length c1] w fun e w' => e = .returned (.bool r) ∧ Drawn0 w w' := by
  have hu34 := Try.underlying34
  have HR0 := ak_ hr0
  have HC0 := ak_ hc0
  clear hr0 hc0
  have HR1 := ak_ hr1
  have HC1 := ak_ hc1
  clear hr1 hc1
  have H : (if (l0.length : Int) = (l1.length : Int) then (medlarref08_Same.l0 k l0 l1 (l0.length : Int) 0) else (some false)) = some r := h
  clear h
  by_cases c3 : (l0.length : Int) = (l1.length : Int)
  ·rw [if_pos c3] at H
   have c3b0 : ((l0.length : Int) == (l1.length : Int)) = true := beq_iff_eq.mpr c3
   have c3b1 : ((l0.length : Int) != (l1.length : Int)) = false := bne_eq_false_iff_eq.mpr c3
   have c3b2 : (l0.length == l1.length) = true := by first | simpa using c3 | (simp at c3 ⊢; omega)
   clear c3
   have H' := ak_ H
   clear H
   go_enter Try.func19, Try.ntmps19
   go_wp2
   repeat (go_quiet (fail); try go_wp2)
   go_loopg [13] k (fun kq v13 w' => ∃ (x13_1 : Int), v13 = .int .i64 x13_1 ∧ Aside0 (medlarref08_Same.l0 kq l0 l1 (l0.length : Int) x13_1 = some r) ∧ Aside0 (kq ≤ k) ∧ Drawn0 w w')
   case atStart => exact ⟨(0), (by first | rfl | (simp; done) | (simp [*]; done)), H', ⟨Nat.le_refl _⟩, by repeat (first | exact Drawn0.refl _ | apply Drawn0.step)⟩
   case round =>
    clear H'
    try clear c1
    try clear p2
    try clear c3
    try clear c3b0
    try clear c3b1
    try clear c3b2
    obtain ⟨x13_1, rfl, HA, HK1, ⟨m1, rfl⟩⟩ := hrel
    cases gk with
    | zero => exact absurd HA.out (by simp [medlarref08_Same.l0])
    | succ k1 =>
     have H := HA.out
     clear HA
     simp only [medlarref08_Same.l0] at H
     by_cases c4 : x13_1 < (l0.length : Int)
     ·rw [if_pos c4] at H
      have c4b0 : decide (x13_1 < (l0.length : Int)) = true := decide_eq_true c4
      clear c4
      by_cases c5 : 0 ≤ x13_1
      ·rw [if_pos c5] at H
       have c5b0 : decide (0 ≤ x13_1) = true := decide_eq_true c5
       clear c5
       by_cases c6 : x13_1 < (l0.length : Int)
       ·rw [if_pos c6] at H
        have c6b0 : decide (x13_1 < (l0.length : Int)) = true := decide_eq_true c6
        clear c6
        by_cases c7 : x13_1 < (l1.length : Int)
        ·rw [if_pos c7] at H
         have c7b0 : decide (x13_1 < (l1.length : Int)) = true := decide_eq_true c7
         clear c7
         by_cases c8 : (!(((rd_T34 l0 x13_1).f0) == ((rd_T34 l1 x13_1).f0)) || (!(((rd_T34 l0 x13_1).f1) == ((rd_T34 l1 x13_1).f1)))) = true
         ·rw [if_pos c8] at H
          have c8b0 : (!(((rd_T34 l0 x13_1).f0) == ((rd_T34 l1 x13_1).f0)) || (!(((rd_T34 l0 x13_1).f1) == ((rd_T34 l1 x13_1).f1)))) = true := c8
          clear c8
          obtain rfl := Option.some.inj H
          have p187 : 0 ≤ (x13_1 : Int) := of_decide_eq_true (by first | (with_reducible assumption) | assumption)
          have q187 : x13_1 < (l0.length : Int) := of_decide_eq_true (by first | (with_reducible assumption) | assumption)
          obtain ⟨ad187, e187, hx187_0, hx187_1⟩ := at_T34 HR0.out x13_1 p187 q187
          cases e187
          replace p187 := eq_true p187
          replace q187 := eq_true q187
          have p188 : 0 ≤ (x13_1 : Int) := of_decide_eq_true (by first | (with_reducible assumption) | assumption)
          have q188 : x13_1 < (l1.length : Int) := of_decide_eq_true (by first | (with_reducible assumption) | assumption)
          obtain ⟨ad188, e188, hx188_0, hx188_1⟩ := at_T34 HR1.out x13_1 p188 q188
          cases e188
          replace p188 := eq_true p188
          replace q188 := eq_true q188
          go_wp2
          repeat (go_quiet (fail); try go_wp2)
          go_ret
          exact ⟨by first | rfl | (simp; done) | (simp [*]; done), by repeat (first | exact Drawn0.refl _ | apply Drawn0.step)⟩
         ·rw [if_neg c8] at H
          have c8b0 : (!(((rd_T34 l0 x13_1).f0) == ((rd_T34 l1 x13_1).f0)) || (!(((rd_T34 l0 x13_1).f1) == ((rd_T34 l1 x13_1).f1)))) = false := by simpa using c8
          clear c8
          have H' := ak_ H
          clear H
          have p187 : 0 ≤ (x13_1 : Int) := of_decide_eq_true (by first | (with_reducible assumption) | assumption)
          have q187 : x13_1 < (l0.length : Int) := of_decide_eq_true (by first | (with_reducible assumption) | assumption)
          obtain ⟨ad187, e187, hx187_0, hx187_1⟩ := at_T34 HR0.out x13_1 p187 q187
          cases e187
          replace p187 := eq_true p187
          replace q187 := eq_true q187
          have p188 : 0 ≤ (x13_1 : Int) := of_decide_eq_true (by first | (with_reducible assumption) | assumption)
          have q188 : x13_1 < (l1.length : Int) := of_decide_eq_true (by first | (with_reducible assumption) | assumption)
          obtain ⟨ad188, e188, hx188_0, hx188_1⟩ := at_T34 HR1.out x13_1 p188 q188
          cases e188
          replace p188 := eq_true p188
          replace q188 := eq_true q188
          go_wp2
          repeat (go_quiet (fail); try go_wp2)
          go_roundg k1
          case measure => have := HK1.out; omega
          case rel => exact ⟨(wrap64 (x13_1 + 1)), (by first | rfl | (simp; done) | (simp [*]; done)), H', ⟨by have := HK1.out; omega⟩, by repeat (first | exact Drawn0.refl _ | apply Drawn0.step)⟩
        ·rw [if_neg c7] at H
         exact absurd H (by simp)
       ·rw [if_neg c6] at H
        exact absurd H (by simp)
      ·rw [if_neg c5] at H
       exact absurd H (by simp)
     ·rw [if_neg c4] at H
      have c4b0 : decide (x13_1 < (l0.length : Int)) = false := decide_eq_false c4
      clear c4
      obtain rfl := Option.some.inj H
      go_wp2
      repeat (go_quiet (fail); try go_wp2)
      go_ret
      exact ⟨by first | rfl | (simp; done) | (simp [*]; done), by repeat (first | exact Drawn0.refl _ | apply Drawn0.step)⟩
  ·rw [if_neg c3] at H
   have c3b0 : ((l0.length : Int) == (l1.length : Int)) = false := beq_eq_false_iff_ne.mpr c3
   have c3b1 : ((l0.length : Int) != (l1.length : Int)) = true := bne_iff_ne.mpr c3
   have c3b2 : (l0.length == l1.length) = false := by first | simpa using c3 | (simp at c3 ⊢; omega)
   obtain rfl := Option.some.inj H
   go_enter Try.func19, Try.ntmps19
   go_wp2
   repeat (go_quiet (fail); try go_wp2)
   go_ret
   exact ⟨by first | rfl | (simp; done) | (simp [*]; done), by repeat (first | exact Drawn0.refl _ | apply Drawn0.step)⟩

/-! ### slices_Clone_uint64_uint64: function 57 -/
def slices_Clone_uint64_uint64.f (l0 : List Int) : Option (List Int) := if l0.length < 17592186044416 then some l0 else none
set_option maxHeartbeats 8000000 in
set_option maxRecDepth 100000 in
theorem slices_Clone_uint64_uint64.calls (A0 : Option Addr) (c0 : Nat) (l0 : List Int) (r : List Int) (w : World) (hr0 : Kd.C (Kd.int .u64) w A0 l0.length l0) (hc0 : l0.length ≤ c0) (h : slices_Clone_uint64_uint64.f l0 = some r) :
   Calls Try.prog 57 #[.slice A0 l0.length c0] w fun e w' => ∃ v0_ : Value, e = .returned (v0_) ∧ Kd.R (Kd.int .u64) 28 w' w.heap.size (fun _ => True) v0_ r ∧ Below w.heap.size w w' := by
  have hl : l0.length < 17592186044416 := by
   by_cases c : l0.length < 17592186044416
   ·exact c
   ·simp [slices_Clone_uint64_uint64.f, c] at h
  obtain rfl : l0 = r := by simpa [slices_Clone_uint64_uint64.f, hl] using h
  clear h
  have q22 : ∀ (w : World) (a : Option Addr) (n c n' c' : Nat), (binOp .eql 22 (.slice a n c) (.slice none n' c')).run Try.prog w = .ok (.bool a.isNone) w := fun w a n c n' c' => Lib.run_eql_slice_nil w _ _ a n c n' c' Try.underlying22
  cases A0 with
  | none =>
   have h0 : l0 = [] := by
    apply List.length_eq_zero_iff.1
    by_cases hz : 0 < l0.length
    ·obtain ⟨_, h, _⟩ := hr0.2.2 hz
     cases h
    ·omega
   subst h0
   clear hr0
   have i0 : (none : Option Addr).isNone = true := rfl
   go_enter Try.func57, Try.ntmps57
   go_wp2
   go_ret
   exact ⟨_, rfl, Kd.R_nil _ _ _ _ _, Below.refl _ _⟩
  | some ad =>
   have HR0 := ak_ hr0
   clear hr0
   have hR0 : Kd.R (Kd.int .u64) 28 (w.alloc (.cells #[] 28)) w.heap.size (fun _ => True) (.slice (some ⟨w.heap.size, 0, none⟩) 0 0) [] := ⟨fun _ _ => trivial, [], (by have h := World.ownsRow_lit (base := w.heap.size) (e := 28) (size := 1) w #[] 0 (Nat.le_refl _) (by simp only [maxLen]; omega) rfl; simpa [Kd.int, Kd.scalar] using h), ⟨rfl, fun i p hi => by simp at hi⟩⟩
   have i0 : (some ad : Option Addr).isNone = false := rfl
   go_enter Try.func57, Try.ntmps57
   go_wp2_with (first | (at_builtin; refine Kd.R_append_rows (Kd.int .u64) (w0 := w) w.heap.size rfl (.tmp 5) (.tmp 6) 22 28 (.int .u64 0) 8 rfl Try.underlying22 info28 rfl (by decide) (by omega) (.slice (some ⟨w.heap.size, 0, none⟩) 0 0) [] l0 _ _ _ (fun _ => True) (fun _ => False) rfl rfl hR0 (Kd.C_alloc HR0.out _) (fun _ _ h => h) (fun _ h => h.elim) (fun _ _ => trivial) (ba_ (Below.refl _ _) _) (by simp) (by simp; omega) ?_; intro v1 w1 ho hb hg hat; clear hg hat; have HO := ak_ ho; have HB := ak_ hb; clear ho hb))
   go_ret
   exact ⟨_, rfl, HO.out, HB.out⟩

/-! ### leaf_Below: function 21 -/
def leaf_Below.j0 : Nat → List Int → Bool → Int → Int → Option (List Int × Int)
  | 0, _, _, _, _ => none
  | k + 1, x1, x27, x193000, x193001 => if x27 = true then (some (([] : List Int), 1)) else ((slices_BinarySearch_uint64_uint64.f k x1 x193000).bind fun bt194 => ((slices_BinarySearch_uint64_uint64.f k x1 (IntKind.u64.wrap (x193001 + 1))).bind fun bt196 => (if 0 ≤ bt194.1 then (if bt194.1 ≤ bt196.1 then (if bt196.1 ≤ (x1.length : Int) then ((slices_Clone_uint64_uint64.f ((x1.take (bt196.1 : Int).toNat).drop (bt194.1 : Int).toNat)).bind fun t199 => (some (t199, 0))) else (none)) else (none)) else (none))))
def leaf_Below.f (k : Nat) (a0 : Int) (l1 : List Int) (a2 : Int) : Option (List Int × Int) := (node_Leaves.f k a0 a2).bind fun bt189 => (if bt189.2.2 = 0 then ((leaf_Check.f k a0 l1).bind fun t193 => (leaf_Below.j0 k l1 (t193 != 0) bt189.1 bt189.2.1)) else (leaf_Below.j0 k l1 true bt189.1 bt189.2.1))
theorem leaf_Below.mono_l : ∀ k, (∀ y0 y1 y2 y3, LeO (leaf_Below.j0 k y0 y1 y2 y3) (leaf_Below.j0 (k + 1) y0 y1 y2 y3))
  | 0 => fun _ _ _ _ r h => by simp [leaf_Below.j0] at h
  | k + 1 => by
   have ih0 := leaf_Below.mono_l k
   ·intro y0 y1 y2 y3
    unfold leaf_Below.j0
    repeat' first
    | (with_reducible exact ih0 _ _ _ _)
    | (with_reducible exact leaf_Check.mono _ _ _)
    | (with_reducible exact node_Leaves.mono _ _ _)
    | (with_reducible exact slices_BinarySearch_uint64_uint64.mono _ _ _)
    | (with_reducible exact LeO.refl _)
    | (with_reducible exact LeO.none _)
    | (with_reducible refine LeO.ite ?_ ?_)
    | (with_reducible refine LeO.bind ?_ (fun _ => ?_))
    | exact ih0 _ _ _ _
    | exact leaf_Check.mono _ _ _
    | exact node_Leaves.mono _ _ _
    | exact slices_BinarySearch_uint64_uint64.mono _ _ _
    | exact LeO.none _
    | refine LeO.ite ?_ ?_
    | refine LeO.bind ?_ (fun _ => ?_)
theorem leaf_Below.mono : ∀ a0 a1 a2 k, LeO (leaf_Below.f k a0 a1 a2) (leaf_Below.f (k + 1) a0 a1 a2) := by
  intro a0 a1 a2 k
  have ih0 := leaf_Below.mono_l k
  unfold leaf_Below.f
  repeat' first
    | (with_reducible exact ih0 _ _ _ _)
    | (with_reducible exact leaf_Check.mono _ _ _)
    | (with_reducible exact node_Leaves.mono _ _ _)
    | (with_reducible exact slices_BinarySearch_uint64_uint64.mono _ _ _)
    | (with_reducible exact LeO.refl _)
    | (with_reducible exact LeO.none _)
    | (with_reducible refine LeO.ite ?_ ?_)
    | (with_reducible refine LeO.bind ?_ (fun _ => ?_))
    | exact ih0 _ _ _ _
    | exact leaf_Check.mono _ _ _
    | exact node_Leaves.mono _ _ _
    | exact slices_BinarySearch_uint64_uint64.mono _ _ _
    | exact LeO.none _
    | refine LeO.ite ?_ ?_
    | refine LeO.bind ?_ (fun _ => ?_)
set_option maxHeartbeats 8000000 in
set_option maxRecDepth 100000 in
theorem leaf_Below.calls (k : Nat) (a0 : Int) (A1 : Option Addr) (c1 : Nat) (l1 : List Int) (a2 : Int) (r1 : List Int) (r2 : Int) (w : World) (hr1 : Kd.C (Kd.int .u64) w A1 l1.length l1) (hc1 : l1.length ≤ c1) (h : leaf_Below.f k a0 l1 a2 = some (r1, r2)) :
   Calls Try.prog 21 #[.int .i64 a0, .slice A1 l1.length c1, .int .u64 a2] w fun e w' => ∃ v0_ : Value, e = .returned (.tuple #[v0_, .int .i64 r2]) ∧ Kd.R (Kd.int .u64) 28 w' w.heap.size (fun _ => True) v0_ r1 ∧ Below w.heap.size w w' := by
  have hu52 := Try.underlying52
  have HR1 := ak_ hr1
  have HC1 := ak_ hc1
  clear hr1 hc1
  have HB := ak_ (Below.refl w.heap.size w)
  have H : ((node_Leaves.f k a0 a2).bind fun bt189 => (if bt189.2.2 = 0 then ((leaf_Check.f k a0 l1).bind fun t193 => (leaf_Below.j0 k l1 (t193 != 0) bt189.1 bt189.2.1)) else (leaf_Below.j0 k l1 true bt189.1 bt189.2.1))) = some (r1, r2) := h
  clear h
  replace H := Option.bind_eq_some_iff.mp H
  obtain ⟨⟨t189, t190, t191⟩, A40, H⟩ := H
  replace H : (if t191 = 0 then ((leaf_Check.f k a0 l1).bind fun t193 => (leaf_Below.j0 k l1 (t193 != 0) t189 t190)) else (leaf_Below.j0 k l1 true t189 t190)) = some (r1, r2) := H
  have A4 := ak_ A40
  clear A40
  have HC5 := ak_ H
  clear H
  go_enter Try.func21, Try.ntmps21
  go_upto_region 2 with (first | ((with_reducible refine gate_callee (f := 54) rfl ?_); refine goesL_ (some 17) rfl rfl Try.func54 (by kernel_rfl) rfl #[.int .i64 a0, .int .u64 a2] rfl (by (try simp only [map_toArray, map_cons, map_nil]); first | done | rfl | (simp only [length_drop, length_take]; rfl)) ?_; (with_reducible refine (node_Leaves.calls k a0 a2 t189 t190 t191 _ A4.out).mono ?_); rintro e w6 ⟨rfl, hb⟩; refine ⟨_, rfl, ?_⟩; have n0_ := ak_ (below_step (by repeat (first | (with_reducible first | exact HB.out | apply ba_ | apply bn_ | apply bd_) | exact HB.out)) hb); clear HB; have HB := n0_; clear n0_; (try clear hb); (try clear hb2); (try clear hk); (try clear hi)) | ((with_reducible refine gate_dst (N := 8) rfl ?_); refine box_event ?hg (N := 8) ?hd (cs := #[.int .u64 0, .int .u64 0]) (t := 52) ?hr ?_; (case hd => rfl); (case hg => rfl); (case hr => first | (go_simp; done) | (go_simp; rfl)); intro gb192 hg w7 hbox hb; have n0_ := ak_ (below_step (by repeat (first | (with_reducible first | exact HB.out | apply ba_ | apply bn_ | apply bd_) | exact HB.out)) hb); have n1_ := ak_ (hbox); have n2_ := ak_ ((by rw [hg]; exact (below_size (by repeat (first | (with_reducible first | exact HB.out | apply ba_ | apply bn_ | apply bd_) | exact HB.out))) : w.heap.size ≤ gb192)); have n3_ := ak_ ((by rw [hg]; exact (below_size (by repeat (first | (with_reducible first | exact HB.out | apply ba_ | apply bn_ | apply bd_) | exact HB.out))) : w.heap.size ≤ gb192)); clear HB; have HB := n0_; have BK192 := n1_; have GW192 := n2_; have GE192 := n3_; clear n0_ n1_ n2_ n3_; clear hb hbox hg; have hcz8_0 : w7.cell? ⟨gb192, 0, none⟩ = some (.int .u64 0) := (blk_cell BK192.out 0).trans rfl; have hcz8_1 : w7.cell? ⟨gb192, 1, none⟩ = some (.int .u64 0) := (blk_cell BK192.out 1).trans rfl; have hfz8_0 := blk_frozen BK192.out 0; have hfz8_1 := blk_frozen BK192.out 1))
  (try simp only [Act.put, setIfInBounds_toArray, set_cons_zero, set_cons_succ])
  go_cut [27] (fun v27 wc => ∃ (kq : Nat) (x27_4 : Bool), v27 = .bool x27_4 ∧ Aside0 (leaf_Below.j0 kq l1 x27_4 t189 t190 = some (r1, r2)) ∧ Aside0 (kq ≤ k) ∧ Aside0 (wc.heap[gb192]? = some (.cells #[.int .u64 t189, .int .u64 t190] 52 (0, 0))) ∧ Aside0 (Below w.heap.size w wc))
  case first =>
   have H := HC5.out
   clear HC5
   by_cases c9 : t191 = 0
   ·rw [if_pos c9] at H
    have c9b0 : (t191 == 0) = true := beq_iff_eq.mpr c9
    have c9b1 : (t191 != 0) = false := bne_eq_false_iff_eq.mpr c9
    clear c9
    (first | rw [c9b0] | (simp only [i64_w, i32_w]; rw [c9b0]) | skip)
    replace H := Option.bind_eq_some_iff.mp H
    obtain ⟨t193, A100, H⟩ := H
    replace H : (leaf_Below.j0 k l1 (t193 != 0) t189 t190) = some (r1, r2) := H
    have A10 := ak_ A100
    clear A100
    have H' := ak_ H
    clear H
    go_wp2_with (first | (go_at_call 55; (with_reducible refine (leaf_Check.calls k a0 _ _ l1 t193 _ ?side1 ?side2 A10.out).mono ?_); (case side1 => exact Kd.C_below HR1.out (by repeat (first | (with_reducible first | exact HB.out | apply ba_ | apply bn_ | apply bd_ | refine below_set ?_ GE192.out) | exact HB.out))); (case side2 => exact HC1.out); rintro e w' ⟨rfl, ⟨nd, rfl⟩⟩))
    go_meet
    case rel => exact ⟨_, ((t193 != 0)), (by first | rfl | (simp; done) | (simp [*]; done)), H', ⟨by first | omega | exact Nat.le_refl _⟩, ⟨by (with_reducible repeat (first | refine kn_ ?_ _ | refine kd_ ?_ | refine ka_ ?_ _)); refine blk_put (cs := #[.int .u64 t189, .int .u64 0]) ?_ 1 _ rfl; (with_reducible repeat (first | refine kn_ ?_ _ | refine kd_ ?_ | refine ka_ ?_ _)); refine blk_put (cs := #[.int .u64 0, .int .u64 0]) ?_ 0 _ rfl; (with_reducible repeat (first | refine kn_ ?_ _ | refine kd_ ?_ | refine ka_ ?_ _)); exact BK192.out⟩, ⟨by repeat (first | (with_reducible first | exact HB.out | apply ba_ | apply bn_ | apply bd_ | refine below_set ?_ GE192.out) | exact HB.out)⟩⟩
   ·rw [if_neg c9] at H
    have c9b0 : (t191 == 0) = false := beq_eq_false_iff_ne.mpr c9
    have c9b1 : (t191 != 0) = true := bne_iff_ne.mpr c9
    (first | rw [c9b0] | (simp only [i64_w, i32_w]; rw [c9b0]) | skip)
    have H' := ak_ H
    clear H
    go_wp2
    go_meet
    case rel => exact ⟨_, (true), (by first | rfl | (simp; done) | (simp [*]; done)), H', ⟨by first | omega | exact Nat.le_refl _⟩, ⟨by (with_reducible repeat (first | refine kn_ ?_ _ | refine kd_ ?_ | refine ka_ ?_ _)); refine blk_put (cs := #[.int .u64 t189, .int .u64 0]) ?_ 1 _ rfl; (with_reducible repeat (first | refine kn_ ?_ _ | refine kd_ ?_ | refine ka_ ?_ _)); refine blk_put (cs := #[.int .u64 0, .int .u64 0]) ?_ 0 _ rfl; (with_reducible repeat (first | refine kn_ ?_ _ | refine kd_ ?_ | refine ka_ ?_ _)); exact BK192.out⟩, ⟨by repeat (first | (with_reducible first | exact HB.out | apply ba_ | apply bn_ | apply bd_ | refine below_set ?_ GE192.out) | exact HB.out)⟩⟩
  case rest =>
   clear HC5
   try clear c1
   try clear c2
   try clear p2
   try clear c5
   try clear c9
   try clear c9b0
   try clear c9b1
   try clear hcz8_0
   try clear hcz8_1
   try clear hfz8_0
   try clear hfz8_1
   obtain ⟨kq, x27_4, rfl, HA, HJ4, BK192, HB⟩ := hcut
   cases kq with
   | zero => exact absurd HA.out (by simp [leaf_Below.j0])
   | succ kj4 =>
    have H := HA.out
    clear HA
    simp only [leaf_Below.j0] at H
    by_cases c11 : x27_4 = true
    ·subst c11
     have H1 : (some (([] : List Int), 1)) = some (r1, r2) := by rw [if_pos rfl] at H; exact H
     clear H
     have H := H1
     clear H1
     simp only [Option.some.injEq, Prod.mk.injEq] at H
     obtain ⟨rfl, rfl⟩ := H
     go_wp2
     go_ret2
     exact ⟨_, by first | rfl | (simp <;> rfl) | (simp [*] <;> rfl), by first | exact Kd.R_nil _ _ _ _ _ | exact Kd.N_nil _ _ _ _ _ | exact Kd.V_nil _ _ _ _ _ | exact Kd.Q_nil _ _ _ _ _ | exact Kd.S_nil _ _ _ _ _, by repeat (first | (with_reducible first | exact HB.out | apply ba_ | apply bn_ | apply bd_ | refine below_set ?_ GE192.out) | exact HB.out)⟩
    ·replace c11 := Bool.eq_false_iff.mpr c11
     subst c11
     have H1 : ((slices_BinarySearch_uint64_uint64.f kj4 l1 t189).bind fun bt194 => ((slices_BinarySearch_uint64_uint64.f kj4 l1 (IntKind.u64.wrap (t190 + 1))).bind fun bt196 => (if 0 ≤ bt194.1 then (if bt194.1 ≤ bt196.1 then (if bt196.1 ≤ (l1.length : Int) then ((slices_Clone_uint64_uint64.f ((l1.take (bt196.1 : Int).toNat).drop (bt194.1 : Int).toNat)).bind fun t199 => (some (t199, 0))) else (none)) else (none)) else (none)))) = some (r1, r2) := by rw [if_neg (show ¬ (false = true) by decide)] at H; exact H
     clear H
     have H := H1
     clear H1
     replace H := Option.bind_eq_some_iff.mp H
     obtain ⟨⟨t194, t195⟩, A120, H⟩ := H
     replace H : ((slices_BinarySearch_uint64_uint64.f kj4 l1 (IntKind.u64.wrap (t190 + 1))).bind fun bt196 => (if 0 ≤ t194 then (if t194 ≤ bt196.1 then (if bt196.1 ≤ (l1.length : Int) then ((slices_Clone_uint64_uint64.f ((l1.take (bt196.1 : Int).toNat).drop (t194 : Int).toNat)).bind fun t199 => (some (t199, 0))) else (none)) else (none)) else (none))) = some (r1, r2) := H
     have A12 := ak_ A120
     clear A120
     replace H := Option.bind_eq_some_iff.mp H
     obtain ⟨⟨t196, t197⟩, A130, H⟩ := H
     replace H : (if 0 ≤ t194 then (if t194 ≤ t196 then (if t196 ≤ (l1.length : Int) then ((slices_Clone_uint64_uint64.f ((l1.take (t196 : Int).toNat).drop (t194 : Int).toNat)).bind fun t199 => (some (t199, 0))) else (none)) else (none)) else (none)) = some (r1, r2) := H
     have A13 := ak_ A130
     clear A130
     by_cases c14 : 0 ≤ t194
     ·rw [if_pos c14] at H
      have c14b0 := eq_true c14
      have c14b1 : decide (0 ≤ t194) = true := decide_eq_true c14
      clear c14
      by_cases c15 : t194 ≤ t196
      ·rw [if_pos c15] at H
       have c15b0 := eq_true c15
       have c15b1 : decide (t194 ≤ t196) = true := decide_eq_true c15
       clear c15
       by_cases c16 : t196 ≤ (l1.length : Int)
       ·rw [if_pos c16] at H
        have c16b0 := eq_true c16
        have c16b1 : decide (t196 ≤ (l1.length : Int)) = true := decide_eq_true c16
        clear c16
        replace H := Option.bind_eq_some_iff.mp H
        obtain ⟨t199, A170, H⟩ := H
        replace H : (some (t199, 0)) = some (r1, r2) := H
        have A17 := ak_ A170
        clear A170
        simp only [Option.some.injEq, Prod.mk.injEq] at H
        obtain ⟨rfl, rfl⟩ := H
        have hcz18_0 : wc.cell? ⟨gb192, 0, none⟩ = some (.int .u64 t189) := (blk_cell BK192.out 0).trans rfl
        have hcz18_1 : wc.cell? ⟨gb192, 1, none⟩ = some (.int .u64 t190) := (blk_cell BK192.out 1).trans rfl
        have hfz18_0 := blk_frozen BK192.out 0
        have hfz18_1 := blk_frozen BK192.out 1
        go_wp2_with (first | ((with_reducible refine gate_callee (f := 56) rfl ?_); refine goesL_ (some 32) rfl rfl Try.func56 (by kernel_rfl) rfl #[.slice A1 l1.length c1, .int .u64 t189] rfl (by (try simp only [map_toArray, map_cons, map_nil]); first | done | rfl | (simp only [length_drop, length_take]; rfl)) ?_; (with_reducible refine (slices_BinarySearch_uint64_uint64.calls kj4 _ _ l1 t189 t194 t195 _ ?side1 ?side2 A12.out).mono ?_); (case side1 => repeat (first | exact (Kd.C_below HR1.out HB.out) | (with_reducible refine Kd.C_alloc ?_ _) | (with_reducible refine Kd.C_drewN ?_ _) | (with_reducible refine Kd.C_drew ?_))); (case side2 => exact HC1.out); rintro e w' ⟨rfl, ⟨nd, rfl⟩⟩; refine ⟨_, rfl, ?_⟩) | ((with_reducible refine gate_callee (f := 56) rfl ?_); refine goesL_ (some 40) rfl rfl Try.func56 (by kernel_rfl) rfl #[.slice A1 l1.length c1, .int .u64 (IntKind.u64.wrap (t190 + 1))] rfl (by (try simp only [map_toArray, map_cons, map_nil]); first | done | rfl | (simp only [length_drop, length_take]; rfl)) ?_; (with_reducible refine (slices_BinarySearch_uint64_uint64.calls kj4 _ _ l1 (IntKind.u64.wrap (t190 + 1)) t196 t197 _ ?side1 ?side2 A13.out).mono ?_); (case side1 => repeat (first | exact (Kd.C_below HR1.out (by repeat (first | (with_reducible first | exact HB.out | apply ba_ | apply bn_ | apply bd_ | refine below_set ?_ GE192.out) | exact HB.out))) | (with_reducible refine Kd.C_alloc ?_ _) | (with_reducible refine Kd.C_drewN ?_ _) | (with_reducible refine Kd.C_drew ?_))); (case side2 => exact HC1.out); rintro e w' ⟨rfl, ⟨nd, rfl⟩⟩; refine ⟨_, rfl, ?_⟩; obtain ⟨i019, hi019, _, hsz19, _⟩ := info_parts info28; obtain ⟨A19, hcut19, hA19, hC19⟩ := print_mid_of (P := Try.prog) (Value.int .u64) 0 22 28 .i64 .i64 Try.underlying22 hi019 hsz19 A1 c1 l1 t194 t196 (of_decide_eq_true (by first | (with_reducible assumption) | assumption)) (by first | omega | exact of_decide_eq_true (by first | (with_reducible assumption) | assumption)) (of_decide_eq_true (by first | (with_reducible assumption) | assumption)) HC1.out; have HR198 := ak_ (Kd.C_of_reads (h1 := fun _ => rfl) (hA19 _ (Kd.reads_of_C HR1.out))); have HC198 := ak_ hC19; clear hA19 hC19 hi019 hsz19) | ((with_reducible refine gate_callee (f := 57) rfl ?_); refine goesL_ (some 47) rfl rfl Try.func57 (by kernel_rfl) rfl #[.slice A19 ((l1.take (t196 : Int).toNat).drop (t194 : Int).toNat).length (c1 - t194.toNat)] rfl (by (try simp only [map_toArray, map_cons, map_nil]); first | done | (rw [show ((l1.take (t196 : Int).toNat).drop (t194 : Int).toNat).length = (t196.toNat - t194.toNat) from (by rw [List.length_drop, List.length_take]; have h_ : (t196 : Int) ≤ (l1.length : Int) := of_decide_eq_true (by first | (with_reducible assumption) | assumption); omega)] <;> rfl) | rfl | (simp only [length_drop, length_take]; rfl)) ?_; (with_reducible refine (slices_Clone_uint64_uint64.calls _ _ ((l1.take (t196 : Int).toNat).drop (t194 : Int).toNat) t199 _ ?side1 ?side2 A17.out).mono ?_); (case side1 => repeat (first | exact (Kd.C_below HR198.out (by repeat (first | (with_reducible first | exact HB.out | apply ba_ | apply bn_ | apply bd_ | refine below_set ?_ GE192.out) | exact HB.out))) | (with_reducible refine Kd.C_alloc ?_ _) | (with_reducible refine Kd.C_drewN ?_ _) | (with_reducible refine Kd.C_drew ?_))); (case side2 => exact HC198.out); rintro e w20 ⟨v200, rfl, ho0, hb⟩; refine ⟨_, rfl, ?_⟩; have n0_ := ak_ (Kd.R_lower ho0 (below_size (by repeat (first | (with_reducible first | exact HB.out | apply ba_ | apply bn_ | apply bd_ | refine below_set ?_ GE192.out) | exact HB.out)))); have n1_ := ak_ (blk_below (g := gb192) (o := .cells #[.int .u64 t189, .int .u64 t190] 52 (0, 0)) (by (with_reducible repeat (first | refine kn_ ?_ _ | refine kd_ ?_ | refine ka_ ?_ _)); exact BK192.out) hb); have n2_ := ak_ (below_step (by repeat (first | (with_reducible first | exact HB.out | apply ba_ | apply bn_ | apply bd_ | refine below_set ?_ GE192.out) | exact HB.out)) hb); clear BK192; clear HB; have HO201 := n0_; have BK192 := n1_; have HB := n2_; clear n0_ n1_ n2_; (try clear hb); (try clear hb2); (try clear hk); (try clear hi); (try clear ho0)))
        go_ret2
        exact ⟨_, by first | rfl | (simp <;> rfl) | (simp [*] <;> rfl), by (with_reducible repeat (first | apply Kd.R_alloc | apply Kd.R_drewN | apply Kd.R_drew)); exact HO201.out, by repeat (first | (with_reducible first | exact HB.out | apply ba_ | apply bn_ | apply bd_ | refine below_set ?_ GE192.out) | exact HB.out)⟩
       ·rw [if_neg c16] at H
        exact absurd H (by simp)
      ·rw [if_neg c15] at H
       exact absurd H (by simp)
     ·rw [if_neg c14] at H
      exact absurd H (by simp)

/-! ### steiner_Is: function 43 -/
def steiner_Is.f (k : Nat) (a0 : Int) (l1 : List Int) (a2 : Int) : Option (Bool × Int) := (leaf_Below.f k a0 l1 a2).bind fun bt202 => (some (decide ((bt202.1.length : Int) > 0), bt202.2))
theorem steiner_Is.mono : ∀ a0 a1 a2 k, LeO (steiner_Is.f k a0 a1 a2) (steiner_Is.f (k + 1) a0 a1 a2) := by
  intro a0 a1 a2 k
  unfold steiner_Is.f
  repeat' first
    | (with_reducible exact leaf_Below.mono _ _ _ _)
    | (with_reducible exact LeO.refl _)
    | (with_reducible exact LeO.none _)
    | (with_reducible refine LeO.ite ?_ ?_)
    | (with_reducible refine LeO.bind ?_ (fun _ => ?_))
    | exact leaf_Below.mono _ _ _ _
    | exact LeO.none _
    | refine LeO.ite ?_ ?_
    | refine LeO.bind ?_ (fun _ => ?_)
set_option maxHeartbeats 8000000 in
set_option maxRecDepth 100000 in
theorem steiner_Is.calls (k : Nat) (a0 : Int) (A1 : Option Addr) (c1 : Nat) (l1 : List Int) (a2 : Int) (r1 : Bool) (r2 : Int) (w : World) (hr1 : Kd.C (Kd.int .u64) w A1 l1.length l1) (hc1 : l1.length ≤ c1) (h : steiner_Is.f k a0 l1 a2 = some (r1, r2)) :
   Calls Try.prog 43 #[.int .i64 a0, .slice A1 l1.length c1, .int .u64 a2] w fun e w' => e = .returned (.tuple #[.bool r1, .int .i64 r2]) ∧ Below w.heap.size w w' := by
  have HR1 := ak_ hr1
  have HC1 := ak_ hc1
  clear hr1 hc1
  have HB := ak_ (Below.refl w.heap.size w)
  have H : ((leaf_Below.f k a0 l1 a2).bind fun bt202 => (some (decide ((bt202.1.length : Int) > 0), bt202.2))) = some (r1, r2) := h
  clear h
  replace H := Option.bind_eq_some_iff.mp H
  obtain ⟨⟨t202, t203⟩, A40, H⟩ := H
  replace H : (some (decide ((t202.length : Int) > 0), t203)) = some (r1, r2) := H
  have A4 := ak_ A40
  clear A40
  simp only [Option.some.injEq, Prod.mk.injEq] at H
  obtain ⟨rfl, rfl⟩ := H
  go_enter Try.func43, Try.ntmps43
  go_wp2_with (first | ((with_reducible refine gate_callee (f := 21) rfl ?_); refine goesL_ (some 14) rfl rfl Try.func21 (by kernel_rfl) rfl #[.int .i64 a0, .slice A1 l1.length c1, .int .u64 a2] rfl (by (try simp only [map_toArray, map_cons, map_nil]); first | done | rfl | (simp only [length_drop, length_take]; rfl)) ?_; (with_reducible refine (leaf_Below.calls k a0 _ _ l1 a2 t202 t203 _ ?side1 ?side2 A4.out).mono ?_); (case side1 => repeat (first | exact HR1.out | (with_reducible refine Kd.C_alloc ?_ _) | (with_reducible refine Kd.C_drewN ?_ _) | (with_reducible refine Kd.C_drew ?_))); (case side2 => exact HC1.out); rintro e w5 ⟨v204, rfl, ho0, hb⟩; refine ⟨_, rfl, ?_⟩; have n0_ := ak_ (Kd.R_lower ho0 (below_size (by repeat (first | (with_reducible first | exact HB.out | apply ba_ | apply bn_ | apply bd_) | exact HB.out)))); have n1_ := ak_ (below_step (by repeat (first | (with_reducible first | exact HB.out | apply ba_ | apply bn_ | apply bd_) | exact HB.out)) hb); clear HB; have HO205 := n0_; have HB := n1_; clear n0_ n1_; (try clear hb); (try clear hb2); (try clear hk); (try clear hi); (try clear ho0); obtain ⟨Ao6, co6, eo6⟩ := Kd.R_slice HO205.out; subst eo6))
  go_ret2
  exact ⟨by first | rfl | (simp <;> rfl) | (simp [*] <;> rfl), by repeat (first | (with_reducible first | exact HB.out | apply ba_ | apply bn_ | apply bd_) | exact HB.out)⟩

/-! ### node_Meet: function 120 -/
def node_Meet.f (k : Nat) (a0 : Int) (a1 : Int) (a2 : Int) : Option (Int × Int) := (node_both.f k a0 a1 a2).bind fun t206 => (if t206 = 0 then ((node_depth.f k a1).bind fun t207 => ((node_depth.f k a2).bind fun t208 => ((node_depth.f k a1).bind fun t209 => (if 0 ≤ (wrap64 (t209 - (mn t207 t208))) then ((node_depth.f k a2).bind fun t210 => (if 0 ≤ (wrap64 (t210 - (mn t207 t208))) then ((bits_Len64.f k (Go.bits .xor .u64 (shr .u64 a1 (wrap64 (t209 - (mn t207 t208)))) (shr .u64 a2 (wrap64 (t210 - (mn t207 t208)))))).bind fun t211 => (if 0 ≤ t211 then (some (shr .u64 (shr .u64 a1 (wrap64 (t209 - (mn t207 t208)))) t211, 0)) else (none))) else (none))) else (none))))) else (some (0, t206)))
theorem node_Meet.mono : ∀ a0 a1 a2 k, LeO (node_Meet.f k a0 a1 a2) (node_Meet.f (k + 1) a0 a1 a2) := by
  intro a0 a1 a2 k
  unfold node_Meet.f
  repeat' first
    | (with_reducible exact bits_Len64.mono _ _)
    | (with_reducible exact node_both.mono _ _ _ _)
    | (with_reducible exact node_depth.mono _ _)
    | (with_reducible exact LeO.refl _)
    | (with_reducible exact LeO.none _)
    | (with_reducible refine LeO.ite ?_ ?_)
    | (with_reducible refine LeO.bind ?_ (fun _ => ?_))
    | exact bits_Len64.mono _ _
    | exact node_both.mono _ _ _ _
    | exact node_depth.mono _ _
    | exact LeO.none _
    | refine LeO.ite ?_ ?_
    | refine LeO.bind ?_ (fun _ => ?_)
set_option maxHeartbeats 8000000 in
set_option maxRecDepth 100000 in
theorem node_Meet.calls (k : Nat) (a0 : Int) (a1 : Int) (a2 : Int) (r1 : Int) (r2 : Int) (w : World) (h : node_Meet.f k a0 a1 a2 = some (r1, r2)) :
   Calls Try.prog 120 #[.int .i64 a0, .int .u64 a1, .int .u64 a2] w fun e w' => e = .returned (.tuple #[.int .u64 r1, .int .i64 r2]) ∧ Below w.heap.size w w' := by
  have HB := ak_ (Below.refl w.heap.size w)
  have H : ((node_both.f k a0 a1 a2).bind fun t206 => (if t206 = 0 then ((node_depth.f k a1).bind fun t207 => ((node_depth.f k a2).bind fun t208 => ((node_depth.f k a1).bind fun t209 => (if 0 ≤ (wrap64 (t209 - (mn t207 t208))) then ((node_depth.f k a2).bind fun t210 => (if 0 ≤ (wrap64 (t210 - (mn t207 t208))) then ((bits_Len64.f k (Go.bits .xor .u64 (shr .u64 a1 (wrap64 (t209 - (mn t207 t208)))) (shr .u64 a2 (wrap64 (t210 - (mn t207 t208)))))).bind fun t211 => (if 0 ≤ t211 then (some (shr .u64 (shr .u64 a1 (wrap64 (t209 - (mn t207 t208)))) t211, 0)) else (none))) else (none))) else (none))))) else (some (0, t206)))) = some (r1, r2) := h
  clear h
  replace H := Option.bind_eq_some_iff.mp H
  obtain ⟨t206, A40, H⟩ := H
  replace H : (if t206 = 0 then ((node_depth.f k a1).bind fun t207 => ((node_depth.f k a2).bind fun t208 => ((node_depth.f k a1).bind fun t209 => (if 0 ≤ (wrap64 (t209 - (mn t207 t208))) then ((node_depth.f k a2).bind fun t210 => (if 0 ≤ (wrap64 (t210 - (mn t207 t208))) then ((bits_Len64.f k (Go.bits .xor .u64 (shr .u64 a1 (wrap64 (t209 - (mn t207 t208)))) (shr .u64 a2 (wrap64 (t210 - (mn t207 t208)))))).bind fun t211 => (if 0 ≤ t211 then (some (shr .u64 (shr .u64 a1 (wrap64 (t209 - (mn t207 t208)))) t211, 0)) else (none))) else (none))) else (none))))) else (some (0, t206))) = some (r1, r2) := H
  have A4 := ak_ A40
  clear A40
  by_cases c5 : t206 = 0
  ·rw [if_pos c5] at H
   have c5b0 : (t206 == 0) = true := beq_iff_eq.mpr c5
   have c5b1 : (t206 != 0) = false := bne_eq_false_iff_eq.mpr c5
   clear c5
   replace H := Option.bind_eq_some_iff.mp H
   obtain ⟨t207, A60, H⟩ := H
   replace H : ((node_depth.f k a2).bind fun t208 => ((node_depth.f k a1).bind fun t209 => (if 0 ≤ (wrap64 (t209 - (mn t207 t208))) then ((node_depth.f k a2).bind fun t210 => (if 0 ≤ (wrap64 (t210 - (mn t207 t208))) then ((bits_Len64.f k (Go.bits .xor .u64 (shr .u64 a1 (wrap64 (t209 - (mn t207 t208)))) (shr .u64 a2 (wrap64 (t210 - (mn t207 t208)))))).bind fun t211 => (if 0 ≤ t211 then (some (shr .u64 (shr .u64 a1 (wrap64 (t209 - (mn t207 t208)))) t211, 0)) else (none))) else (none))) else (none)))) = some (r1, r2) := H
   have A6 := ak_ A60
   clear A60
   replace H := Option.bind_eq_some_iff.mp H
   obtain ⟨t208, A70, H⟩ := H
   replace H : ((node_depth.f k a1).bind fun t209 => (if 0 ≤ (wrap64 (t209 - (mn t207 t208))) then ((node_depth.f k a2).bind fun t210 => (if 0 ≤ (wrap64 (t210 - (mn t207 t208))) then ((bits_Len64.f k (Go.bits .xor .u64 (shr .u64 a1 (wrap64 (t209 - (mn t207 t208)))) (shr .u64 a2 (wrap64 (t210 - (mn t207 t208)))))).bind fun t211 => (if 0 ≤ t211 then (some (shr .u64 (shr .u64 a1 (wrap64 (t209 - (mn t207 t208)))) t211, 0)) else (none))) else (none))) else (none))) = some (r1, r2) := H
   have A7 := ak_ A70
   clear A70
   obtain ⟨ji8, hji8⟩ : ∃ j_ : Int, (mn t207 t208) = j_ := ⟨_, rfl⟩
   replace H : ((node_depth.f k a1).bind fun t209 => (if 0 ≤ (wrap64 (t209 - (ji8))) then ((node_depth.f k a2).bind fun t210 => (if 0 ≤ (wrap64 (t210 - (ji8))) then ((bits_Len64.f k (Go.bits .xor .u64 (shr .u64 a1 (wrap64 (t209 - (ji8)))) (shr .u64 a2 (wrap64 (t210 - (ji8)))))).bind fun t211 => (if 0 ≤ t211 then (some (shr .u64 (shr .u64 a1 (wrap64 (t209 - (ji8)))) t211, 0)) else (none))) else (none))) else (none))) = some (r1, r2) := by first | (rw [hji8] at H; exact H) | (simp only [hji8] at H ⊢; exact H)
   (try rw [hji8] at A4)
   (try rw [hji8] at A6)
   (try rw [hji8] at A7)
   have hji8_ : (if t208 < t207 then t208 else t207) = ji8 := hji8
   replace H := Option.bind_eq_some_iff.mp H
   obtain ⟨t209, A90, H⟩ := H
   replace H : (if 0 ≤ (wrap64 (t209 - (ji8))) then ((node_depth.f k a2).bind fun t210 => (if 0 ≤ (wrap64 (t210 - (ji8))) then ((bits_Len64.f k (Go.bits .xor .u64 (shr .u64 a1 (wrap64 (t209 - (ji8)))) (shr .u64 a2 (wrap64 (t210 - (ji8)))))).bind fun t211 => (if 0 ≤ t211 then (some (shr .u64 (shr .u64 a1 (wrap64 (t209 - (ji8)))) t211, 0)) else (none))) else (none))) else (none)) = some (r1, r2) := H
   have A9 := ak_ A90
   clear A90
   obtain ⟨ji10, hji10⟩ : ∃ j_ : Int, (wrap64 (t209 - (ji8))) = j_ := ⟨_, rfl⟩
   replace H : (if 0 ≤ (ji10) then ((node_depth.f k a2).bind fun t210 => (if 0 ≤ (wrap64 (t210 - (ji8))) then ((bits_Len64.f k (Go.bits .xor .u64 (shr .u64 a1 (ji10)) (shr .u64 a2 (wrap64 (t210 - (ji8)))))).bind fun t211 => (if 0 ≤ t211 then (some (shr .u64 (shr .u64 a1 (ji10)) t211, 0)) else (none))) else (none))) else (none)) = some (r1, r2) := by first | (rw [hji10] at H; exact H) | (simp only [hji10] at H ⊢; exact H)
   (try rw [hji10] at A4)
   (try rw [hji10] at A6)
   (try rw [hji10] at A7)
   (try rw [hji10] at A9)
   have hji10w : (IntKind.i64.wrap (t209 - (ji8))) = ji10 := (i64_w _).trans hji10
   by_cases c11 : 0 ≤ (ji10)
   ·rw [if_pos c11] at H
    have c11b0 := eq_true c11
    have c11b1 : decide (0 ≤ (ji10)) = true := decide_eq_true c11
    clear c11
    obtain ⟨ji12, hji12⟩ : ∃ j_ : Int, (shr .u64 a1 (ji10)) = j_ := ⟨_, rfl⟩
    replace H : ((node_depth.f k a2).bind fun t210 => (if 0 ≤ (wrap64 (t210 - (ji8))) then ((bits_Len64.f k (Go.bits .xor .u64 (ji12) (shr .u64 a2 (wrap64 (t210 - (ji8)))))).bind fun t211 => (if 0 ≤ t211 then (some (shr .u64 (ji12) t211, 0)) else (none))) else (none))) = some (r1, r2) := by first | (rw [hji12] at H; exact H) | (simp only [hji12] at H ⊢; exact H)
    (try rw [hji12] at A4)
    (try rw [hji12] at A6)
    (try rw [hji12] at A7)
    (try rw [hji12] at A9)
    have hji12_ : (a1 / 2 ^ min (ji10).toNat 64) = ji12 := hji12
    have hji12z : (ji10) ≤ 64 → (a1 / 2 ^ (ji10).toNat) = ji12 := shr_small hji12
    replace H := Option.bind_eq_some_iff.mp H
    obtain ⟨t210, A130, H⟩ := H
    replace H : (if 0 ≤ (wrap64 (t210 - (ji8))) then ((bits_Len64.f k (Go.bits .xor .u64 (ji12) (shr .u64 a2 (wrap64 (t210 - (ji8)))))).bind fun t211 => (if 0 ≤ t211 then (some (shr .u64 (ji12) t211, 0)) else (none))) else (none)) = some (r1, r2) := H
    have A13 := ak_ A130
    clear A130
    obtain ⟨ji14, hji14⟩ : ∃ j_ : Int, (wrap64 (t210 - (ji8))) = j_ := ⟨_, rfl⟩
    replace H : (if 0 ≤ (ji14) then ((bits_Len64.f k (Go.bits .xor .u64 (ji12) (shr .u64 a2 (ji14)))).bind fun t211 => (if 0 ≤ t211 then (some (shr .u64 (ji12) t211, 0)) else (none))) else (none)) = some (r1, r2) := by first | (rw [hji14] at H; exact H) | (simp only [hji14] at H ⊢; exact H)
    (try rw [hji14] at A4)
    (try rw [hji14] at A6)
    (try rw [hji14] at A7)
    (try rw [hji14] at A9)
    (try rw [hji14] at A13)
    have hji14w : (IntKind.i64.wrap (t210 - (ji8))) = ji14 := (i64_w _).trans hji14
    by_cases c15 : 0 ≤ (ji14)
    ·rw [if_pos c15] at H
     have c15b0 := eq_true c15
     have c15b1 : decide (0 ≤ (ji14)) = true := decide_eq_true c15
     clear c15
     obtain ⟨ji16, hji16⟩ : ∃ j_ : Int, (shr .u64 a2 (ji14)) = j_ := ⟨_, rfl⟩
     replace H : ((bits_Len64.f k (Go.bits .xor .u64 (ji12) (ji16))).bind fun t211 => (if 0 ≤ t211 then (some (shr .u64 (ji12) t211, 0)) else (none))) = some (r1, r2) := by first | (rw [hji16] at H; exact H) | (simp only [hji16] at H ⊢; exact H)
     (try rw [hji16] at A4)
     (try rw [hji16] at A6)
     (try rw [hji16] at A7)
     (try rw [hji16] at A9)
     (try rw [hji16] at A13)
     have hji16_ : (a2 / 2 ^ min (ji14).toNat 64) = ji16 := hji16
     have hji16z : (ji14) ≤ 64 → (a2 / 2 ^ (ji14).toNat) = ji16 := shr_small hji16
     replace H := Option.bind_eq_some_iff.mp H
     obtain ⟨t211, A170, H⟩ := H
     replace H : (if 0 ≤ t211 then (some (shr .u64 (ji12) t211, 0)) else (none)) = some (r1, r2) := H
     have A17 := ak_ A170
     clear A170
     by_cases c18 : 0 ≤ t211
     ·rw [if_pos c18] at H
      have c18b0 := eq_true c18
      have c18b1 : decide (0 ≤ t211) = true := decide_eq_true c18
      clear c18
      obtain ⟨ji19, hji19⟩ : ∃ j_ : Int, (shr .u64 (ji12) t211) = j_ := ⟨_, rfl⟩
      replace H : (some (ji19, 0)) = some (r1, r2) := by first | (rw [hji19] at H; exact H) | (simp only [hji19] at H ⊢; exact H)
      (try rw [hji19] at A4)
      (try rw [hji19] at A6)
      (try rw [hji19] at A7)
      (try rw [hji19] at A9)
      (try rw [hji19] at A13)
      (try rw [hji19] at A17)
      have hji19_ : ((ji12) / 2 ^ min t211.toNat 64) = ji19 := hji19
      have hji19z : t211 ≤ 64 → ((ji12) / 2 ^ t211.toNat) = ji19 := shr_small hji19
      simp only [Option.some.injEq, Prod.mk.injEq] at H
      obtain ⟨rfl, rfl⟩ := H
      obtain rfl : t207 = t209 := Option.some.inj (A6.out.symm.trans A9.out)
      obtain rfl : t208 = t210 := Option.some.inj (A7.out.symm.trans A13.out)
      clear A9 A13
      go_enter Try.func120, Try.ntmps120
      go_wp2_with (first | (go_at_call 137; (with_reducible refine (node_both.calls k a0 a1 a2 t206 _ A4.out).mono ?_); rintro e w' ⟨rfl, ⟨nd, rfl⟩⟩; (try first | exact ⟨rfl, _, World.drewN_drewN _ _ _⟩ | exact ⟨rfl, _, Eq.trans (World.drewN_drewN _ _ _) (congrArg (World.drewN _) (Nat.add_assoc _ _ _))⟩)) | (go_at_call 102; (with_reducible refine (node_depth.calls k a1 t207 _ A6.out).mono ?_); rintro e w' ⟨rfl, ⟨nd, rfl⟩⟩; (try first | exact ⟨rfl, _, World.drewN_drewN _ _ _⟩ | exact ⟨rfl, _, Eq.trans (World.drewN_drewN _ _ _) (congrArg (World.drewN _) (Nat.add_assoc _ _ _))⟩)) | (go_at_call 102; (with_reducible refine (node_depth.calls k a2 t208 _ A7.out).mono ?_); rintro e w' ⟨rfl, ⟨nd, rfl⟩⟩; (try first | exact ⟨rfl, _, World.drewN_drewN _ _ _⟩ | exact ⟨rfl, _, Eq.trans (World.drewN_drewN _ _ _) (congrArg (World.drewN _) (Nat.add_assoc _ _ _))⟩)) | (go_at_call 102; (with_reducible refine (node_depth.calls k a1 t209 _ A9.out).mono ?_); rintro e w' ⟨rfl, ⟨nd, rfl⟩⟩; (try first | exact ⟨rfl, _, World.drewN_drewN _ _ _⟩ | exact ⟨rfl, _, Eq.trans (World.drewN_drewN _ _ _) (congrArg (World.drewN _) (Nat.add_assoc _ _ _))⟩)) | (go_at_call 102; (with_reducible refine (node_depth.calls k a2 t210 _ A13.out).mono ?_); rintro e w' ⟨rfl, ⟨nd, rfl⟩⟩; (try first | exact ⟨rfl, _, World.drewN_drewN _ _ _⟩ | exact ⟨rfl, _, Eq.trans (World.drewN_drewN _ _ _) (congrArg (World.drewN _) (Nat.add_assoc _ _ _))⟩)) | (go_at_call 130; (with_reducible refine (bits_Len64.calls k (Go.bits .xor .u64 (ji12) (ji16)) t211 _ A17.out).mono ?_); rintro e w' ⟨rfl, ⟨nd, rfl⟩⟩; (try first | exact ⟨rfl, _, World.drewN_drewN _ _ _⟩ | exact ⟨rfl, _, Eq.trans (World.drewN_drewN _ _ _) (congrArg (World.drewN _) (Nat.add_assoc _ _ _))⟩)))
      repeat (go_quiet (first | (go_at_call 137; (with_reducible refine (node_both.calls k a0 a1 a2 t206 _ A4.out).mono ?_); rintro e w' ⟨rfl, ⟨nd, rfl⟩⟩; (try first | exact ⟨rfl, _, World.drewN_drewN _ _ _⟩ | exact ⟨rfl, _, Eq.trans (World.drewN_drewN _ _ _) (congrArg (World.drewN _) (Nat.add_assoc _ _ _))⟩)) | (go_at_call 102; (with_reducible refine (node_depth.calls k a1 t207 _ A6.out).mono ?_); rintro e w' ⟨rfl, ⟨nd, rfl⟩⟩; (try first | exact ⟨rfl, _, World.drewN_drewN _ _ _⟩ | exact ⟨rfl, _, Eq.trans (World.drewN_drewN _ _ _) (congrArg (World.drewN _) (Nat.add_assoc _ _ _))⟩)) | (go_at_call 102; (with_reducible refine (node_depth.calls k a2 t208 _ A7.out).mono ?_); rintro e w' ⟨rfl, ⟨nd, rfl⟩⟩; (try first | exact ⟨rfl, _, World.drewN_drewN _ _ _⟩ | exact ⟨rfl, _, Eq.trans (World.drewN_drewN _ _ _) (congrArg (World.drewN _) (Nat.add_assoc _ _ _))⟩)) | (go_at_call 102; (with_reducible refine (node_depth.calls k a1 t209 _ A9.out).mono ?_); rintro e w' ⟨rfl, ⟨nd, rfl⟩⟩; (try first | exact ⟨rfl, _, World.drewN_drewN _ _ _⟩ | exact ⟨rfl, _, Eq.trans (World.drewN_drewN _ _ _) (congrArg (World.drewN _) (Nat.add_assoc _ _ _))⟩)) | (go_at_call 102; (with_reducible refine (node_depth.calls k a2 t210 _ A13.out).mono ?_); rintro e w' ⟨rfl, ⟨nd, rfl⟩⟩; (try first | exact ⟨rfl, _, World.drewN_drewN _ _ _⟩ | exact ⟨rfl, _, Eq.trans (World.drewN_drewN _ _ _) (congrArg (World.drewN _) (Nat.add_assoc _ _ _))⟩)) | (go_at_call 130; (with_reducible refine (bits_Len64.calls k (Go.bits .xor .u64 (ji12) (ji16)) t211 _ A17.out).mono ?_); rintro e w' ⟨rfl, ⟨nd, rfl⟩⟩; (try first | exact ⟨rfl, _, World.drewN_drewN _ _ _⟩ | exact ⟨rfl, _, Eq.trans (World.drewN_drewN _ _ _) (congrArg (World.drewN _) (Nat.add_assoc _ _ _))⟩))); try go_wp2_with (first | (go_at_call 137; (with_reducible refine (node_both.calls k a0 a1 a2 t206 _ A4.out).mono ?_); rintro e w' ⟨rfl, ⟨nd, rfl⟩⟩; (try first | exact ⟨rfl, _, World.drewN_drewN _ _ _⟩ | exact ⟨rfl, _, Eq.trans (World.drewN_drewN _ _ _) (congrArg (World.drewN _) (Nat.add_assoc _ _ _))⟩)) | (go_at_call 102; (with_reducible refine (node_depth.calls k a1 t207 _ A6.out).mono ?_); rintro e w' ⟨rfl, ⟨nd, rfl⟩⟩; (try first | exact ⟨rfl, _, World.drewN_drewN _ _ _⟩ | exact ⟨rfl, _, Eq.trans (World.drewN_drewN _ _ _) (congrArg (World.drewN _) (Nat.add_assoc _ _ _))⟩)) | (go_at_call 102; (with_reducible refine (node_depth.calls k a2 t208 _ A7.out).mono ?_); rintro e w' ⟨rfl, ⟨nd, rfl⟩⟩; (try first | exact ⟨rfl, _, World.drewN_drewN _ _ _⟩ | exact ⟨rfl, _, Eq.trans (World.drewN_drewN _ _ _) (congrArg (World.drewN _) (Nat.add_assoc _ _ _))⟩)) | (go_at_call 102; (with_reducible refine (node_depth.calls k a1 t209 _ A9.out).mono ?_); rintro e w' ⟨rfl, ⟨nd, rfl⟩⟩; (try first | exact ⟨rfl, _, World.drewN_drewN _ _ _⟩ | exact ⟨rfl, _, Eq.trans (World.drewN_drewN _ _ _) (congrArg (World.drewN _) (Nat.add_assoc _ _ _))⟩)) | (go_at_call 102; (with_reducible refine (node_depth.calls k a2 t210 _ A13.out).mono ?_); rintro e w' ⟨rfl, ⟨nd, rfl⟩⟩; (try first | exact ⟨rfl, _, World.drewN_drewN _ _ _⟩ | exact ⟨rfl, _, Eq.trans (World.drewN_drewN _ _ _) (congrArg (World.drewN _) (Nat.add_assoc _ _ _))⟩)) | (go_at_call 130; (with_reducible refine (bits_Len64.calls k (Go.bits .xor .u64 (ji12) (ji16)) t211 _ A17.out).mono ?_); rintro e w' ⟨rfl, ⟨nd, rfl⟩⟩; (try first | exact ⟨rfl, _, World.drewN_drewN _ _ _⟩ | exact ⟨rfl, _, Eq.trans (World.drewN_drewN _ _ _) (congrArg (World.drewN _) (Nat.add_assoc _ _ _))⟩))))
      go_ret2
      exact ⟨by first | rfl | (simp <;> rfl) | (simp only [← hji8, ← hji10, ← hji12, ← hji14, ← hji16, ← hji19]; first | rfl | (simp <;> rfl)) | (simp [*] <;> rfl), by repeat (first | (with_reducible first | exact HB.out | apply ba_ | apply bn_ | apply bd_) | exact HB.out)⟩
     ·rw [if_neg c18] at H
      exact absurd H (by simp)
    ·rw [if_neg c15] at H
     exact absurd H (by simp)
   ·rw [if_neg c11] at H
    exact absurd H (by simp)
  ·rw [if_neg c5] at H
   have c5b0 : (t206 == 0) = false := beq_eq_false_iff_ne.mpr c5
   have c5b1 : (t206 != 0) = true := bne_iff_ne.mpr c5
   simp only [Option.some.injEq, Prod.mk.injEq] at H
   obtain ⟨rfl, rfl⟩ := H
   go_enter Try.func120, Try.ntmps120
   go_wp2_with (first | (go_at_call 137; (with_reducible refine (node_both.calls k a0 a1 a2 t206 _ A4.out).mono ?_); rintro e w' ⟨rfl, ⟨nd, rfl⟩⟩; (try first | exact ⟨rfl, _, World.drewN_drewN _ _ _⟩ | exact ⟨rfl, _, Eq.trans (World.drewN_drewN _ _ _) (congrArg (World.drewN _) (Nat.add_assoc _ _ _))⟩)))
   repeat (go_quiet (first | (go_at_call 137; (with_reducible refine (node_both.calls k a0 a1 a2 t206 _ A4.out).mono ?_); rintro e w' ⟨rfl, ⟨nd, rfl⟩⟩; (try first | exact ⟨rfl, _, World.drewN_drewN _ _ _⟩ | exact ⟨rfl, _, Eq.trans (World.drewN_drewN _ _ _) (congrArg (World.drewN _) (Nat.add_assoc _ _ _))⟩))); try go_wp2_with (first | (go_at_call 137; (with_reducible refine (node_both.calls k a0 a1 a2 t206 _ A4.out).mono ?_); rintro e w' ⟨rfl, ⟨nd, rfl⟩⟩; (try first | exact ⟨rfl, _, World.drewN_drewN _ _ _⟩ | exact ⟨rfl, _, Eq.trans (World.drewN_drewN _ _ _) (congrArg (World.drewN _) (Nat.add_assoc _ _ _))⟩))))
   go_ret2
   exact ⟨by first | rfl | (simp <;> rfl) | (simp [*] <;> rfl), by repeat (first | (with_reducible first | exact HB.out | apply ba_ | apply bn_ | apply bd_) | exact HB.out)⟩

/-! ### steiner_Down: function 89 -/
def steiner_Down.f (k : Nat) (a0 : Int) (l1 : List Int) (a2 : Int) : Option (Int × Int) := (leaf_Below.f k a0 l1 a2).bind fun bt212 => (if bt212.2 = 0 then (if (bt212.1.length : Int) = 0 then (some (0, 4)) else (if 0 < (bt212.1.length : Int) then ((node_Leaf.f a0 (rd bt212.1 0)).bind fun bt217 => (if 0 ≤ (wrap64 ((bt212.1.length : Int) - 1)) then (if (wrap64 ((bt212.1.length : Int) - 1)) < (bt212.1.length : Int) then ((node_Leaf.f a0 (rd bt212.1 (wrap64 ((bt212.1.length : Int) - 1)))).bind fun bt220 => (if bt217.2 = 0 then (if bt220.2 = 0 then ((node_Meet.f k a0 bt217.1 bt220.1).bind fun bt222 => (some (bt222.1, bt222.2))) else (some (0, 1))) else (some (0, 1)))) else (none)) else (none))) else (none))) else (some (0, bt212.2)))
theorem steiner_Down.mono : ∀ a0 a1 a2 k, LeO (steiner_Down.f k a0 a1 a2) (steiner_Down.f (k + 1) a0 a1 a2) := by
  intro a0 a1 a2 k
  unfold steiner_Down.f
  repeat' first
    | (with_reducible exact leaf_Below.mono _ _ _ _)
    | (with_reducible exact node_Meet.mono _ _ _ _)
    | (with_reducible exact LeO.refl _)
    | (with_reducible exact LeO.none _)
    | (with_reducible refine LeO.ite ?_ ?_)
    | (with_reducible refine LeO.bind ?_ (fun _ => ?_))
    | exact leaf_Below.mono _ _ _ _
    | exact node_Meet.mono _ _ _ _
    | exact LeO.none _
    | refine LeO.ite ?_ ?_
    | refine LeO.bind ?_ (fun _ => ?_)
set_option maxHeartbeats 8000000 in
set_option maxRecDepth 100000 in
theorem steiner_Down.calls (k : Nat) (a0 : Int) (A1 : Option Addr) (c1 : Nat) (l1 : List Int) (a2 : Int) (r1 : Int) (r2 : Int) (w : World) (hr1 : Kd.C (Kd.int .u64) w A1 l1.length l1) (hc1 : l1.length ≤ c1) (h : steiner_Down.f k a0 l1 a2 = some (r1, r2)) :
   Calls Try.prog 89 #[.int .i64 a0, .slice A1 l1.length c1, .int .u64 a2] w fun e w' => e = .returned (.tuple #[.int .u64 r1, .int .i64 r2]) ∧ Below w.heap.size w w' := by
  have HR1 := ak_ hr1
  have HC1 := ak_ hc1
  clear hr1 hc1
  have HB := ak_ (Below.refl w.heap.size w)
  have H : ((leaf_Below.f k a0 l1 a2).bind fun bt212 => (if bt212.2 = 0 then (if (bt212.1.length : Int) = 0 then (some (0, 4)) else (if 0 < (bt212.1.length : Int) then ((node_Leaf.f a0 (rd bt212.1 0)).bind fun bt217 => (if 0 ≤ (wrap64 ((bt212.1.length : Int) - 1)) then (if (wrap64 ((bt212.1.length : Int) - 1)) < (bt212.1.length : Int) then ((node_Leaf.f a0 (rd bt212.1 (wrap64 ((bt212.1.length : Int) - 1)))).bind fun bt220 => (if bt217.2 = 0 then (if bt220.2 = 0 then ((node_Meet.f k a0 bt217.1 bt220.1).bind fun bt222 => (some (bt222.1, bt222.2))) else (some (0, 1))) else (some (0, 1)))) else (none)) else (none))) else (none))) else (some (0, bt212.2)))) = some (r1, r2) := h
  clear h
  replace H := Option.bind_eq_some_iff.mp H
  obtain ⟨⟨t212, t213⟩, A40, H⟩ := H
  replace H : (if t213 = 0 then (if (t212.length : Int) = 0 then (some (0, 4)) else (if 0 < (t212.length : Int) then ((node_Leaf.f a0 (rd t212 0)).bind fun bt217 => (if 0 ≤ (wrap64 ((t212.length : Int) - 1)) then (if (wrap64 ((t212.length : Int) - 1)) < (t212.length : Int) then ((node_Leaf.f a0 (rd t212 (wrap64 ((t212.length : Int) - 1)))).bind fun bt220 => (if bt217.2 = 0 then (if bt220.2 = 0 then ((node_Meet.f k a0 bt217.1 bt220.1).bind fun bt222 => (some (bt222.1, bt222.2))) else (some (0, 1))) else (some (0, 1)))) else (none)) else (none))) else (none))) else (some (0, t213))) = some (r1, r2) := H
  have A4 := ak_ A40
  clear A40
  by_cases c5 : t213 = 0
  ·rw [if_pos c5] at H
   have c5b0 : (t213 == 0) = true := beq_iff_eq.mpr c5
   have c5b1 : (t213 != 0) = false := bne_eq_false_iff_eq.mpr c5
   clear c5
   by_cases c6 : (t212.length : Int) = 0
   ·rw [if_pos c6] at H
    have c6b0 : ((t212.length : Int) == 0) = true := beq_iff_eq.mpr c6
    have c6b1 : ((t212.length : Int) != 0) = false := bne_eq_false_iff_eq.mpr c6
    clear c6
    simp only [Option.some.injEq, Prod.mk.injEq] at H
    obtain ⟨rfl, rfl⟩ := H
    go_enter Try.func89, Try.ntmps89
    go_wp2_with (first | ((with_reducible refine gate_callee (f := 21) rfl ?_); refine goesL_ (some 17) rfl rfl Try.func21 (by kernel_rfl) rfl #[.int .i64 a0, .slice A1 l1.length c1, .int .u64 a2] rfl (by (try simp only [map_toArray, map_cons, map_nil]); first | done | rfl | (simp only [length_drop, length_take]; rfl)) ?_; (with_reducible refine (leaf_Below.calls k a0 _ _ l1 a2 t212 t213 _ ?side1 ?side2 A4.out).mono ?_); (case side1 => repeat (first | exact HR1.out | (with_reducible refine Kd.C_alloc ?_ _) | (with_reducible refine Kd.C_drewN ?_ _) | (with_reducible refine Kd.C_drew ?_))); (case side2 => exact HC1.out); rintro e w7 ⟨v214, rfl, ho0, hb⟩; refine ⟨_, rfl, ?_⟩; have n0_ := ak_ (Kd.R_lower ho0 (below_size (by repeat (first | (with_reducible first | exact HB.out | apply ba_ | apply bn_ | apply bd_) | exact HB.out)))); have n1_ := ak_ (below_step (by repeat (first | (with_reducible first | exact HB.out | apply ba_ | apply bn_ | apply bd_) | exact HB.out)) hb); clear HB; have HO215 := n0_; have HB := n1_; clear n0_ n1_; (try clear hb); (try clear hb2); (try clear hk); (try clear hi); (try clear ho0); obtain ⟨Ao8, co8, eo8⟩ := Kd.R_slice HO215.out; subst eo8))
    go_ret2
    exact ⟨by first | rfl | (simp <;> rfl) | (simp [*] <;> rfl), by repeat (first | (with_reducible first | exact HB.out | apply ba_ | apply bn_ | apply bd_) | exact HB.out)⟩
   ·rw [if_neg c6] at H
    have c6b0 : ((t212.length : Int) == 0) = false := beq_eq_false_iff_ne.mpr c6
    have c6b1 : ((t212.length : Int) != 0) = true := bne_iff_ne.mpr c6
    have c6b2 : ¬ (t212 = []) := fun h_ => c6 (by rw [h_]; rfl)
    by_cases c9 : 0 < (t212.length : Int)
    ·rw [if_pos c9] at H
     have c9b0 : decide (0 < (t212.length : Int)) = true := decide_eq_true c9
     have c9b1 : decide (0 < t212.length) = true := decide_eq_true (by omega)
     clear c9
     replace H := Option.bind_eq_some_iff.mp H
     obtain ⟨⟨t217, t218⟩, A100, H⟩ := H
     replace H : (if 0 ≤ (wrap64 ((t212.length : Int) - 1)) then (if (wrap64 ((t212.length : Int) - 1)) < (t212.length : Int) then ((node_Leaf.f a0 (rd t212 (wrap64 ((t212.length : Int) - 1)))).bind fun bt220 => (if t218 = 0 then (if bt220.2 = 0 then ((node_Meet.f k a0 t217 bt220.1).bind fun bt222 => (some (bt222.1, bt222.2))) else (some (0, 1))) else (some (0, 1)))) else (none)) else (none)) = some (r1, r2) := H
     have A10 := ak_ A100
     clear A100
     obtain ⟨ji11, hji11⟩ : ∃ j_ : Int, (wrap64 ((t212.length : Int) - 1)) = j_ := ⟨_, rfl⟩
     replace H : (if 0 ≤ (ji11) then (if (ji11) < (t212.length : Int) then ((node_Leaf.f a0 (rd t212 (ji11))).bind fun bt220 => (if t218 = 0 then (if bt220.2 = 0 then ((node_Meet.f k a0 t217 bt220.1).bind fun bt222 => (some (bt222.1, bt222.2))) else (some (0, 1))) else (some (0, 1)))) else (none)) else (none)) = some (r1, r2) := by first | (rw [hji11] at H; exact H) | (simp only [hji11] at H ⊢; exact H)
     (try rw [hji11] at A4)
     (try rw [hji11] at A10)
     have hji11w : (IntKind.i64.wrap ((t212.length : Int) - 1)) = ji11 := (i64_w _).trans hji11
     by_cases c12 : 0 ≤ (ji11)
     ·rw [if_pos c12] at H
      have c12b0 : decide (0 ≤ (ji11)) = true := decide_eq_true c12
      clear c12
      by_cases c13 : (ji11) < (t212.length : Int)
      ·rw [if_pos c13] at H
       have c13b0 : decide ((ji11) < (t212.length : Int)) = true := decide_eq_true c13
       clear c13
       replace H := Option.bind_eq_some_iff.mp H
       obtain ⟨⟨t220, t221⟩, A140, H⟩ := H
       replace H : (if t218 = 0 then (if t221 = 0 then ((node_Meet.f k a0 t217 t220).bind fun bt222 => (some (bt222.1, bt222.2))) else (some (0, 1))) else (some (0, 1))) = some (r1, r2) := H
       have A14 := ak_ A140
       clear A140
       by_cases c15 : t218 = 0
       ·rw [if_pos c15] at H
        have c15b0 : (t218 == 0) = true := beq_iff_eq.mpr c15
        have c15b1 : (t218 != 0) = false := bne_eq_false_iff_eq.mpr c15
        clear c15
        by_cases c16 : t221 = 0
        ·rw [if_pos c16] at H
         have c16b0 : (t221 == 0) = true := beq_iff_eq.mpr c16
         have c16b1 : (t221 != 0) = false := bne_eq_false_iff_eq.mpr c16
         clear c16
         replace H := Option.bind_eq_some_iff.mp H
         obtain ⟨⟨t222, t223⟩, A170, H⟩ := H
         replace H : (some (t222, t223)) = some (r1, r2) := H
         have A17 := ak_ A170
         clear A170
         simp only [Option.some.injEq, Prod.mk.injEq] at H
         obtain ⟨rfl, rfl⟩ := H
         go_enter Try.func89, Try.ntmps89
         go_wp2_with (first | ((with_reducible refine gate_callee (f := 21) rfl ?_); refine goesL_ (some 17) rfl rfl Try.func21 (by kernel_rfl) rfl #[.int .i64 a0, .slice A1 l1.length c1, .int .u64 a2] rfl (by (try simp only [map_toArray, map_cons, map_nil]); first | done | rfl | (simp only [length_drop, length_take]; rfl)) ?_; (with_reducible refine (leaf_Below.calls k a0 _ _ l1 a2 t212 t213 _ ?side1 ?side2 A4.out).mono ?_); (case side1 => repeat (first | exact HR1.out | (with_reducible refine Kd.C_alloc ?_ _) | (with_reducible refine Kd.C_drewN ?_ _) | (with_reducible refine Kd.C_drew ?_))); (case side2 => exact HC1.out); rintro e w18 ⟨v214, rfl, ho0, hb⟩; refine ⟨_, rfl, ?_⟩; have n0_ := ak_ (Kd.R_lower ho0 (below_size (by repeat (first | (with_reducible first | exact HB.out | apply ba_ | apply bn_ | apply bd_) | exact HB.out)))); have n1_ := ak_ (below_step (by repeat (first | (with_reducible first | exact HB.out | apply ba_ | apply bn_ | apply bd_) | exact HB.out)) hb); clear HB; have HO215 := n0_; have HB := n1_; clear n0_ n1_; (try clear hb); (try clear hb2); (try clear hk); (try clear hi); (try clear ho0); obtain ⟨Ao19, co19, eo19⟩ := Kd.R_slice HO215.out; subst eo19; have p216 : 0 ≤ (0 : Int) := (by omega); have q216 : 0 < (t212.length : Int) := of_decide_eq_true (by first | (with_reducible assumption) | assumption); obtain ⟨ad216, e216, hx216_0⟩ := Kd.at_int (Kd.R_reads' HO215.out).2.2 0 p216 q216; cases e216; have qi216 : (0 < t212.length) = True := eq_true (by omega); (try rw [show ((0 : Int)).toNat = 0 from rfl] at hx216_0); (try rw [Addr.add_zero'] at hx216_0); replace p216 := eq_true p216; replace q216 := eq_true q216) | ((with_reducible refine gate_callee (f := 108) rfl ?_); refine goesL_ (some 33) rfl rfl Try.func108 (by kernel_rfl) rfl #[.int .i64 a0, .int .u64 (rd t212 0)] rfl (by (try simp only [map_toArray, map_cons, map_nil]); first | done | rfl | (simp only [length_drop, length_take]; rfl)) ?_; (with_reducible refine (node_Leaf.calls a0 (rd t212 0) t217 t218 _ A10.out).mono ?_); rintro e w' ⟨rfl, ⟨nd, rfl⟩⟩; refine ⟨_, rfl, ?_⟩; have p219 : 0 ≤ ((ji11) : Int) := of_decide_eq_true (by first | (with_reducible assumption) | assumption); have q219 : (ji11) < (t212.length : Int) := of_decide_eq_true (by first | (with_reducible assumption) | assumption); obtain ⟨ad219, e219, hx219_0⟩ := Kd.at_int (Kd.R_reads' HO215.out).2.2 (ji11) p219 q219; obtain rfl : ad216 = ad219 := (by injection e219); replace p219 := eq_true p219; replace q219 := eq_true q219) | ((with_reducible refine gate_callee (f := 108) rfl ?_); refine goesL_ (some 44) rfl rfl Try.func108 (by kernel_rfl) rfl #[.int .i64 a0, .int .u64 (rd t212 (ji11))] rfl (by (try simp only [map_toArray, map_cons, map_nil]); first | done | (simp only [hji11]; rfl) | rfl | (simp only [length_drop, length_take]; rfl)) ?_; (with_reducible refine (node_Leaf.calls a0 (rd t212 (ji11)) t220 t221 _ A14.out).mono ?_); rintro e w' ⟨rfl, ⟨nd, rfl⟩⟩; refine ⟨_, rfl, ?_⟩) | ((with_reducible refine gate_callee (f := 120) rfl ?_); refine goesL_ (some 56) rfl rfl Try.func120 (by kernel_rfl) rfl #[.int .i64 a0, .int .u64 t217, .int .u64 t220] rfl (by (try simp only [map_toArray, map_cons, map_nil]); first | done | rfl | (simp only [length_drop, length_take]; rfl)) ?_; (with_reducible refine (node_Meet.calls k a0 t217 t220 t222 t223 _ A17.out).mono ?_); rintro e w20 ⟨rfl, hb⟩; refine ⟨_, rfl, ?_⟩; have n0_ := ak_ (Kd.R_below (by (with_reducible repeat (first | apply Kd.R_alloc | apply Kd.R_drewN | apply Kd.R_drew)); exact HO215.out) hb); have n1_ := ak_ (below_step (by repeat (first | (with_reducible first | exact HB.out | apply ba_ | apply bn_ | apply bd_) | exact HB.out)) hb); clear HO215; clear HB; have HO215 := n0_; have HB := n1_; clear n0_ n1_; (try clear hb); (try clear hb2); (try clear hk); (try clear hi)))
         go_ret2
         exact ⟨by first | rfl | (simp <;> rfl) | (simp only [← hji11]; first | rfl | (simp <;> rfl)) | (simp [*] <;> rfl), by repeat (first | (with_reducible first | exact HB.out | apply ba_ | apply bn_ | apply bd_) | exact HB.out)⟩
        ·rw [if_neg c16] at H
         have c16b0 : (t221 == 0) = false := beq_eq_false_iff_ne.mpr c16
         have c16b1 : (t221 != 0) = true := bne_iff_ne.mpr c16
         simp only [Option.some.injEq, Prod.mk.injEq] at H
         obtain ⟨rfl, rfl⟩ := H
         go_enter Try.func89, Try.ntmps89
         go_wp2_with (first | ((with_reducible refine gate_callee (f := 21) rfl ?_); refine goesL_ (some 17) rfl rfl Try.func21 (by kernel_rfl) rfl #[.int .i64 a0, .slice A1 l1.length c1, .int .u64 a2] rfl (by (try simp only [map_toArray, map_cons, map_nil]); first | done | rfl | (simp only [length_drop, length_take]; rfl)) ?_; (with_reducible refine (leaf_Below.calls k a0 _ _ l1 a2 t212 t213 _ ?side1 ?side2 A4.out).mono ?_); (case side1 => repeat (first | exact HR1.out | (with_reducible refine Kd.C_alloc ?_ _) | (with_reducible refine Kd.C_drewN ?_ _) | (with_reducible refine Kd.C_drew ?_))); (case side2 => exact HC1.out); rintro e w21 ⟨v214, rfl, ho0, hb⟩; refine ⟨_, rfl, ?_⟩; have n0_ := ak_ (Kd.R_lower ho0 (below_size (by repeat (first | (with_reducible first | exact HB.out | apply ba_ | apply bn_ | apply bd_) | exact HB.out)))); have n1_ := ak_ (below_step (by repeat (first | (with_reducible first | exact HB.out | apply ba_ | apply bn_ | apply bd_) | exact HB.out)) hb); clear HB; have HO215 := n0_; have HB := n1_; clear n0_ n1_; (try clear hb); (try clear hb2); (try clear hk); (try clear hi); (try clear ho0); obtain ⟨Ao22, co22, eo22⟩ := Kd.R_slice HO215.out; subst eo22; have p216 : 0 ≤ (0 : Int) := (by omega); have q216 : 0 < (t212.length : Int) := of_decide_eq_true (by first | (with_reducible assumption) | assumption); obtain ⟨ad216, e216, hx216_0⟩ := Kd.at_int (Kd.R_reads' HO215.out).2.2 0 p216 q216; cases e216; have qi216 : (0 < t212.length) = True := eq_true (by omega); (try rw [show ((0 : Int)).toNat = 0 from rfl] at hx216_0); (try rw [Addr.add_zero'] at hx216_0); replace p216 := eq_true p216; replace q216 := eq_true q216) | ((with_reducible refine gate_callee (f := 108) rfl ?_); refine goesL_ (some 33) rfl rfl Try.func108 (by kernel_rfl) rfl #[.int .i64 a0, .int .u64 (rd t212 0)] rfl (by (try simp only [map_toArray, map_cons, map_nil]); first | done | rfl | (simp only [length_drop, length_take]; rfl)) ?_; (with_reducible refine (node_Leaf.calls a0 (rd t212 0) t217 t218 _ A10.out).mono ?_); rintro e w' ⟨rfl, ⟨nd, rfl⟩⟩; refine ⟨_, rfl, ?_⟩; have p219 : 0 ≤ ((ji11) : Int) := of_decide_eq_true (by first | (with_reducible assumption) | assumption); have q219 : (ji11) < (t212.length : Int) := of_decide_eq_true (by first | (with_reducible assumption) | assumption); obtain ⟨ad219, e219, hx219_0⟩ := Kd.at_int (Kd.R_reads' HO215.out).2.2 (ji11) p219 q219; obtain rfl : ad216 = ad219 := (by injection e219); replace p219 := eq_true p219; replace q219 := eq_true q219) | ((with_reducible refine gate_callee (f := 108) rfl ?_); refine goesL_ (some 44) rfl rfl Try.func108 (by kernel_rfl) rfl #[.int .i64 a0, .int .u64 (rd t212 (ji11))] rfl (by (try simp only [map_toArray, map_cons, map_nil]); first | done | (simp only [hji11]; rfl) | rfl | (simp only [length_drop, length_take]; rfl)) ?_; (with_reducible refine (node_Leaf.calls a0 (rd t212 (ji11)) t220 t221 _ A14.out).mono ?_); rintro e w' ⟨rfl, ⟨nd, rfl⟩⟩; refine ⟨_, rfl, ?_⟩))
         go_ret2
         exact ⟨by first | rfl | (simp <;> rfl) | (simp only [← hji11]; first | rfl | (simp <;> rfl)) | (simp [*] <;> rfl), by repeat (first | (with_reducible first | exact HB.out | apply ba_ | apply bn_ | apply bd_) | exact HB.out)⟩
       ·rw [if_neg c15] at H
        have c15b0 : (t218 == 0) = false := beq_eq_false_iff_ne.mpr c15
        have c15b1 : (t218 != 0) = true := bne_iff_ne.mpr c15
        simp only [Option.some.injEq, Prod.mk.injEq] at H
        obtain ⟨rfl, rfl⟩ := H
        go_enter Try.func89, Try.ntmps89
        go_wp2_with (first | ((with_reducible refine gate_callee (f := 21) rfl ?_); refine goesL_ (some 17) rfl rfl Try.func21 (by kernel_rfl) rfl #[.int .i64 a0, .slice A1 l1.length c1, .int .u64 a2] rfl (by (try simp only [map_toArray, map_cons, map_nil]); first | done | rfl | (simp only [length_drop, length_take]; rfl)) ?_; (with_reducible refine (leaf_Below.calls k a0 _ _ l1 a2 t212 t213 _ ?side1 ?side2 A4.out).mono ?_); (case side1 => repeat (first | exact HR1.out | (with_reducible refine Kd.C_alloc ?_ _) | (with_reducible refine Kd.C_drewN ?_ _) | (with_reducible refine Kd.C_drew ?_))); (case side2 => exact HC1.out); rintro e w23 ⟨v214, rfl, ho0, hb⟩; refine ⟨_, rfl, ?_⟩; have n0_ := ak_ (Kd.R_lower ho0 (below_size (by repeat (first | (with_reducible first | exact HB.out | apply ba_ | apply bn_ | apply bd_) | exact HB.out)))); have n1_ := ak_ (below_step (by repeat (first | (with_reducible first | exact HB.out | apply ba_ | apply bn_ | apply bd_) | exact HB.out)) hb); clear HB; have HO215 := n0_; have HB := n1_; clear n0_ n1_; (try clear hb); (try clear hb2); (try clear hk); (try clear hi); (try clear ho0); obtain ⟨Ao24, co24, eo24⟩ := Kd.R_slice HO215.out; subst eo24; have p216 : 0 ≤ (0 : Int) := (by omega); have q216 : 0 < (t212.length : Int) := of_decide_eq_true (by first | (with_reducible assumption) | assumption); obtain ⟨ad216, e216, hx216_0⟩ := Kd.at_int (Kd.R_reads' HO215.out).2.2 0 p216 q216; cases e216; have qi216 : (0 < t212.length) = True := eq_true (by omega); (try rw [show ((0 : Int)).toNat = 0 from rfl] at hx216_0); (try rw [Addr.add_zero'] at hx216_0); replace p216 := eq_true p216; replace q216 := eq_true q216) | ((with_reducible refine gate_callee (f := 108) rfl ?_); refine goesL_ (some 33) rfl rfl Try.func108 (by kernel_rfl) rfl #[.int .i64 a0, .int .u64 (rd t212 0)] rfl (by (try simp only [map_toArray, map_cons, map_nil]); first | done | rfl | (simp only [length_drop, length_take]; rfl)) ?_; (with_reducible refine (node_Leaf.calls a0 (rd t212 0) t217 t218 _ A10.out).mono ?_); rintro e w' ⟨rfl, ⟨nd, rfl⟩⟩; refine ⟨_, rfl, ?_⟩; have p219 : 0 ≤ ((ji11) : Int) := of_decide_eq_true (by first | (with_reducible assumption) | assumption); have q219 : (ji11) < (t212.length : Int) := of_decide_eq_true (by first | (with_reducible assumption) | assumption); obtain ⟨ad219, e219, hx219_0⟩ := Kd.at_int (Kd.R_reads' HO215.out).2.2 (ji11) p219 q219; obtain rfl : ad216 = ad219 := (by injection e219); replace p219 := eq_true p219; replace q219 := eq_true q219) | ((with_reducible refine gate_callee (f := 108) rfl ?_); refine goesL_ (some 44) rfl rfl Try.func108 (by kernel_rfl) rfl #[.int .i64 a0, .int .u64 (rd t212 (ji11))] rfl (by (try simp only [map_toArray, map_cons, map_nil]); first | done | (simp only [hji11]; rfl) | rfl | (simp only [length_drop, length_take]; rfl)) ?_; (with_reducible refine (node_Leaf.calls a0 (rd t212 (ji11)) t220 t221 _ A14.out).mono ?_); rintro e w' ⟨rfl, ⟨nd, rfl⟩⟩; refine ⟨_, rfl, ?_⟩))
        go_ret2
        exact ⟨by first | rfl | (simp <;> rfl) | (simp only [← hji11]; first | rfl | (simp <;> rfl)) | (simp [*] <;> rfl), by repeat (first | (with_reducible first | exact HB.out | apply ba_ | apply bn_ | apply bd_) | exact HB.out)⟩
      ·rw [if_neg c13] at H
       exact absurd H (by simp)
     ·rw [if_neg c12] at H
      exact absurd H (by simp)
    ·rw [if_neg c9] at H
     exact absurd H (by simp)
  ·rw [if_neg c5] at H
   have c5b0 : (t213 == 0) = false := beq_eq_false_iff_ne.mpr c5
   have c5b1 : (t213 != 0) = true := bne_iff_ne.mpr c5
   simp only [Option.some.injEq, Prod.mk.injEq] at H
   obtain ⟨rfl, rfl⟩ := H
   go_enter Try.func89, Try.ntmps89
   go_wp2_with (first | ((with_reducible refine gate_callee (f := 21) rfl ?_); refine goesL_ (some 17) rfl rfl Try.func21 (by kernel_rfl) rfl #[.int .i64 a0, .slice A1 l1.length c1, .int .u64 a2] rfl (by (try simp only [map_toArray, map_cons, map_nil]); first | done | rfl | (simp only [length_drop, length_take]; rfl)) ?_; (with_reducible refine (leaf_Below.calls k a0 _ _ l1 a2 t212 t213 _ ?side1 ?side2 A4.out).mono ?_); (case side1 => repeat (first | exact HR1.out | (with_reducible refine Kd.C_alloc ?_ _) | (with_reducible refine Kd.C_drewN ?_ _) | (with_reducible refine Kd.C_drew ?_))); (case side2 => exact HC1.out); rintro e w25 ⟨v214, rfl, ho0, hb⟩; refine ⟨_, rfl, ?_⟩; have n0_ := ak_ (Kd.R_lower ho0 (below_size (by repeat (first | (with_reducible first | exact HB.out | apply ba_ | apply bn_ | apply bd_) | exact HB.out)))); have n1_ := ak_ (below_step (by repeat (first | (with_reducible first | exact HB.out | apply ba_ | apply bn_ | apply bd_) | exact HB.out)) hb); clear HB; have HO215 := n0_; have HB := n1_; clear n0_ n1_; (try clear hb); (try clear hb2); (try clear hk); (try clear hi); (try clear ho0)))
   go_ret2
   exact ⟨by first | rfl | (simp <;> rfl) | (simp [*] <;> rfl), by repeat (first | (with_reducible first | exact HB.out | apply ba_ | apply bn_ | apply bd_) | exact HB.out)⟩

/-! ### node_Child: function 90 -/
def node_Child.j0 : Nat → Int → Int → Int → Bool → Option (Int × Int)
  | 0, _, _, _, _ => none
  | k + 1, x0, x1, x2, x8 => if x8 = true then (some (0, 1)) else ((node_depth.f k x1).bind fun t225 => (if t225 = x0 then (some (0, 4)) else (some (Go.bits .or .u64 (IntKind.u64.wrap (x1 * 2)) (IntKind.u64.wrap (x2)), 0))))
def node_Child.f (k : Nat) (a0 : Int) (a1 : Int) (a2 : Int) : Option (Int × Int) := (node_Check.f k a0 a1).bind fun t224 => (if t224 = 0 then (node_Child.j0 k a0 a1 a2 ((Go.bits .andNot .i64 a2 1) != 0)) else (node_Child.j0 k a0 a1 a2 true))
theorem node_Child.mono_l : ∀ k, (∀ y0 y1 y2 y3, LeO (node_Child.j0 k y0 y1 y2 y3) (node_Child.j0 (k + 1) y0 y1 y2 y3))
  | 0 => fun _ _ _ _ r h => by simp [node_Child.j0] at h
  | k + 1 => by
   have ih0 := node_Child.mono_l k
   ·intro y0 y1 y2 y3
    unfold node_Child.j0
    repeat' first
    | (with_reducible exact ih0 _ _ _ _)
    | (with_reducible exact node_Check.mono _ _ _)
    | (with_reducible exact node_depth.mono _ _)
    | (with_reducible exact LeO.refl _)
    | (with_reducible exact LeO.none _)
    | (with_reducible refine LeO.ite ?_ ?_)
    | (with_reducible refine LeO.bind ?_ (fun _ => ?_))
    | exact ih0 _ _ _ _
    | exact node_Check.mono _ _ _
    | exact node_depth.mono _ _
    | exact LeO.none _
    | refine LeO.ite ?_ ?_
    | refine LeO.bind ?_ (fun _ => ?_)
theorem node_Child.mono : ∀ a0 a1 a2 k, LeO (node_Child.f k a0 a1 a2) (node_Child.f (k + 1) a0 a1 a2) := by
  intro a0 a1 a2 k
  have ih0 := node_Child.mono_l k
  unfold node_Child.f
  repeat' first
    | (with_reducible exact ih0 _ _ _ _)
    | (with_reducible exact node_Check.mono _ _ _)
    | (with_reducible exact node_depth.mono _ _)
    | (with_reducible exact LeO.refl _)
    | (with_reducible exact LeO.none _)
    | (with_reducible refine LeO.ite ?_ ?_)
    | (with_reducible refine LeO.bind ?_ (fun _ => ?_))
    | exact ih0 _ _ _ _
    | exact node_Check.mono _ _ _
    | exact node_depth.mono _ _
    | exact LeO.none _
    | refine LeO.ite ?_ ?_
    | refine LeO.bind ?_ (fun _ => ?_)
set_option maxHeartbeats 8000000 in
set_option maxRecDepth 100000 in
theorem node_Child.calls (k : Nat) (a0 : Int) (a1 : Int) (a2 : Int) (r1 : Int) (r2 : Int) (w : World) (h : node_Child.f k a0 a1 a2 = some (r1, r2)) :
   Calls Try.prog 90 #[.int .i64 a0, .int .u64 a1, .int .i64 a2] w fun e w' => e = .returned (.tuple #[.int .u64 r1, .int .i64 r2]) ∧ Drawn0 w w' := by
  have H : ((node_Check.f k a0 a1).bind fun t224 => (if t224 = 0 then (node_Child.j0 k a0 a1 a2 ((Go.bits .andNot .i64 a2 1) != 0)) else (node_Child.j0 k a0 a1 a2 true))) = some (r1, r2) := h
  clear h
  have HC4 := ak_ H
  clear H
  go_enter Try.func90, Try.ntmps90
  go_upto_region 1 with (fail)
  go_cut [8] (fun v8 wc => ∃ (kq : Nat) (x8_3 : Bool), v8 = .bool x8_3 ∧ Aside0 (node_Child.j0 kq a0 a1 a2 x8_3 = some (r1, r2)) ∧ Aside0 (kq ≤ k) ∧ Drawn0 w wc)
  case first =>
   have H := HC4.out
   clear HC4
   replace H := Option.bind_eq_some_iff.mp H
   obtain ⟨t224, A50, H⟩ := H
   replace H : (if t224 = 0 then (node_Child.j0 k a0 a1 a2 ((Go.bits .andNot .i64 a2 1) != 0)) else (node_Child.j0 k a0 a1 a2 true)) = some (r1, r2) := H
   have A5 := ak_ A50
   clear A50
   by_cases c6 : t224 = 0
   ·rw [if_pos c6] at H
    have c6b0 : (t224 == 0) = true := beq_iff_eq.mpr c6
    have c6b1 : (t224 != 0) = false := bne_eq_false_iff_eq.mpr c6
    clear c6
    (first | rw [c6b0] | (simp only [i64_w, i32_w]; rw [c6b0]) | skip)
    have H' := ak_ H
    clear H
    go_wp2_with (first | ((with_reducible refine gate_callee (f := 64) rfl ?_); refine goesL_ (some 11) rfl rfl Try.func64 (by kernel_rfl) rfl #[.int .i64 a0, .int .u64 a1] rfl (by (try simp only [map_toArray, map_cons, map_nil]); first | done | rfl | (simp only [length_drop, length_take]; rfl)) ?_; (with_reducible refine (node_Check.calls k a0 a1 t224 _ A5.out).mono ?_); rintro e w' ⟨rfl, ⟨nd, rfl⟩⟩; refine ⟨_, rfl, ?_⟩))
    go_meet
    case rel => exact ⟨_, (((Go.bits .andNot .i64 a2 1) != 0)), (by first | rfl | (simp; done) | (simp [*]; done)), H', ⟨by first | omega | exact Nat.le_refl _⟩, by repeat (first | exact Drawn0.refl _ | apply Drawn0.step)⟩
   ·rw [if_neg c6] at H
    have c6b0 : (t224 == 0) = false := beq_eq_false_iff_ne.mpr c6
    have c6b1 : (t224 != 0) = true := bne_iff_ne.mpr c6
    (first | rw [c6b0] | (simp only [i64_w, i32_w]; rw [c6b0]) | skip)
    have H' := ak_ H
    clear H
    go_wp2_with (first | ((with_reducible refine gate_callee (f := 64) rfl ?_); refine goesL_ (some 11) rfl rfl Try.func64 (by kernel_rfl) rfl #[.int .i64 a0, .int .u64 a1] rfl (by (try simp only [map_toArray, map_cons, map_nil]); first | done | rfl | (simp only [length_drop, length_take]; rfl)) ?_; (with_reducible refine (node_Check.calls k a0 a1 t224 _ A5.out).mono ?_); rintro e w' ⟨rfl, ⟨nd, rfl⟩⟩; refine ⟨_, rfl, ?_⟩))
    go_meet
    case rel => exact ⟨_, (true), (by first | rfl | (simp; done) | (simp [*]; done)), H', ⟨by first | omega | exact Nat.le_refl _⟩, by repeat (first | exact Drawn0.refl _ | apply Drawn0.step)⟩
  case rest =>
   clear HC4
   try clear p2
   try clear c6
   try clear c6b0
   try clear c6b1
   obtain ⟨kq, x8_3, rfl, HA, HJ3, ⟨mc3, rfl⟩⟩ := hcut
   cases kq with
   | zero => exact absurd HA.out (by simp [node_Child.j0])
   | succ kj3 =>
    have H := HA.out
    clear HA
    simp only [node_Child.j0] at H
    by_cases c7 : x8_3 = true
    ·subst c7
     have H1 : (some (0, 1)) = some (r1, r2) := by rw [if_pos rfl] at H; exact H
     clear H
     have H := H1
     clear H1
     simp only [Option.some.injEq, Prod.mk.injEq] at H
     obtain ⟨rfl, rfl⟩ := H
     go_wp2
     go_ret2
     exact ⟨by first | rfl | (simp; done) | (simp [*]; done), by repeat (first | exact Drawn0.refl _ | apply Drawn0.step)⟩
    ·replace c7 := Bool.eq_false_iff.mpr c7
     subst c7
     have H1 : ((node_depth.f kj3 a1).bind fun t225 => (if t225 = a0 then (some (0, 4)) else (some (Go.bits .or .u64 (IntKind.u64.wrap (a1 * 2)) (IntKind.u64.wrap (a2)), 0)))) = some (r1, r2) := by rw [if_neg (show ¬ (false = true) by decide)] at H; exact H
     clear H
     have H := H1
     clear H1
     replace H := Option.bind_eq_some_iff.mp H
     obtain ⟨t225, A80, H⟩ := H
     replace H : (if t225 = a0 then (some (0, 4)) else (some (Go.bits .or .u64 (IntKind.u64.wrap (a1 * 2)) (IntKind.u64.wrap (a2)), 0))) = some (r1, r2) := H
     have A8 := ak_ A80
     clear A80
     by_cases c9 : t225 = a0
     ·rw [if_pos c9] at H
      have c9b0 : (t225 == a0) = true := beq_iff_eq.mpr c9
      have c9b1 : (t225 != a0) = false := bne_eq_false_iff_eq.mpr c9
      clear c9
      simp only [Option.some.injEq, Prod.mk.injEq] at H
      obtain ⟨rfl, rfl⟩ := H
      go_wp2_with (first | ((with_reducible refine gate_callee (f := 102) rfl ?_); refine goesL_ (some 20) rfl rfl Try.func102 (by kernel_rfl) rfl #[.int .u64 a1] rfl (by (try simp only [map_toArray, map_cons, map_nil]); first | done | rfl | (simp only [length_drop, length_take]; rfl)) ?_; (with_reducible refine (node_depth.calls kj3 a1 t225 _ A8.out).mono ?_); rintro e w' ⟨rfl, ⟨nd, rfl⟩⟩; refine ⟨_, rfl, ?_⟩))
      go_ret2
      exact ⟨by first | rfl | (simp; done) | (simp [*]; done), by repeat (first | exact Drawn0.refl _ | apply Drawn0.step)⟩
     ·rw [if_neg c9] at H
      have c9b0 : (t225 == a0) = false := beq_eq_false_iff_ne.mpr c9
      have c9b1 : (t225 != a0) = true := bne_iff_ne.mpr c9
      simp only [Option.some.injEq, Prod.mk.injEq] at H
      obtain ⟨rfl, rfl⟩ := H
      go_wp2_with (first | ((with_reducible refine gate_callee (f := 102) rfl ?_); refine goesL_ (some 20) rfl rfl Try.func102 (by kernel_rfl) rfl #[.int .u64 a1] rfl (by (try simp only [map_toArray, map_cons, map_nil]); first | done | rfl | (simp only [length_drop, length_take]; rfl)) ?_; (with_reducible refine (node_depth.calls kj3 a1 t225 _ A8.out).mono ?_); rintro e w' ⟨rfl, ⟨nd, rfl⟩⟩; refine ⟨_, rfl, ?_⟩))
      go_ret2
      exact ⟨by first | rfl | (simp; done) | (simp [*]; done), by repeat (first | exact Drawn0.refl _ | apply Drawn0.step)⟩

/-! ### bits_Len: function 92 -/
def bits_Len.f (k : Nat) (a0 : Int) : Option (Int) := (bits_Len64.f k a0).bind fun t228 => (some t228)
theorem bits_Len.mono : ∀ a0 k, LeO (bits_Len.f k a0) (bits_Len.f (k + 1) a0) := by
  intro a0 k
  unfold bits_Len.f
  repeat' first
    | (with_reducible exact bits_Len64.mono _ _)
    | (with_reducible exact LeO.refl _)
    | (with_reducible exact LeO.none _)
    | (with_reducible refine LeO.ite ?_ ?_)
    | (with_reducible refine LeO.bind ?_ (fun _ => ?_))
    | exact bits_Len64.mono _ _
    | exact LeO.none _
    | refine LeO.ite ?_ ?_
    | refine LeO.bind ?_ (fun _ => ?_)
set_option maxHeartbeats 8000000 in
set_option maxRecDepth 100000 in
theorem bits_Len.calls (k : Nat) (a0 : Int) (r : Int) (w : World) (h : bits_Len.f k a0 = some r) :
   Calls Try.prog 92 #[.int .u64 a0] w fun e w' => e = .returned (.int .i64 r) ∧ Drawn0 w w' := by
  have H : ((bits_Len64.f k a0).bind fun t228 => (some t228)) = some r := h
  clear h
  replace H := Option.bind_eq_some_iff.mp H
  obtain ⟨t228, A20, H⟩ := H
  replace H : (some t228) = some r := H
  have A2 := ak_ A20
  clear A20
  obtain rfl := Option.some.inj H
  go_enter Try.func92, Try.ntmps92
  go_wp2_with (first | ((with_reducible refine gate_callee (f := 130) rfl ?_); refine goesL_ (some 7) rfl rfl Try.func130 (by kernel_rfl) rfl #[.int .u64 a0] rfl (by (try simp only [map_toArray, map_cons, map_nil]); first | done | rfl | (simp only [length_drop, length_take]; rfl)) ?_; (with_reducible refine (bits_Len64.calls k a0 t228 _ A2.out).mono ?_); rintro e w' ⟨rfl, ⟨nd, rfl⟩⟩; refine ⟨_, rfl, ?_⟩))
  go_ret
  exact ⟨by first | rfl | (simp; done) | (simp [*]; done), by repeat (first | exact Drawn0.refl _ | apply Drawn0.step)⟩

end Go.Proofs.Ytmffkfakcbopcaa.MP
