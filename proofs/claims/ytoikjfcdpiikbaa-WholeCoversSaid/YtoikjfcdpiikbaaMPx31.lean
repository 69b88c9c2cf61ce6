-- written by a program of this session (wip/tools/mprint.sh) for this seat
import Derived.Test.YtoikjfcdpiikbaaMPx0
import Derived.Test.YtoikjfcdpiikbaaMPx2
import Derived.Test.YtoikjfcdpiikbaaMPx9
import Derived.Test.YtoikjfcdpiikbaaMPx30
import Derived.RangeFuncNested
import Derived.RangeFuncBound
import Derived.RangeFuncCalls
import Derived.RangeFuncLeaves
import Derived.Shelf.Abstract
import Derived.OwnWalkIn
import Derived.TacticsInMore
import Derived.LoopNIn
import Derived.LoopIn
import Derived.Maps.AppendAt
namespace Go.Proofs.Ytoikjfcdpiikbaa.MP
open Go.RowKit Go.Proofs.YtoikjfcdpiikbaaW.PrintWords Go.Proofs.YtoikjfcdpiikbaaW.PrintLast Go.Proofs.YtoikjfcdpiikbaaW.PrintMore
attribute [local go_sem] max2_int min2_int max_two min_two max_three min_three max_four min_four   -- for this text's walks alone
set_option linter.unusedVariables false
set_option linter.unusedSimpArgs false

/-! ### sub_Leaves: function 41 -/
def sub_Leaves.f (k : Nat) (a0 : Int) (a1_0 : Int) (a1_1 : Int) : Option ((List (S34)) × Int) := (sub_both.f k a0 a1_0 a1_1).bind fun bt535 => (if bt535.2.2.2.2 = 0 then (if a1_1 = 0 then (some ((([(⟨bt535.1, bt535.2.1⟩ : S34)] : List (S34))), 0)) else (if bt535.1 < bt535.2.2.1 then (if ([] : List (S34)).length < 8796093022208 then ((some (([] : List (S34)) ++ [(⟨bt535.1, IntKind.u64.wrap (bt535.2.2.1 - 1)⟩ : S34)] : List (S34))).bind fun y545 => (if bt535.2.2.2.1 < bt535.2.1 then (if y545.length < 8796093022208 then (some ((y545 ++ [(⟨IntKind.u64.wrap (bt535.2.2.2.1 + 1), bt535.2.1⟩ : S34)]), 0)) else (none)) else (some (y545, 0)))) else (none)) else (if bt535.2.2.2.1 < bt535.2.1 then (if ([] : List (S34)).length < 8796093022208 then (some ((([] : List (S34)) ++ [(⟨IntKind.u64.wrap (bt535.2.2.2.1 + 1), bt535.2.1⟩ : S34)]), 0)) else (none)) else (some (([] : List (S34)), 0))))) else (some (([] : List (S34)), bt535.2.2.2.2)))
theorem sub_Leaves.mono : ∀ a0 a1 a2 k, LeO (sub_Leaves.f k a0 a1 a2) (sub_Leaves.f (k + 1) a0 a1 a2) := by
  intro a0 a1 a2 k
  unfold sub_Leaves.f
  repeat' first
      | (with_reducible exact sub_both.mono _ _ _ _)
      | (with_reducible exact LeO.refl _)
      | (with_reducible exact LeO.none _)
      | (with_reducible refine LeO.ite ?_ ?_)
      | (with_reducible refine LeO.bind ?_ (fun _ => ?_))
      | exact sub_both.mono _ _ _ _
      | exact LeO.none _
      | refine LeO.ite ?_ ?_
      | refine LeO.bind ?_ (fun _ => ?_)
set_option maxHeartbeats 8000000 in
set_option maxRecDepth 100000 in
theorem sub_Leaves.calls (k : Nat) (a0 : Int) (a1_0 : Int) (a1_1 : Int) (r1 : List (S34)) (r2 : Int) (w : World) (h : sub_Leaves.f k a0 a1_0 a1_1 = some (r1, r2)) :
    Calls Try.prog 41 #[.int .i64 a0, .agg #[.int .u64 a1_0, .int .u64 a1_1]] w fun e w' => ∃ v0_ : Value, e = .returned (.tuple #[v0_, .int .i64 r2]) ∧ Kd.R k34 34 w' w.heap.size (fun _ => True) v0_ r1 ∧ Below w.heap.size w w' := by
  have hu43 := Try.underlying43
  have hu34 := Try.underlying34
  have HB := Aside0.mk (Below.refl w.heap.size w)
  have H : ((sub_both.f k a0 a1_0 a1_1).bind fun bt535 => (if bt535.2.2.2.2 = 0 then (if a1_1 = 0 then (some ((([(⟨bt535.1, bt535.2.1⟩ : S34)] : List (S34))), 0)) else (if bt535.1 < bt535.2.2.1 then (if ([] : List (S34)).length < 8796093022208 then ((some (([] : List (S34)) ++ [(⟨bt535.1, IntKind.u64.wrap (bt535.2.2.1 - 1)⟩ : S34)] : List (S34))).bind fun y545 => (if bt535.2.2.2.1 < bt535.2.1 then (if y545.length < 8796093022208 then (some ((y545 ++ [(⟨IntKind.u64.wrap (bt535.2.2.2.1 + 1), bt535.2.1⟩ : S34)]), 0)) else (none)) else (some (y545, 0)))) else (none)) else (if bt535.2.2.2.1 < bt535.2.1 then (if ([] : List (S34)).length < 8796093022208 then (some ((([] : List (S34)) ++ [(⟨IntKind.u64.wrap (bt535.2.2.2.1 + 1), bt535.2.1⟩ : S34)]), 0)) else (none)) else (some (([] : List (S34)), 0))))) else (some (([] : List (S34)), bt535.2.2.2.2)))) = some (r1, r2) := h
  clear h
  replace H := Option.bind_eq_some_iff.mp H
  obtain ⟨⟨t535, t536, t537, t538, t539⟩, A30, H⟩ := H
  replace H : (if t539 = 0 then (if a1_1 = 0 then (some ((([(⟨t535, t536⟩ : S34)] : List (S34))), 0)) else (if t535 < t537 then (if ([] : List (S34)).length < 8796093022208 then ((some (([] : List (S34)) ++ [(⟨t535, IntKind.u64.wrap (t537 - 1)⟩ : S34)] : List (S34))).bind fun y545 => (if t538 < t536 then (if y545.length < 8796093022208 then (some ((y545 ++ [(⟨IntKind.u64.wrap (t538 + 1), t536⟩ : S34)]), 0)) else (none)) else (some (y545, 0)))) else (none)) else (if t538 < t536 then (if ([] : List (S34)).length < 8796093022208 then (some ((([] : List (S34)) ++ [(⟨IntKind.u64.wrap (t538 + 1), t536⟩ : S34)]), 0)) else (none)) else (some (([] : List (S34)), 0))))) else (some (([] : List (S34)), t539))) = some (r1, r2) := H
  have A3 := Aside0.mk A30
  clear A30
  by_cases c4 : t539 = 0
  · rw [if_pos c4] at H
    have c4b0 : (t539 == 0) = true := beq_iff_eq.mpr c4
    have c4b1 : (t539 != 0) = false := bne_eq_false_iff_eq.mpr c4
    clear c4
    by_cases c5 : a1_1 = 0
    · rw [if_pos c5] at H
      have c5b0 : (a1_1 == 0) = true := beq_iff_eq.mpr c5
      have c5b1 : (a1_1 != 0) = false := bne_eq_false_iff_eq.mpr c5
      clear c5
      obtain ⟨y542, hy542⟩ : ∃ y_ : List (S34), y_ = (([(⟨t535, t536⟩ : S34)] : List (S34))) := ⟨_, rfl⟩
      replace H : (some (y542, 0)) = some (r1, r2) := by first | (rw [hy542]; with_reducible exact H) | (have H2_ := (Option.bind_some _ _).symm.trans H; rw [hy542]; with_reducible exact H2_) | (have H2_ := (Option.bind_some _ _).symm.trans H; with_reducible exact H2_) | with_reducible exact H | (rw [hy542]; exact H) | exact H
      have Ny542 := Aside0.mk hy542
      clear hy542
      simp only [Option.some.injEq, Prod.mk.injEq] at H
      obtain ⟨rfl, rfl⟩ := H
      go_enter Try.func41, Try.ntmps41
      go_wp2_with (first | ((with_reducible refine gate_dst (N := 3) rfl ?_); refine box_event ?hg (N := 3) ?hd (cs := #[.int .u64 a1_0, .int .u64 a1_1]) (t := 43) ?hr ?_; (case hd => rfl); (case hg => rfl); (case hr => first | (go_simp; done) | (go_simp; rfl)); intro gb534 hg w6 hbox hb; have n0_ := Aside0.mk (below_step (by repeat (first | (with_reducible first | exact HB.out | apply below_alloc | apply pw_below_drewN | apply below_drew1) | exact HB.out)) hb); have n1_ := Aside0.mk (hbox); have n2_ := Aside0.mk ((by rw [hg]; exact (below_size (by repeat (first | (with_reducible first | exact HB.out | apply below_alloc | apply pw_below_drewN | apply below_drew1) | exact HB.out))) : w.heap.size ≤ gb534)); have n3_ := Aside0.mk ((by rw [hg]; exact (below_size (by repeat (first | (with_reducible first | exact HB.out | apply below_alloc | apply pw_below_drewN | apply below_drew1) | exact HB.out))) : w.heap.size ≤ gb534)); clear HB; have HB := n0_; have BK534 := n1_; have GW534 := n2_; have GE534 := n3_; clear n0_ n1_ n2_ n3_; clear hb hbox hg; have hcz7_0 : w6.cell? ⟨gb534, 0, none⟩ = some (.int .u64 a1_0) := (blk_cell BK534.out 0).trans rfl; have hcz7_1 : w6.cell? ⟨gb534, 1, none⟩ = some (.int .u64 a1_1) := (blk_cell BK534.out 1).trans rfl; have hfz7_0 := blk_frozen BK534.out 0; have hfz7_1 := blk_frozen BK534.out 1) | ((with_reducible refine gate_callee (f := 70) rfl ?_); refine goesL_ (some 11) rfl rfl Try.func70 (by kernel_rfl) rfl #[.int .i64 a0, .agg #[.int .u64 a1_0, .int .u64 a1_1]] rfl (by (try simp only [List.map_toArray, List.map_cons, List.map_nil]); first | done | rfl | (simp only [List.length_drop, List.length_take]; rfl)) ?_; (with_reducible refine (sub_both.calls k a0 a1_0 a1_1 t535 t536 t537 t538 t539 _ A3.out).mono ?_); rintro e w8 ⟨rfl, hb⟩; refine ⟨_, rfl, ?_⟩; have n0_ := Aside0.mk (blk_below (g := gb534) (o := .cells #[.int .u64 a1_0, .int .u64 a1_1] 43 (0, 0)) (by (with_reducible repeat (first | refine blk_drewN ?_ _ | refine blk_drew ?_ | refine blk_alloc ?_ _)); exact BK534.out) hb); have n1_ := Aside0.mk (below_step (by repeat (first | (with_reducible first | exact HB.out | apply below_alloc | apply pw_below_drewN | apply below_drew1 | refine below_set ?_ GE534.out) | exact HB.out)) hb); clear BK534; clear HB; have BK534 := n0_; have HB := n1_; clear n0_ n1_; (try clear hb); (try clear hb2); (try clear hk); (try clear hi)) | ((with_reducible refine gate_dst (N := 6) rfl ?_); refine box_event ?hg (N := 6) ?hd (cs := #[.int .u64 0, .int .u64 0]) (t := 34) ?hr ?_; (case hd => rfl); (case hg => rfl); (case hr => first | (go_simp; done) | (go_simp; rfl)); intro gb540 hg w9 hbox hb; have n0_ := Aside0.mk (blk_below (g := gb534) (o := .cells #[.int .u64 a1_0, .int .u64 a1_1] 43 (0, 0)) (by (with_reducible repeat (first | refine blk_drewN ?_ _ | refine blk_drew ?_ | refine blk_alloc ?_ _)); exact BK534.out) hb); have n1_ := Aside0.mk (below_step (by repeat (first | (with_reducible first | exact HB.out | apply below_alloc | apply pw_below_drewN | apply below_drew1 | refine below_set ?_ GE534.out) | exact HB.out)) hb); have n2_ := Aside0.mk (hbox); have n3_ := Aside0.mk ((by rw [hg]; exact (below_size (by repeat (first | (with_reducible first | exact HB.out | apply below_alloc | apply pw_below_drewN | apply below_drew1 | refine below_set ?_ GE534.out) | exact HB.out))) : w.heap.size ≤ gb540)); have n4_ := Aside0.mk ((by rw [hg]; exact (below_size (by repeat (first | (with_reducible first | exact HB.out | apply below_alloc | apply pw_below_drewN | apply below_drew1 | refine below_set ?_ GE534.out) | exact HB.out))) : w.heap.size ≤ gb540)); have n5_ := Aside0.mk ((by rw [hg]; exact Nat.ne_of_lt (blk_lt (g := gb534) (o := .cells #[.int .u64 a1_0, .int .u64 a1_1] 43 (0, 0)) (by (with_reducible repeat (first | refine blk_drewN ?_ _ | refine blk_drew ?_ | refine blk_alloc ?_ _)); exact BK534.out)) : gb534 ≠ gb540)); have n6_ := Aside0.mk ((by rw [hg]; exact Nat.ne_of_gt (blk_lt (g := gb534) (o := .cells #[.int .u64 a1_0, .int .u64 a1_1] 43 (0, 0)) (by (with_reducible repeat (first | refine blk_drewN ?_ _ | refine blk_drew ?_ | refine blk_alloc ?_ _)); exact BK534.out)) : gb540 ≠ gb534)); clear BK534; clear HB; have BK534 := n0_; have HB := n1_; have BK540 := n2_; have GW540 := n3_; have GE540 := n4_; have NB534_540 := n5_; have NB540_534 := n6_; clear n0_ n1_ n2_ n3_ n4_ n5_ n6_; clear hb hbox hg) | ((with_reducible refine gate_dst (N := 7) rfl ?_); refine box_event ?hg (N := 7) ?hd (cs := #[.int .u64 0, .int .u64 0]) (t := 34) ?hr ?_; (case hd => rfl); (case hg => rfl); (case hr => first | (go_simp; done) | (go_simp; rfl)); intro gb541 hg w10 hbox hb; have n0_ := Aside0.mk (blk_below (g := gb534) (o := .cells #[.int .u64 a1_0, .int .u64 a1_1] 43 (0, 0)) (by (with_reducible repeat (first | refine blk_drewN ?_ _ | refine blk_drew ?_ | refine blk_alloc ?_ _)); exact BK534.out) hb); have n1_ := Aside0.mk (blk_below (g := gb540) (o := .cells #[.int .u64 0, .int .u64 0] 34 (0, 0)) (by (with_reducible repeat (first | refine blk_drewN ?_ _ | refine blk_drew ?_ | refine blk_alloc ?_ _)); exact BK540.out) hb); have n2_ := Aside0.mk (below_step (by repeat (first | (with_reducible first | exact HB.out | apply below_alloc | apply pw_below_drewN | apply below_drew1 | refine below_set ?_ GE534.out | refine below_set ?_ GE540.out) | exact HB.out)) hb); have n3_ := Aside0.mk (hbox); have n4_ := Aside0.mk ((by rw [hg]; exact (below_size (by repeat (first | (with_reducible first | exact HB.out | apply below_alloc | apply pw_below_drewN | apply below_drew1 | refine below_set ?_ GE534.out | refine below_set ?_ GE540.out) | exact HB.out))) : w.heap.size ≤ gb541)); have n5_ := Aside0.mk ((by rw [hg]; exact (below_size (by repeat (first | (with_reducible first | exact HB.out | apply below_alloc | apply pw_below_drewN | apply below_drew1 | refine below_set ?_ GE534.out | refine below_set ?_ GE540.out) | exact HB.out))) : w.heap.size ≤ gb541)); have n6_ := Aside0.mk ((by rw [hg]; exact Nat.ne_of_lt (blk_lt (g := gb534) (o := .cells #[.int .u64 a1_0, .int .u64 a1_1] 43 (0, 0)) (by (with_reducible repeat (first | refine blk_drewN ?_ _ | refine blk_drew ?_ | refine blk_alloc ?_ _)); exact BK534.out)) : gb534 ≠ gb541)); have n7_ := Aside0.mk ((by rw [hg]; exact Nat.ne_of_gt (blk_lt (g := gb534) (o := .cells #[.int .u64 a1_0, .int .u64 a1_1] 43 (0, 0)) (by (with_reducible repeat (first | refine blk_drewN ?_ _ | refine blk_drew ?_ | refine blk_alloc ?_ _)); exact BK534.out)) : gb541 ≠ gb534)); have n8_ := Aside0.mk ((by rw [hg]; exact Nat.ne_of_lt (blk_lt (g := gb540) (o := .cells #[.int .u64 0, .int .u64 0] 34 (0, 0)) (by (with_reducible repeat (first | refine blk_drewN ?_ _ | refine blk_drew ?_ | refine blk_alloc ?_ _)); exact BK540.out)) : gb540 ≠ gb541)); have n9_ := Aside0.mk ((by rw [hg]; exact Nat.ne_of_gt (blk_lt (g := gb540) (o := .cells #[.int .u64 0, .int .u64 0] 34 (0, 0)) (by (with_reducible repeat (first | refine blk_drewN ?_ _ | refine blk_drew ?_ | refine blk_alloc ?_ _)); exact BK540.out)) : gb541 ≠ gb540)); clear BK534; clear BK540; clear HB; have BK534 := n0_; have BK540 := n1_; have HB := n2_; have BK541 := n3_; have GW541 := n4_; have GE541 := n5_; have NB534_541 := n6_; have NB541_534 := n7_; have NB540_541 := n8_; have NB541_540 := n9_; clear n0_ n1_ n2_ n3_ n4_ n5_ n6_ n7_ n8_ n9_; clear hb hbox hg; have hnb11 := NB540_534.out; have hnc11 := NB534_540.out; have hnb12 := NB540_541.out; have hnc12 := NB541_540.out; have hcz13_0 : w10.cell? ⟨gb540, 0, none⟩ = some (.int .u64 0) := (blk_cell BK540.out 0).trans rfl; have hcz13_1 : w10.cell? ⟨gb540, 1, none⟩ = some (.int .u64 0) := (blk_cell BK540.out 1).trans rfl; have hfz13_0 := blk_frozen BK540.out 0; have hfz13_1 := blk_frozen BK540.out 1; have hnb14 := NB541_534.out; have hnc14 := NB534_541.out; have hcz15_0 : w10.cell? ⟨gb541, 0, none⟩ = some (.int .u64 0) := (blk_cell BK541.out 0).trans rfl; have hcz15_1 : w10.cell? ⟨gb541, 1, none⟩ = some (.int .u64 0) := (blk_cell BK541.out 1).trans rfl; have hfz15_0 := blk_frozen BK541.out 0; have hfz15_1 := blk_frozen BK541.out 1; have hcz16_0 : w10.cell? ⟨gb534, 0, none⟩ = some (.int .u64 a1_0) := (blk_cell BK534.out 0).trans rfl; have hcz16_1 : w10.cell? ⟨gb534, 1, none⟩ = some (.int .u64 a1_1) := (blk_cell BK534.out 1).trans rfl; have hfz16_0 := blk_frozen BK534.out 0; have hfz16_1 := blk_frozen BK534.out 1) | ((with_reducible refine gate_dst (N := 24) rfl ?_); refine Kd.R_lit k34 _ 34 ?hg (N := 24) ?hd (xs := ([(⟨t535, t536⟩ : S34)] : List (S34))) (inner := [.int .u64 t535, .int .u64 t536]) (ok := fun _ => True) (okp := fun _ => True) ?hr ?hp (fun _ hk => hk) trivial (Below.refl _ _) (Nat.le_refl _) (by simp) ?_; (case hd => rfl); (case hg => rfl); (case hr => first | (go_simp; done) | (go_simp; rfl)); (case hp => exact (Reps.c2 (show Kd.M k34 _ _ _ (⟨t535, t536⟩ : S34) [.int .u64 t535, .int .u64 t536] from (k34_mkM _ _ _ (⟨t535, t536⟩ : S34) )) (Reps.none _ _))); intro v543 w17 ho18 hb hg_ hnew_; clear hg_ hnew_; (first | rw [← Ny542.out] at ho18 | (simp only [Int.reduceToNat] at ho18; rw [← Ny542.out] at ho18)); have n0_ := Aside0.mk (Kd.R_lower (Kd.R_newB (Kd.R_newB ho18 (g := gb540) (o := .cells #[.int .u64 t535, .int .u64 t536] 34 (0, 0)) (by (with_reducible repeat (first | refine blk_drewN ?_ _ | refine blk_drew ?_ | refine blk_alloc ?_ _)); refine blk_far ?_ NB540_541.out _; (with_reducible repeat (first | refine blk_drewN ?_ _ | refine blk_drew ?_ | refine blk_alloc ?_ _)); refine blk_far ?_ NB540_541.out _; (with_reducible repeat (first | refine blk_drewN ?_ _ | refine blk_drew ?_ | refine blk_alloc ?_ _)); refine blk_put (cs := #[.int .u64 t535, .int .u64 0]) ?_ 1 _ rfl; (with_reducible repeat (first | refine blk_drewN ?_ _ | refine blk_drew ?_ | refine blk_alloc ?_ _)); refine blk_put (cs := #[.int .u64 0, .int .u64 0]) ?_ 0 _ rfl; (with_reducible repeat (first | refine blk_drewN ?_ _ | refine blk_drew ?_ | refine blk_alloc ?_ _)); exact BK540.out)) (g := gb541) (o := .cells #[.int .u64 t537, .int .u64 t538] 34 (0, 0)) (by (with_reducible repeat (first | refine blk_drewN ?_ _ | refine blk_drew ?_ | refine blk_alloc ?_ _)); refine blk_put (cs := #[.int .u64 t537, .int .u64 0]) ?_ 1 _ rfl; (with_reducible repeat (first | refine blk_drewN ?_ _ | refine blk_drew ?_ | refine blk_alloc ?_ _)); refine blk_put (cs := #[.int .u64 0, .int .u64 0]) ?_ 0 _ rfl; (with_reducible repeat (first | refine blk_drewN ?_ _ | refine blk_drew ?_ | refine blk_alloc ?_ _)); refine blk_far ?_ NB541_540.out _; (with_reducible repeat (first | refine blk_drewN ?_ _ | refine blk_drew ?_ | refine blk_alloc ?_ _)); refine blk_far ?_ NB541_540.out _; (with_reducible repeat (first | refine blk_drewN ?_ _ | refine blk_drew ?_ | refine blk_alloc ?_ _)); exact BK541.out)) (below_size (by repeat (first | (with_reducible first | exact HB.out | apply below_alloc | apply pw_below_drewN | apply below_drew1 | refine below_set ?_ GE534.out | refine below_set ?_ GE540.out | refine below_set ?_ GE541.out) | exact HB.out)))); have n1_ := Aside0.mk (blk_below (g := gb534) (o := .cells #[.int .u64 a1_0, .int .u64 a1_1] 43 (0, 0)) (by (with_reducible repeat (first | refine blk_drewN ?_ _ | refine blk_drew ?_ | refine blk_alloc ?_ _)); refine blk_far ?_ NB534_541.out _; (with_reducible repeat (first | refine blk_drewN ?_ _ | refine blk_drew ?_ | refine blk_alloc ?_ _)); refine blk_far ?_ NB534_541.out _; (with_reducible repeat (first | refine blk_drewN ?_ _ | refine blk_drew ?_ | refine blk_alloc ?_ _)); refine blk_far ?_ NB534_540.out _; (with_reducible repeat (first | refine blk_drewN ?_ _ | refine blk_drew ?_ | refine blk_alloc ?_ _)); refine blk_far ?_ NB534_540.out _; (with_reducible repeat (first | refine blk_drewN ?_ _ | refine blk_drew ?_ | refine blk_alloc ?_ _)); exact BK534.out) hb); have n2_ := Aside0.mk (blk_below (g := gb540) (o := .cells #[.int .u64 t535, .int .u64 t536] 34 (0, 0)) (by (with_reducible repeat (first | refine blk_drewN ?_ _ | refine blk_drew ?_ | refine blk_alloc ?_ _)); refine blk_far ?_ NB540_541.out _; (with_reducible repeat (first | refine blk_drewN ?_ _ | refine blk_drew ?_ | refine blk_alloc ?_ _)); refine blk_far ?_ NB540_541.out _; (with_reducible repeat (first | refine blk_drewN ?_ _ | refine blk_drew ?_ | refine blk_alloc ?_ _)); refine blk_put (cs := #[.int .u64 t535, .int .u64 0]) ?_ 1 _ rfl; (with_reducible repeat (first | refine blk_drewN ?_ _ | refine blk_drew ?_ | refine blk_alloc ?_ _)); refine blk_put (cs := #[.int .u64 0, .int .u64 0]) ?_ 0 _ rfl; (with_reducible repeat (first | refine blk_drewN ?_ _ | refine blk_drew ?_ | refine blk_alloc ?_ _)); exact BK540.out) hb); have n3_ := Aside0.mk (blk_below (g := gb541) (o := .cells #[.int .u64 t537, .int .u64 t538] 34 (0, 0)) (by (with_reducible repeat (first | refine blk_drewN ?_ _ | refine blk_drew ?_ | refine blk_alloc ?_ _)); refine blk_put (cs := #[.int .u64 t537, .int .u64 0]) ?_ 1 _ rfl; (with_reducible repeat (first | refine blk_drewN ?_ _ | refine blk_drew ?_ | refine blk_alloc ?_ _)); refine blk_put (cs := #[.int .u64 0, .int .u64 0]) ?_ 0 _ rfl; (with_reducible repeat (first | refine blk_drewN ?_ _ | refine blk_drew ?_ | refine blk_alloc ?_ _)); refine blk_far ?_ NB541_540.out _; (with_reducible repeat (first | refine blk_drewN ?_ _ | refine blk_drew ?_ | refine blk_alloc ?_ _)); refine blk_far ?_ NB541_540.out _; (with_reducible repeat (first | refine blk_drewN ?_ _ | refine blk_drew ?_ | refine blk_alloc ?_ _)); exact BK541.out) hb); have n4_ := Aside0.mk (below_step (by repeat (first | (with_reducible first | exact HB.out | apply below_alloc | apply pw_below_drewN | apply below_drew1 | refine below_set ?_ GE534.out | refine below_set ?_ GE540.out | refine below_set ?_ GE541.out) | exact HB.out)) hb); clear BK534; clear BK540; clear BK541; clear HB; have HO544 := n0_; have BK534 := n1_; have BK540 := n2_; have BK541 := n3_; have HB := n4_; clear n0_ n1_ n2_ n3_ n4_; clear hb ho18))
      go_ret2
      exact ⟨_, by first | rfl | (simp [errW_none, errW_some] <;> rfl) | (simp [*, errW_none, errW_some] <;> rfl), by (with_reducible repeat (first | apply Kd.R_alloc | apply Kd.R_drewN | apply Kd.R_drew)); exact Kd.R_mono HO544.out (fun _ hk => trivial), by repeat (first | (with_reducible first | exact HB.out | apply below_alloc | apply pw_below_drewN | apply below_drew1 | refine below_set ?_ GE534.out | refine below_set ?_ GE540.out | refine below_set ?_ GE541.out) | exact HB.out)⟩
    · rw [if_neg c5] at H
      have c5b0 : (a1_1 == 0) = false := beq_eq_false_iff_ne.mpr c5
      have c5b1 : (a1_1 != 0) = true := bne_iff_ne.mpr c5
      by_cases c19 : t535 < t537
      · rw [if_pos c19] at H
        have c19b0 : decide (t535 < t537) = true := decide_eq_true c19
        clear c19
        by_cases c20 : ([] : List (S34)).length < 8796093022208
        · rw [if_pos c20] at H
          have LMc20 := Aside0.mk c20
          clear c20
          obtain ⟨y545, hy545⟩ : ∃ y_ : List (S34), y_ = (([] : List (S34)) ++ [(⟨t535, IntKind.u64.wrap (t537 - 1)⟩ : S34)]) := ⟨_, rfl⟩
          replace H : (if t538 < t536 then (if y545.length < 8796093022208 then (some ((y545 ++ [(⟨IntKind.u64.wrap (t538 + 1), t536⟩ : S34)]), 0)) else (none)) else (some (y545, 0))) = some (r1, r2) := by first | (rw [hy545]; with_reducible exact H) | (have H2_ := (Option.bind_some _ _).symm.trans H; rw [hy545]; with_reducible exact H2_) | (have H2_ := (Option.bind_some _ _).symm.trans H; with_reducible exact H2_) | with_reducible exact H | (rw [hy545]; exact H) | exact H
          have Ny545 := Aside0.mk hy545
          clear hy545
          by_cases c21 : t538 < t536
          · rw [if_pos c21] at H
            have c21b0 : decide (t538 < t536) = true := decide_eq_true c21
            clear c21
            by_cases c22 : y545.length < 8796093022208
            · rw [if_pos c22] at H
              have LMc22 := Aside0.mk c22
              clear c22
              obtain ⟨y548, hy548⟩ : ∃ y_ : List (S34), y_ = (y545 ++ [(⟨IntKind.u64.wrap (t538 + 1), t536⟩ : S34)]) := ⟨_, rfl⟩
              replace H : (some (y548, 0)) = some (r1, r2) := by first | (rw [hy548]; with_reducible exact H) | (have H2_ := (Option.bind_some _ _).symm.trans H; rw [hy548]; with_reducible exact H2_) | (have H2_ := (Option.bind_some _ _).symm.trans H; with_reducible exact H2_) | with_reducible exact H | (rw [hy548]; exact H) | exact H
              have Ny548 := Aside0.mk hy548
              clear hy548
              simp only [Option.some.injEq, Prod.mk.injEq] at H
              obtain ⟨rfl, rfl⟩ := H
              go_enter Try.func41, Try.ntmps41
              go_wp2_with (first | ((with_reducible refine gate_dst (N := 3) rfl ?_); refine box_event ?hg (N := 3) ?hd (cs := #[.int .u64 a1_0, .int .u64 a1_1]) (t := 43) ?hr ?_; (case hd => rfl); (case hg => rfl); (case hr => first | (go_simp; done) | (go_simp; rfl)); intro gb534 hg w23 hbox hb; have n0_ := Aside0.mk (below_step (by repeat (first | (with_reducible first | exact HB.out | apply below_alloc | apply pw_below_drewN | apply below_drew1) | exact HB.out)) hb); have n1_ := Aside0.mk (hbox); have n2_ := Aside0.mk ((by rw [hg]; exact (below_size (by repeat (first | (with_reducible first | exact HB.out | apply below_alloc | apply pw_below_drewN | apply below_drew1) | exact HB.out))) : w.heap.size ≤ gb534)); have n3_ := Aside0.mk ((by rw [hg]; exact (below_size (by repeat (first | (with_reducible first | exact HB.out | apply below_alloc | apply pw_below_drewN | apply below_drew1) | exact HB.out))) : w.heap.size ≤ gb534)); clear HB; have HB := n0_; have BK534 := n1_; have GW534 := n2_; have GE534 := n3_; clear n0_ n1_ n2_ n3_; clear hb hbox hg; have hcz24_0 : w23.cell? ⟨gb534, 0, none⟩ = some (.int .u64 a1_0) := (blk_cell BK534.out 0).trans rfl; have hcz24_1 : w23.cell? ⟨gb534, 1, none⟩ = some (.int .u64 a1_1) := (blk_cell BK534.out 1).trans rfl; have hfz24_0 := blk_frozen BK534.out 0; have hfz24_1 := blk_frozen BK534.out 1) | ((with_reducible refine gate_callee (f := 70) rfl ?_); refine goesL_ (some 11) rfl rfl Try.func70 (by kernel_rfl) rfl #[.int .i64 a0, .agg #[.int .u64 a1_0, .int .u64 a1_1]] rfl (by (try simp only [List.map_toArray, List.map_cons, List.map_nil]); first | done | rfl | (simp only [List.length_drop, List.length_take]; rfl)) ?_; (with_reducible refine (sub_both.calls k a0 a1_0 a1_1 t535 t536 t537 t538 t539 _ A3.out).mono ?_); rintro e w25 ⟨rfl, hb⟩; refine ⟨_, rfl, ?_⟩; have n0_ := Aside0.mk (blk_below (g := gb534) (o := .cells #[.int .u64 a1_0, .int .u64 a1_1] 43 (0, 0)) (by (with_reducible repeat (first | refine blk_drewN ?_ _ | refine blk_drew ?_ | refine blk_alloc ?_ _)); exact BK534.out) hb); have n1_ := Aside0.mk (below_step (by repeat (first | (with_reducible first | exact HB.out | apply below_alloc | apply pw_below_drewN | apply below_drew1 | refine below_set ?_ GE534.out) | exact HB.out)) hb); clear BK534; clear HB; have BK534 := n0_; have HB := n1_; clear n0_ n1_; (try clear hb); (try clear hb2); (try clear hk); (try clear hi)) | ((with_reducible refine gate_dst (N := 6) rfl ?_); refine box_event ?hg (N := 6) ?hd (cs := #[.int .u64 0, .int .u64 0]) (t := 34) ?hr ?_; (case hd => rfl); (case hg => rfl); (case hr => first | (go_simp; done) | (go_simp; rfl)); intro gb540 hg w26 hbox hb; have n0_ := Aside0.mk (blk_below (g := gb534) (o := .cells #[.int .u64 a1_0, .int .u64 a1_1] 43 (0, 0)) (by (with_reducible repeat (first | refine blk_drewN ?_ _ | refine blk_drew ?_ | refine blk_alloc ?_ _)); exact BK534.out) hb); have n1_ := Aside0.mk (below_step (by repeat (first | (with_reducible first | exact HB.out | apply below_alloc | apply pw_below_drewN | apply below_drew1 | refine below_set ?_ GE534.out) | exact HB.out)) hb); have n2_ := Aside0.mk (hbox); have n3_ := Aside0.mk ((by rw [hg]; exact (below_size (by repeat (first | (with_reducible first | exact HB.out | apply below_alloc | apply pw_below_drewN | apply below_drew1 | refine below_set ?_ GE534.out) | exact HB.out))) : w.heap.size ≤ gb540)); have n4_ := Aside0.mk ((by rw [hg]; exact (below_size (by repeat (first | (with_reducible first | exact HB.out | apply below_alloc | apply pw_below_drewN | apply below_drew1 | refine below_set ?_ GE534.out) | exact HB.out))) : w.heap.size ≤ gb540)); have n5_ := Aside0.mk ((by rw [hg]; exact Nat.ne_of_lt (blk_lt (g := gb534) (o := .cells #[.int .u64 a1_0, .int .u64 a1_1] 43 (0, 0)) (by (with_reducible repeat (first | refine blk_drewN ?_ _ | refine blk_drew ?_ | refine blk_alloc ?_ _)); exact BK534.out)) : gb534 ≠ gb540)); have n6_ := Aside0.mk ((by rw [hg]; exact Nat.ne_of_gt (blk_lt (g := gb534) (o := .cells #[.int .u64 a1_0, .int .u64 a1_1] 43 (0, 0)) (by (with_reducible repeat (first | refine blk_drewN ?_ _ | refine blk_drew ?_ | refine blk_alloc ?_ _)); exact BK534.out)) : gb540 ≠ gb534)); clear BK534; clear HB; have BK534 := n0_; have HB := n1_; have BK540 := n2_; have GW540 := n3_; have GE540 := n4_; have NB534_540 := n5_; have NB540_534 := n6_; clear n0_ n1_ n2_ n3_ n4_ n5_ n6_; clear hb hbox hg) | ((with_reducible refine gate_dst (N := 7) rfl ?_); refine box_event ?hg (N := 7) ?hd (cs := #[.int .u64 0, .int .u64 0]) (t := 34) ?hr ?_; (case hd => rfl); (case hg => rfl); (case hr => first | (go_simp; done) | (go_simp; rfl)); intro gb541 hg w27 hbox hb; have n0_ := Aside0.mk (blk_below (g := gb534) (o := .cells #[.int .u64 a1_0, .int .u64 a1_1] 43 (0, 0)) (by (with_reducible repeat (first | refine blk_drewN ?_ _ | refine blk_drew ?_ | refine blk_alloc ?_ _)); exact BK534.out) hb); have n1_ := Aside0.mk (blk_below (g := gb540) (o := .cells #[.int .u64 0, .int .u64 0] 34 (0, 0)) (by (with_reducible repeat (first | refine blk_drewN ?_ _ | refine blk_drew ?_ | refine blk_alloc ?_ _)); exact BK540.out) hb); have n2_ := Aside0.mk (below_step (by repeat (first | (with_reducible first | exact HB.out | apply below_alloc | apply pw_below_drewN | apply below_drew1 | refine below_set ?_ GE534.out | refine below_set ?_ GE540.out) | exact HB.out)) hb); have n3_ := Aside0.mk (hbox); have n4_ := Aside0.mk ((by rw [hg]; exact (below_size (by repeat (first | (with_reducible first | exact HB.out | apply below_alloc | apply pw_below_drewN | apply below_drew1 | refine below_set ?_ GE534.out | refine below_set ?_ GE540.out) | exact HB.out))) : w.heap.size ≤ gb541)); have n5_ := Aside0.mk ((by rw [hg]; exact (below_size (by repeat (first | (with_reducible first | exact HB.out | apply below_alloc | apply pw_below_drewN | apply below_drew1 | refine below_set ?_ GE534.out | refine below_set ?_ GE540.out) | exact HB.out))) : w.heap.size ≤ gb541)); have n6_ := Aside0.mk ((by rw [hg]; exact Nat.ne_of_lt (blk_lt (g := gb534) (o := .cells #[.int .u64 a1_0, .int .u64 a1_1] 43 (0, 0)) (by (with_reducible repeat (first | refine blk_drewN ?_ _ | refine blk_drew ?_ | refine blk_alloc ?_ _)); exact BK534.out)) : gb534 ≠ gb541)); have n7_ := Aside0.mk ((by rw [hg]; exact Nat.ne_of_gt (blk_lt (g := gb534) (o := .cells #[.int .u64 a1_0, .int .u64 a1_1] 43 (0, 0)) (by (with_reducible repeat (first | refine blk_drewN ?_ _ | refine blk_drew ?_ | refine blk_alloc ?_ _)); exact BK534.out)) : gb541 ≠ gb534)); have n8_ := Aside0.mk ((by rw [hg]; exact Nat.ne_of_lt (blk_lt (g := gb540) (o := .cells #[.int .u64 0, .int .u64 0] 34 (0, 0)) (by (with_reducible repeat (first | refine blk_drewN ?_ _ | refine blk_drew ?_ | refine blk_alloc ?_ _)); exact BK540.out)) : gb540 ≠ gb541)); have n9_ := Aside0.mk ((by rw [hg]; exact Nat.ne_of_gt (blk_lt (g := gb540) (o := .cells #[.int .u64 0, .int .u64 0] 34 (0, 0)) (by (with_reducible repeat (first | refine blk_drewN ?_ _ | refine blk_drew ?_ | refine blk_alloc ?_ _)); exact BK540.out)) : gb541 ≠ gb540)); clear BK534; clear BK540; clear HB; have BK534 := n0_; have BK540 := n1_; have HB := n2_; have BK541 := n3_; have GW541 := n4_; have GE541 := n5_; have NB534_541 := n6_; have NB541_534 := n7_; have NB540_541 := n8_; have NB541_540 := n9_; clear n0_ n1_ n2_ n3_ n4_ n5_ n6_ n7_ n8_ n9_; clear hb hbox hg; have hnb28 := NB540_534.out; have hnc28 := NB534_540.out; have hnb29 := NB540_541.out; have hnc29 := NB541_540.out; have hcz30_0 : w27.cell? ⟨gb540, 0, none⟩ = some (.int .u64 0) := (blk_cell BK540.out 0).trans rfl; have hcz30_1 : w27.cell? ⟨gb540, 1, none⟩ = some (.int .u64 0) := (blk_cell BK540.out 1).trans rfl; have hfz30_0 := blk_frozen BK540.out 0; have hfz30_1 := blk_frozen BK540.out 1; have hnb31 := NB541_534.out; have hnc31 := NB534_541.out; have hcz32_0 : w27.cell? ⟨gb541, 0, none⟩ = some (.int .u64 0) := (blk_cell BK541.out 0).trans rfl; have hcz32_1 : w27.cell? ⟨gb541, 1, none⟩ = some (.int .u64 0) := (blk_cell BK541.out 1).trans rfl; have hfz32_0 := blk_frozen BK541.out 0; have hfz32_1 := blk_frozen BK541.out 1; have hcz33_0 : w27.cell? ⟨gb534, 0, none⟩ = some (.int .u64 a1_0) := (blk_cell BK534.out 0).trans rfl; have hcz33_1 : w27.cell? ⟨gb534, 1, none⟩ = some (.int .u64 a1_1) := (blk_cell BK534.out 1).trans rfl; have hfz33_0 := blk_frozen BK534.out 0; have hfz33_1 := blk_frozen BK534.out 1) | ((with_reducible refine gate_builtin (b := .append) (xs := #[.tmp 30, .tmp 37]) rfl ?_); at_builtin; refine Kd.R_append k34 (w0 := w) w.heap.size rfl (.tmp 30) (.tmp 37) 56 34 (.agg #[(.int .u64 0), (.int .u64 0)]) 16 rfl Try.underlying56 info34 rfl (by decide) (by omega) (.slice none 0 0) ([] : List (S34)) (⟨t535, IntKind.u64.wrap (t537 - 1)⟩ : S34) [.int .u64 t535, .int .u64 (IntKind.u64.wrap (t537 - 1))] (fun k_ => k_ ≠ gb540 ∧ k_ ≠ gb541) (fun _ => False) rfl (by first | (go_simp; done) | (go_simp; rfl)) ?aP (fun _ hk => hk.elim) ?aF ?aO ?aB ?aS ?aL ?_; (case aP => exact k34_mkM _ _ _ (⟨t535, IntKind.u64.wrap (t537 - 1)⟩ : S34)); (case aB => exact (by repeat (first | (with_reducible first | exact HB.out | apply below_alloc | apply pw_below_drewN | apply below_drew1 | refine below_set ?_ GE534.out | refine below_set ?_ GE540.out | refine below_set ?_ GE541.out) | exact HB.out))); (case aF => exact (fun k_ hk => ⟨Kd.freshB (g := gb540) (o := .cells #[.int .u64 t535, .int .u64 t536] 34 (0, 0)) (by (with_reducible repeat (first | refine blk_drewN ?_ _ | refine blk_drew ?_ | refine blk_alloc ?_ _)); refine blk_far ?_ NB540_541.out _; (with_reducible repeat (first | refine blk_drewN ?_ _ | refine blk_drew ?_ | refine blk_alloc ?_ _)); refine blk_far ?_ NB540_541.out _; (with_reducible repeat (first | refine blk_drewN ?_ _ | refine blk_drew ?_ | refine blk_alloc ?_ _)); refine blk_put (cs := #[.int .u64 t535, .int .u64 0]) ?_ 1 _ rfl; (with_reducible repeat (first | refine blk_drewN ?_ _ | refine blk_drew ?_ | refine blk_alloc ?_ _)); refine blk_put (cs := #[.int .u64 0, .int .u64 0]) ?_ 0 _ rfl; (with_reducible repeat (first | refine blk_drewN ?_ _ | refine blk_drew ?_ | refine blk_alloc ?_ _)); exact BK540.out) k_ hk, Kd.freshB (g := gb541) (o := .cells #[.int .u64 t537, .int .u64 t538] 34 (0, 0)) (by (with_reducible repeat (first | refine blk_drewN ?_ _ | refine blk_drew ?_ | refine blk_alloc ?_ _)); refine blk_put (cs := #[.int .u64 t537, .int .u64 0]) ?_ 1 _ rfl; (with_reducible repeat (first | refine blk_drewN ?_ _ | refine blk_drew ?_ | refine blk_alloc ?_ _)); refine blk_put (cs := #[.int .u64 0, .int .u64 0]) ?_ 0 _ rfl; (with_reducible repeat (first | refine blk_drewN ?_ _ | refine blk_drew ?_ | refine blk_alloc ?_ _)); refine blk_far ?_ NB541_540.out _; (with_reducible repeat (first | refine blk_drewN ?_ _ | refine blk_drew ?_ | refine blk_alloc ?_ _)); refine blk_far ?_ NB541_540.out _; (with_reducible repeat (first | refine blk_drewN ?_ _ | refine blk_drew ?_ | refine blk_alloc ?_ _)); exact BK541.out) k_ hk⟩)); (case aO => exact ((Kd.R_nil _ _ _ _ (fun k_ => k_ ≠ gb540 ∧ k_ ≠ gb541)))); (case aS => exact (below_size (by repeat (first | (with_reducible first | exact HB.out | apply below_alloc | apply pw_below_drewN | apply below_drew1 | refine below_set ?_ GE534.out | refine below_set ?_ GE540.out | refine below_set ?_ GE541.out) | exact HB.out)))); (case aL => have := LMc20.out; omega); intro v546 w34 ho hb hg hat; rw [← Ny545.out] at ho; have n0_ := Aside0.mk (blk_grown (g := gb534) (o := .cells #[.int .u64 a1_0, .int .u64 a1_1] 43 (0, 0)) (by (with_reducible repeat (first | refine blk_drewN ?_ _ | refine blk_drew ?_ | refine blk_alloc ?_ _)); refine blk_far ?_ NB534_541.out _; (with_reducible repeat (first | refine blk_drewN ?_ _ | refine blk_drew ?_ | refine blk_alloc ?_ _)); refine blk_far ?_ NB534_541.out _; (with_reducible repeat (first | refine blk_drewN ?_ _ | refine blk_drew ?_ | refine blk_alloc ?_ _)); refine blk_far ?_ NB534_540.out _; (with_reducible repeat (first | refine blk_drewN ?_ _ | refine blk_drew ?_ | refine blk_alloc ?_ _)); refine blk_far ?_ NB534_540.out _; (with_reducible repeat (first | refine blk_drewN ?_ _ | refine blk_drew ?_ | refine blk_alloc ?_ _)); exact BK534.out) hg (by simp [Value.ownBlock])); have n1_ := Aside0.mk (blk_grown (g := gb540) (o := .cells #[.int .u64 t535, .int .u64 t536] 34 (0, 0)) (by (with_reducible repeat (first | refine blk_drewN ?_ _ | refine blk_drew ?_ | refine blk_alloc ?_ _)); refine blk_far ?_ NB540_541.out _; (with_reducible repeat (first | refine blk_drewN ?_ _ | refine blk_drew ?_ | refine blk_alloc ?_ _)); refine blk_far ?_ NB540_541.out _; (with_reducible repeat (first | refine blk_drewN ?_ _ | refine blk_drew ?_ | refine blk_alloc ?_ _)); refine blk_put (cs := #[.int .u64 t535, .int .u64 0]) ?_ 1 _ rfl; (with_reducible repeat (first | refine blk_drewN ?_ _ | refine blk_drew ?_ | refine blk_alloc ?_ _)); refine blk_put (cs := #[.int .u64 0, .int .u64 0]) ?_ 0 _ rfl; (with_reducible repeat (first | refine blk_drewN ?_ _ | refine blk_drew ?_ | refine blk_alloc ?_ _)); exact BK540.out) hg (by simp [Value.ownBlock])); have n2_ := Aside0.mk (blk_grown (g := gb541) (o := .cells #[.int .u64 t537, .int .u64 t538] 34 (0, 0)) (by (with_reducible repeat (first | refine blk_drewN ?_ _ | refine blk_drew ?_ | refine blk_alloc ?_ _)); refine blk_put (cs := #[.int .u64 t537, .int .u64 0]) ?_ 1 _ rfl; (with_reducible repeat (first | refine blk_drewN ?_ _ | refine blk_drew ?_ | refine blk_alloc ?_ _)); refine blk_put (cs := #[.int .u64 0, .int .u64 0]) ?_ 0 _ rfl; (with_reducible repeat (first | refine blk_drewN ?_ _ | refine blk_drew ?_ | refine blk_alloc ?_ _)); refine blk_far ?_ NB541_540.out _; (with_reducible repeat (first | refine blk_drewN ?_ _ | refine blk_drew ?_ | refine blk_alloc ?_ _)); refine blk_far ?_ NB541_540.out _; (with_reducible repeat (first | refine blk_drewN ?_ _ | refine blk_drew ?_ | refine blk_alloc ?_ _)); exact BK541.out) hg (by simp [Value.ownBlock])); have n3_ := Aside0.mk (hb); have n4_ := Aside0.mk (ho); clear BK534; clear BK540; clear BK541; clear HB; have BK534 := n0_; have BK540 := n1_; have BK541 := n2_; have HB := n3_; have HO547 := n4_; clear n0_ n1_ n2_ n3_ n4_; clear ho hb hg hat; have hcz35_0 : w34.cell? ⟨gb541, 0, none⟩ = some (.int .u64 t537) := (blk_cell BK541.out 0).trans rfl; have hcz35_1 : w34.cell? ⟨gb541, 1, none⟩ = some (.int .u64 t538) := (blk_cell BK541.out 1).trans rfl; have hfz35_0 := blk_frozen BK541.out 0; have hfz35_1 := blk_frozen BK541.out 1; have hcz36_0 : w34.cell? ⟨gb540, 0, none⟩ = some (.int .u64 t535) := (blk_cell BK540.out 0).trans rfl; have hcz36_1 : w34.cell? ⟨gb540, 1, none⟩ = some (.int .u64 t536) := (blk_cell BK540.out 1).trans rfl; have hfz36_0 := blk_frozen BK540.out 0; have hfz36_1 := blk_frozen BK540.out 1) | ((with_reducible refine gate_builtin (b := .append) (xs := #[.tmp 44, .tmp 51]) rfl ?_); at_builtin; refine Kd.R_append k34 (w0 := w) w.heap.size rfl (.tmp 44) (.tmp 51) 56 34 (.agg #[(.int .u64 0), (.int .u64 0)]) 16 rfl Try.underlying56 info34 rfl (by decide) (by omega) v546 y545 (⟨IntKind.u64.wrap (t538 + 1), t536⟩ : S34) [.int .u64 (IntKind.u64.wrap (t538 + 1)), .int .u64 t536] (fun k_ => k_ ≠ gb540 ∧ k_ ≠ gb541) (fun _ => False) rfl rfl ?aP (fun _ hk => hk.elim) ?aF ?aO ?aB ?aS ?aL ?_; (case aP => exact k34_mkM _ _ _ (⟨IntKind.u64.wrap (t538 + 1), t536⟩ : S34)); (case aB => exact (by repeat (first | (with_reducible first | exact HB.out | apply below_alloc | apply pw_below_drewN | apply below_drew1 | refine below_set ?_ GE534.out | refine below_set ?_ GE540.out | refine below_set ?_ GE541.out) | exact HB.out))); (case aF => exact (fun k_ hk => ⟨Kd.freshB (g := gb540) (o := .cells #[.int .u64 t535, .int .u64 t536] 34 (0, 0)) (by (with_reducible repeat (first | refine blk_drewN ?_ _ | refine blk_drew ?_ | refine blk_alloc ?_ _)); exact BK540.out) k_ hk, Kd.freshB (g := gb541) (o := .cells #[.int .u64 t537, .int .u64 t538] 34 (0, 0)) (by (with_reducible repeat (first | refine blk_drewN ?_ _ | refine blk_drew ?_ | refine blk_alloc ?_ _)); exact BK541.out) k_ hk⟩)); (case aO => exact (by (with_reducible repeat (first | apply Kd.R_alloc | apply Kd.R_drewN | apply Kd.R_drew)); exact HO547.out)); (case aS => exact (below_size (by repeat (first | (with_reducible first | exact HB.out | apply below_alloc | apply pw_below_drewN | apply below_drew1 | refine below_set ?_ GE534.out | refine below_set ?_ GE540.out | refine below_set ?_ GE541.out) | exact HB.out)))); (case aL => have := LMc22.out; omega); intro v549 w37 ho hb hg hat; rw [← Ny548.out] at ho; have n0_ := Aside0.mk (blk_grown (g := gb534) (o := .cells #[.int .u64 a1_0, .int .u64 a1_1] 43 (0, 0)) (by (with_reducible repeat (first | refine blk_drewN ?_ _ | refine blk_drew ?_ | refine blk_alloc ?_ _)); exact BK534.out) hg (Kd.R_ne HO547.out BK534.out (by decide))); have n1_ := Aside0.mk (blk_grown (g := gb540) (o := .cells #[.int .u64 t535, .int .u64 t536] 34 (0, 0)) (by (with_reducible repeat (first | refine blk_drewN ?_ _ | refine blk_drew ?_ | refine blk_alloc ?_ _)); exact BK540.out) hg (Kd.R_away HO547.out (fun _ hk => hk.1))); have n2_ := Aside0.mk (blk_grown (g := gb541) (o := .cells #[.int .u64 t537, .int .u64 t538] 34 (0, 0)) (by (with_reducible repeat (first | refine blk_drewN ?_ _ | refine blk_drew ?_ | refine blk_alloc ?_ _)); exact BK541.out) hg (Kd.R_away HO547.out (fun _ hk => hk.2))); have n3_ := Aside0.mk (hb); have n4_ := Aside0.mk (ho); clear BK534; clear BK540; clear BK541; clear HB; clear HO547; have BK534 := n0_; have BK540 := n1_; have BK541 := n2_; have HB := n3_; have HO550 := n4_; clear n0_ n1_ n2_ n3_ n4_; clear ho hb hg hat))
              go_ret2
              exact ⟨_, by first | rfl | (simp [errW_none, errW_some] <;> rfl) | (simp [*, errW_none, errW_some] <;> rfl), by (with_reducible repeat (first | apply Kd.R_alloc | apply Kd.R_drewN | apply Kd.R_drew)); exact Kd.R_mono HO550.out (fun _ hk => trivial), by repeat (first | (with_reducible first | exact HB.out | apply below_alloc | apply pw_below_drewN | apply below_drew1 | refine below_set ?_ GE534.out | refine below_set ?_ GE540.out | refine below_set ?_ GE541.out) | exact HB.out)⟩
            · rw [if_neg c22] at H
              exact absurd H (by simp)
          · rw [if_neg c21] at H
            have c21b0 : decide (t538 < t536) = false := decide_eq_false c21
            clear c21
            simp only [Option.some.injEq, Prod.mk.injEq] at H
            obtain ⟨rfl, rfl⟩ := H
            go_enter Try.func41, Try.ntmps41
            go_wp2_with (first | ((with_reducible refine gate_dst (N := 3) rfl ?_); refine box_event ?hg (N := 3) ?hd (cs := #[.int .u64 a1_0, .int .u64 a1_1]) (t := 43) ?hr ?_; (case hd => rfl); (case hg => rfl); (case hr => first | (go_simp; done) | (go_simp; rfl)); intro gb534 hg w38 hbox hb; have n0_ := Aside0.mk (below_step (by repeat (first | (with_reducible first | exact HB.out | apply below_alloc | apply pw_below_drewN | apply below_drew1) | exact HB.out)) hb); have n1_ := Aside0.mk (hbox); have n2_ := Aside0.mk ((by rw [hg]; exact (below_size (by repeat (first | (with_reducible first | exact HB.out | apply below_alloc | apply pw_below_drewN | apply below_drew1) | exact HB.out))) : w.heap.size ≤ gb534)); have n3_ := Aside0.mk ((by rw [hg]; exact (below_size (by repeat (first | (with_reducible first | exact HB.out | apply below_alloc | apply pw_below_drewN | apply below_drew1) | exact HB.out))) : w.heap.size ≤ gb534)); clear HB; have HB := n0_; have BK534 := n1_; have GW534 := n2_; have GE534 := n3_; clear n0_ n1_ n2_ n3_; clear hb hbox hg; have hcz39_0 : w38.cell? ⟨gb534, 0, none⟩ = some (.int .u64 a1_0) := (blk_cell BK534.out 0).trans rfl; have hcz39_1 : w38.cell? ⟨gb534, 1, none⟩ = some (.int .u64 a1_1) := (blk_cell BK534.out 1).trans rfl; have hfz39_0 := blk_frozen BK534.out 0; have hfz39_1 := blk_frozen BK534.out 1) | ((with_reducible refine gate_callee (f := 70) rfl ?_); refine goesL_ (some 11) rfl rfl Try.func70 (by kernel_rfl) rfl #[.int .i64 a0, .agg #[.int .u64 a1_0, .int .u64 a1_1]] rfl (by (try simp only [List.map_toArray, List.map_cons, List.map_nil]); first | done | rfl | (simp only [List.length_drop, List.length_take]; rfl)) ?_; (with_reducible refine (sub_both.calls k a0 a1_0 a1_1 t535 t536 t537 t538 t539 _ A3.out).mono ?_); rintro e w40 ⟨rfl, hb⟩; refine ⟨_, rfl, ?_⟩; have n0_ := Aside0.mk (blk_below (g := gb534) (o := .cells #[.int .u64 a1_0, .int .u64 a1_1] 43 (0, 0)) (by (with_reducible repeat (first | refine blk_drewN ?_ _ | refine blk_drew ?_ | refine blk_alloc ?_ _)); exact BK534.out) hb); have n1_ := Aside0.mk (below_step (by repeat (first | (with_reducible first | exact HB.out | apply below_alloc | apply pw_below_drewN | apply below_drew1 | refine below_set ?_ GE534.out) | exact HB.out)) hb); clear BK534; clear HB; have BK534 := n0_; have HB := n1_; clear n0_ n1_; (try clear hb); (try clear hb2); (try clear hk); (try clear hi)) | ((with_reducible refine gate_dst (N := 6) rfl ?_); refine box_event ?hg (N := 6) ?hd (cs := #[.int .u64 0, .int .u64 0]) (t := 34) ?hr ?_; (case hd => rfl); (case hg => rfl); (case hr => first | (go_simp; done) | (go_simp; rfl)); intro gb540 hg w41 hbox hb; have n0_ := Aside0.mk (blk_below (g := gb534) (o := .cells #[.int .u64 a1_0, .int .u64 a1_1] 43 (0, 0)) (by (with_reducible repeat (first | refine blk_drewN ?_ _ | refine blk_drew ?_ | refine blk_alloc ?_ _)); exact BK534.out) hb); have n1_ := Aside0.mk (below_step (by repeat (first | (with_reducible first | exact HB.out | apply below_alloc | apply pw_below_drewN | apply below_drew1 | refine below_set ?_ GE534.out) | exact HB.out)) hb); have n2_ := Aside0.mk (hbox); have n3_ := Aside0.mk ((by rw [hg]; exact (below_size (by repeat (first | (with_reducible first | exact HB.out | apply below_alloc | apply pw_below_drewN | apply below_drew1 | refine below_set ?_ GE534.out) | exact HB.out))) : w.heap.size ≤ gb540)); have n4_ := Aside0.mk ((by rw [hg]; exact (below_size (by repeat (first | (with_reducible first | exact HB.out | apply below_alloc | apply pw_below_drewN | apply below_drew1 | refine below_set ?_ GE534.out) | exact HB.out))) : w.heap.size ≤ gb540)); have n5_ := Aside0.mk ((by rw [hg]; exact Nat.ne_of_lt (blk_lt (g := gb534) (o := .cells #[.int .u64 a1_0, .int .u64 a1_1] 43 (0, 0)) (by (with_reducible repeat (first | refine blk_drewN ?_ _ | refine blk_drew ?_ | refine blk_alloc ?_ _)); exact BK534.out)) : gb534 ≠ gb540)); have n6_ := Aside0.mk ((by rw [hg]; exact Nat.ne_of_gt (blk_lt (g := gb534) (o := .cells #[.int .u64 a1_0, .int .u64 a1_1] 43 (0, 0)) (by (with_reducible repeat (first | refine blk_drewN ?_ _ | refine blk_drew ?_ | refine blk_alloc ?_ _)); exact BK534.out)) : gb540 ≠ gb534)); clear BK534; clear HB; have BK534 := n0_; have HB := n1_; have BK540 := n2_; have GW540 := n3_; have GE540 := n4_; have NB534_540 := n5_; have NB540_534 := n6_; clear n0_ n1_ n2_ n3_ n4_ n5_ n6_; clear hb hbox hg) | ((with_reducible refine gate_dst (N := 7) rfl ?_); refine box_event ?hg (N := 7) ?hd (cs := #[.int .u64 0, .int .u64 0]) (t := 34) ?hr ?_; (case hd => rfl); (case hg => rfl); (case hr => first | (go_simp; done) | (go_simp; rfl)); intro gb541 hg w42 hbox hb; have n0_ := Aside0.mk (blk_below (g := gb534) (o := .cells #[.int .u64 a1_0, .int .u64 a1_1] 43 (0, 0)) (by (with_reducible repeat (first | refine blk_drewN ?_ _ | refine blk_drew ?_ | refine blk_alloc ?_ _)); exact BK534.out) hb); have n1_ := Aside0.mk (blk_below (g := gb540) (o := .cells #[.int .u64 0, .int .u64 0] 34 (0, 0)) (by (with_reducible repeat (first | refine blk_drewN ?_ _ | refine blk_drew ?_ | refine blk_alloc ?_ _)); exact BK540.out) hb); have n2_ := Aside0.mk (below_step (by repeat (first | (with_reducible first | exact HB.out | apply below_alloc | apply pw_below_drewN | apply below_drew1 | refine below_set ?_ GE534.out | refine below_set ?_ GE540.out) | exact HB.out)) hb); have n3_ := Aside0.mk (hbox); have n4_ := Aside0.mk ((by rw [hg]; exact (below_size (by repeat (first | (with_reducible first | exact HB.out | apply below_alloc | apply pw_below_drewN | apply below_drew1 | refine below_set ?_ GE534.out | refine below_set ?_ GE540.out) | exact HB.out))) : w.heap.size ≤ gb541)); have n5_ := Aside0.mk ((by rw [hg]; exact (below_size (by repeat (first | (with_reducible first | exact HB.out | apply below_alloc | apply pw_below_drewN | apply below_drew1 | refine below_set ?_ GE534.out | refine below_set ?_ GE540.out) | exact HB.out))) : w.heap.size ≤ gb541)); have n6_ := Aside0.mk ((by rw [hg]; exact Nat.ne_of_lt (blk_lt (g := gb534) (o := .cells #[.int .u64 a1_0, .int .u64 a1_1] 43 (0, 0)) (by (with_reducible repeat (first | refine blk_drewN ?_ _ | refine blk_drew ?_ | refine blk_alloc ?_ _)); exact BK534.out)) : gb534 ≠ gb541)); have n7_ := Aside0.mk ((by rw [hg]; exact Nat.ne_of_gt (blk_lt (g := gb534) (o := .cells #[.int .u64 a1_0, .int .u64 a1_1] 43 (0, 0)) (by (with_reducible repeat (first | refine blk_drewN ?_ _ | refine blk_drew ?_ | refine blk_alloc ?_ _)); exact BK534.out)) : gb541 ≠ gb534)); have n8_ := Aside0.mk ((by rw [hg]; exact Nat.ne_of_lt (blk_lt (g := gb540) (o := .cells #[.int .u64 0, .int .u64 0] 34 (0, 0)) (by (with_reducible repeat (first | refine blk_drewN ?_ _ | refine blk_drew ?_ | refine blk_alloc ?_ _)); exact BK540.out)) : gb540 ≠ gb541)); have n9_ := Aside0.mk ((by rw [hg]; exact Nat.ne_of_gt (blk_lt (g := gb540) (o := .cells #[.int .u64 0, .int .u64 0] 34 (0, 0)) (by (with_reducible repeat (first | refine blk_drewN ?_ _ | refine blk_drew ?_ | refine blk_alloc ?_ _)); exact BK540.out)) : gb541 ≠ gb540)); clear BK534; clear BK540; clear HB; have BK534 := n0_; have BK540 := n1_; have HB := n2_; have BK541 := n3_; have GW541 := n4_; have GE541 := n5_; have NB534_541 := n6_; have NB541_534 := n7_; have NB540_541 := n8_; have NB541_540 := n9_; clear n0_ n1_ n2_ n3_ n4_ n5_ n6_ n7_ n8_ n9_; clear hb hbox hg; have hnb43 := NB540_534.out; have hnc43 := NB534_540.out; have hnb44 := NB540_541.out; have hnc44 := NB541_540.out; have hcz45_0 : w42.cell? ⟨gb540, 0, none⟩ = some (.int .u64 0) := (blk_cell BK540.out 0).trans rfl; have hcz45_1 : w42.cell? ⟨gb540, 1, none⟩ = some (.int .u64 0) := (blk_cell BK540.out 1).trans rfl; have hfz45_0 := blk_frozen BK540.out 0; have hfz45_1 := blk_frozen BK540.out 1; have hnb46 := NB541_534.out; have hnc46 := NB534_541.out; have hcz47_0 : w42.cell? ⟨gb541, 0, none⟩ = some (.int .u64 0) := (blk_cell BK541.out 0).trans rfl; have hcz47_1 : w42.cell? ⟨gb541, 1, none⟩ = some (.int .u64 0) := (blk_cell BK541.out 1).trans rfl; have hfz47_0 := blk_frozen BK541.out 0; have hfz47_1 := blk_frozen BK541.out 1; have hcz48_0 : w42.cell? ⟨gb534, 0, none⟩ = some (.int .u64 a1_0) := (blk_cell BK534.out 0).trans rfl; have hcz48_1 : w42.cell? ⟨gb534, 1, none⟩ = some (.int .u64 a1_1) := (blk_cell BK534.out 1).trans rfl; have hfz48_0 := blk_frozen BK534.out 0; have hfz48_1 := blk_frozen BK534.out 1) | ((with_reducible refine gate_builtin (b := .append) (xs := #[.tmp 30, .tmp 37]) rfl ?_); at_builtin; refine Kd.R_append k34 (w0 := w) w.heap.size rfl (.tmp 30) (.tmp 37) 56 34 (.agg #[(.int .u64 0), (.int .u64 0)]) 16 rfl Try.underlying56 info34 rfl (by decide) (by omega) (.slice none 0 0) ([] : List (S34)) (⟨t535, IntKind.u64.wrap (t537 - 1)⟩ : S34) [.int .u64 t535, .int .u64 (IntKind.u64.wrap (t537 - 1))] (fun k_ => k_ ≠ gb540 ∧ k_ ≠ gb541) (fun _ => False) rfl (by first | (go_simp; done) | (go_simp; rfl)) ?aP (fun _ hk => hk.elim) ?aF ?aO ?aB ?aS ?aL ?_; (case aP => exact k34_mkM _ _ _ (⟨t535, IntKind.u64.wrap (t537 - 1)⟩ : S34)); (case aB => exact (by repeat (first | (with_reducible first | exact HB.out | apply below_alloc | apply pw_below_drewN | apply below_drew1 | refine below_set ?_ GE534.out | refine below_set ?_ GE540.out | refine below_set ?_ GE541.out) | exact HB.out))); (case aF => exact (fun k_ hk => ⟨Kd.freshB (g := gb540) (o := .cells #[.int .u64 t535, .int .u64 t536] 34 (0, 0)) (by (with_reducible repeat (first | refine blk_drewN ?_ _ | refine blk_drew ?_ | refine blk_alloc ?_ _)); refine blk_far ?_ NB540_541.out _; (with_reducible repeat (first | refine blk_drewN ?_ _ | refine blk_drew ?_ | refine blk_alloc ?_ _)); refine blk_far ?_ NB540_541.out _; (with_reducible repeat (first | refine blk_drewN ?_ _ | refine blk_drew ?_ | refine blk_alloc ?_ _)); refine blk_put (cs := #[.int .u64 t535, .int .u64 0]) ?_ 1 _ rfl; (with_reducible repeat (first | refine blk_drewN ?_ _ | refine blk_drew ?_ | refine blk_alloc ?_ _)); refine blk_put (cs := #[.int .u64 0, .int .u64 0]) ?_ 0 _ rfl; (with_reducible repeat (first | refine blk_drewN ?_ _ | refine blk_drew ?_ | refine blk_alloc ?_ _)); exact BK540.out) k_ hk, Kd.freshB (g := gb541) (o := .cells #[.int .u64 t537, .int .u64 t538] 34 (0, 0)) (by (with_reducible repeat (first | refine blk_drewN ?_ _ | refine blk_drew ?_ | refine blk_alloc ?_ _)); refine blk_put (cs := #[.int .u64 t537, .int .u64 0]) ?_ 1 _ rfl; (with_reducible repeat (first | refine blk_drewN ?_ _ | refine blk_drew ?_ | refine blk_alloc ?_ _)); refine blk_put (cs := #[.int .u64 0, .int .u64 0]) ?_ 0 _ rfl; (with_reducible repeat (first | refine blk_drewN ?_ _ | refine blk_drew ?_ | refine blk_alloc ?_ _)); refine blk_far ?_ NB541_540.out _; (with_reducible repeat (first | refine blk_drewN ?_ _ | refine blk_drew ?_ | refine blk_alloc ?_ _)); refine blk_far ?_ NB541_540.out _; (with_reducible repeat (first | refine blk_drewN ?_ _ | refine blk_drew ?_ | refine blk_alloc ?_ _)); exact BK541.out) k_ hk⟩)); (case aO => exact ((Kd.R_nil _ _ _ _ (fun k_ => k_ ≠ gb540 ∧ k_ ≠ gb541)))); (case aS => exact (below_size (by repeat (first | (with_reducible first | exact HB.out | apply below_alloc | apply pw_below_drewN | apply below_drew1 | refine below_set ?_ GE534.out | refine below_set ?_ GE540.out | refine below_set ?_ GE541.out) | exact HB.out)))); (case aL => have := LMc20.out; omega); intro v546 w49 ho hb hg hat; rw [← Ny545.out] at ho; have n0_ := Aside0.mk (blk_grown (g := gb534) (o := .cells #[.int .u64 a1_0, .int .u64 a1_1] 43 (0, 0)) (by (with_reducible repeat (first | refine blk_drewN ?_ _ | refine blk_drew ?_ | refine blk_alloc ?_ _)); refine blk_far ?_ NB534_541.out _; (with_reducible repeat (first | refine blk_drewN ?_ _ | refine blk_drew ?_ | refine blk_alloc ?_ _)); refine blk_far ?_ NB534_541.out _; (with_reducible repeat (first | refine blk_drewN ?_ _ | refine blk_drew ?_ | refine blk_alloc ?_ _)); refine blk_far ?_ NB534_540.out _; (with_reducible repeat (first | refine blk_drewN ?_ _ | refine blk_drew ?_ | refine blk_alloc ?_ _)); refine blk_far ?_ NB534_540.out _; (with_reducible repeat (first | refine blk_drewN ?_ _ | refine blk_drew ?_ | refine blk_alloc ?_ _)); exact BK534.out) hg (by simp [Value.ownBlock])); have n1_ := Aside0.mk (blk_grown (g := gb540) (o := .cells #[.int .u64 t535, .int .u64 t536] 34 (0, 0)) (by (with_reducible repeat (first | refine blk_drewN ?_ _ | refine blk_drew ?_ | refine blk_alloc ?_ _)); refine blk_far ?_ NB540_541.out _; (with_reducible repeat (first | refine blk_drewN ?_ _ | refine blk_drew ?_ | refine blk_alloc ?_ _)); refine blk_far ?_ NB540_541.out _; (with_reducible repeat (first | refine blk_drewN ?_ _ | refine blk_drew ?_ | refine blk_alloc ?_ _)); refine blk_put (cs := #[.int .u64 t535, .int .u64 0]) ?_ 1 _ rfl; (with_reducible repeat (first | refine blk_drewN ?_ _ | refine blk_drew ?_ | refine blk_alloc ?_ _)); refine blk_put (cs := #[.int .u64 0, .int .u64 0]) ?_ 0 _ rfl; (with_reducible repeat (first | refine blk_drewN ?_ _ | refine blk_drew ?_ | refine blk_alloc ?_ _)); exact BK540.out) hg (by simp [Value.ownBlock])); have n2_ := Aside0.mk (blk_grown (g := gb541) (o := .cells #[.int .u64 t537, .int .u64 t538] 34 (0, 0)) (by (with_reducible repeat (first | refine blk_drewN ?_ _ | refine blk_drew ?_ | refine blk_alloc ?_ _)); refine blk_put (cs := #[.int .u64 t537, .int .u64 0]) ?_ 1 _ rfl; (with_reducible repeat (first | refine blk_drewN ?_ _ | refine blk_drew ?_ | refine blk_alloc ?_ _)); refine blk_put (cs := #[.int .u64 0, .int .u64 0]) ?_ 0 _ rfl; (with_reducible repeat (first | refine blk_drewN ?_ _ | refine blk_drew ?_ | refine blk_alloc ?_ _)); refine blk_far ?_ NB541_540.out _; (with_reducible repeat (first | refine blk_drewN ?_ _ | refine blk_drew ?_ | refine blk_alloc ?_ _)); refine blk_far ?_ NB541_540.out _; (with_reducible repeat (first | refine blk_drewN ?_ _ | refine blk_drew ?_ | refine blk_alloc ?_ _)); exact BK541.out) hg (by simp [Value.ownBlock])); have n3_ := Aside0.mk (hb); have n4_ := Aside0.mk (ho); clear BK534; clear BK540; clear BK541; clear HB; have BK534 := n0_; have BK540 := n1_; have BK541 := n2_; have HB := n3_; have HO547 := n4_; clear n0_ n1_ n2_ n3_ n4_; clear ho hb hg hat; have hcz50_0 : w49.cell? ⟨gb541, 0, none⟩ = some (.int .u64 t537) := (blk_cell BK541.out 0).trans rfl; have hcz50_1 : w49.cell? ⟨gb541, 1, none⟩ = some (.int .u64 t538) := (blk_cell BK541.out 1).trans rfl; have hfz50_0 := blk_frozen BK541.out 0; have hfz50_1 := blk_frozen BK541.out 1; have hcz51_0 : w49.cell? ⟨gb540, 0, none⟩ = some (.int .u64 t535) := (blk_cell BK540.out 0).trans rfl; have hcz51_1 : w49.cell? ⟨gb540, 1, none⟩ = some (.int .u64 t536) := (blk_cell BK540.out 1).trans rfl; have hfz51_0 := blk_frozen BK540.out 0; have hfz51_1 := blk_frozen BK540.out 1))
            go_ret2
            exact ⟨_, by first | rfl | (simp [errW_none, errW_some] <;> rfl) | (simp [*, errW_none, errW_some] <;> rfl), by (with_reducible repeat (first | apply Kd.R_alloc | apply Kd.R_drewN | apply Kd.R_drew)); exact Kd.R_mono HO547.out (fun _ hk => trivial), by repeat (first | (with_reducible first | exact HB.out | apply below_alloc | apply pw_below_drewN | apply below_drew1 | refine below_set ?_ GE534.out | refine below_set ?_ GE540.out | refine below_set ?_ GE541.out) | exact HB.out)⟩
        · rw [if_neg c20] at H
          exact absurd H (by simp)
      · rw [if_neg c19] at H
        have c19b0 : decide (t535 < t537) = false := decide_eq_false c19
        clear c19
        by_cases c52 : t538 < t536
        · rw [if_pos c52] at H
          have c52b0 : decide (t538 < t536) = true := decide_eq_true c52
          clear c52
          by_cases c53 : ([] : List (S34)).length < 8796093022208
          · rw [if_pos c53] at H
            have LMc53 := Aside0.mk c53
            clear c53
            obtain ⟨y551, hy551⟩ : ∃ y_ : List (S34), y_ = (([] : List (S34)) ++ [(⟨IntKind.u64.wrap (t538 + 1), t536⟩ : S34)]) := ⟨_, rfl⟩
            replace H : (some (y551, 0)) = some (r1, r2) := by first | (rw [hy551]; with_reducible exact H) | (have H2_ := (Option.bind_some _ _).symm.trans H; rw [hy551]; with_reducible exact H2_) | (have H2_ := (Option.bind_some _ _).symm.trans H; with_reducible exact H2_) | with_reducible exact H | (rw [hy551]; exact H) | exact H
            have Ny551 := Aside0.mk hy551
            clear hy551
            simp only [Option.some.injEq, Prod.mk.injEq] at H
            obtain ⟨rfl, rfl⟩ := H
            go_enter Try.func41, Try.ntmps41
            go_wp2_with (first | ((with_reducible refine gate_dst (N := 3) rfl ?_); refine box_event ?hg (N := 3) ?hd (cs := #[.int .u64 a1_0, .int .u64 a1_1]) (t := 43) ?hr ?_; (case hd => rfl); (case hg => rfl); (case hr => first | (go_simp; done) | (go_simp; rfl)); intro gb534 hg w54 hbox hb; have n0_ := Aside0.mk (below_step (by repeat (first | (with_reducible first | exact HB.out | apply below_alloc | apply pw_below_drewN | apply below_drew1) | exact HB.out)) hb); have n1_ := Aside0.mk (hbox); have n2_ := Aside0.mk ((by rw [hg]; exact (below_size (by repeat (first | (with_reducible first | exact HB.out | apply below_alloc | apply pw_below_drewN | apply below_drew1) | exact HB.out))) : w.heap.size ≤ gb534)); have n3_ := Aside0.mk ((by rw [hg]; exact (below_size (by repeat (first | (with_reducible first | exact HB.out | apply below_alloc | apply pw_below_drewN | apply below_drew1) | exact HB.out))) : w.heap.size ≤ gb534)); clear HB; have HB := n0_; have BK534 := n1_; have GW534 := n2_; have GE534 := n3_; clear n0_ n1_ n2_ n3_; clear hb hbox hg; have hcz55_0 : w54.cell? ⟨gb534, 0, none⟩ = some (.int .u64 a1_0) := (blk_cell BK534.out 0).trans rfl; have hcz55_1 : w54.cell? ⟨gb534, 1, none⟩ = some (.int .u64 a1_1) := (blk_cell BK534.out 1).trans rfl; have hfz55_0 := blk_frozen BK534.out 0; have hfz55_1 := blk_frozen BK534.out 1) | ((with_reducible refine gate_callee (f := 70) rfl ?_); refine goesL_ (some 11) rfl rfl Try.func70 (by kernel_rfl) rfl #[.int .i64 a0, .agg #[.int .u64 a1_0, .int .u64 a1_1]] rfl (by (try simp only [List.map_toArray, List.map_cons, List.map_nil]); first | done | rfl | (simp only [List.length_drop, List.length_take]; rfl)) ?_; (with_reducible refine (sub_both.calls k a0 a1_0 a1_1 t535 t536 t537 t538 t539 _ A3.out).mono ?_); rintro e w56 ⟨rfl, hb⟩; refine ⟨_, rfl, ?_⟩; have n0_ := Aside0.mk (blk_below (g := gb534) (o := .cells #[.int .u64 a1_0, .int .u64 a1_1] 43 (0, 0)) (by (with_reducible repeat (first | refine blk_drewN ?_ _ | refine blk_drew ?_ | refine blk_alloc ?_ _)); exact BK534.out) hb); have n1_ := Aside0.mk (below_step (by repeat (first | (with_reducible first | exact HB.out | apply below_alloc | apply pw_below_drewN | apply below_drew1 | refine below_set ?_ GE534.out) | exact HB.out)) hb); clear BK534; clear HB; have BK534 := n0_; have HB := n1_; clear n0_ n1_; (try clear hb); (try clear hb2); (try clear hk); (try clear hi)) | ((with_reducible refine gate_dst (N := 6) rfl ?_); refine box_event ?hg (N := 6) ?hd (cs := #[.int .u64 0, .int .u64 0]) (t := 34) ?hr ?_; (case hd => rfl); (case hg => rfl); (case hr => first | (go_simp; done) | (go_simp; rfl)); intro gb540 hg w57 hbox hb; have n0_ := Aside0.mk (blk_below (g := gb534) (o := .cells #[.int .u64 a1_0, .int .u64 a1_1] 43 (0, 0)) (by (with_reducible repeat (first | refine blk_drewN ?_ _ | refine blk_drew ?_ | refine blk_alloc ?_ _)); exact BK534.out) hb); have n1_ := Aside0.mk (below_step (by repeat (first | (with_reducible first | exact HB.out | apply below_alloc | apply pw_below_drewN | apply below_drew1 | refine below_set ?_ GE534.out) | exact HB.out)) hb); have n2_ := Aside0.mk (hbox); have n3_ := Aside0.mk ((by rw [hg]; exact (below_size (by repeat (first | (with_reducible first | exact HB.out | apply below_alloc | apply pw_below_drewN | apply below_drew1 | refine below_set ?_ GE534.out) | exact HB.out))) : w.heap.size ≤ gb540)); have n4_ := Aside0.mk ((by rw [hg]; exact (below_size (by repeat (first | (with_reducible first | exact HB.out | apply below_alloc | apply pw_below_drewN | apply below_drew1 | refine below_set ?_ GE534.out) | exact HB.out))) : w.heap.size ≤ gb540)); have n5_ := Aside0.mk ((by rw [hg]; exact Nat.ne_of_lt (blk_lt (g := gb534) (o := .cells #[.int .u64 a1_0, .int .u64 a1_1] 43 (0, 0)) (by (with_reducible repeat (first | refine blk_drewN ?_ _ | refine blk_drew ?_ | refine blk_alloc ?_ _)); exact BK534.out)) : gb534 ≠ gb540)); have n6_ := Aside0.mk ((by rw [hg]; exact Nat.ne_of_gt (blk_lt (g := gb534) (o := .cells #[.int .u64 a1_0, .int .u64 a1_1] 43 (0, 0)) (by (with_reducible repeat (first | refine blk_drewN ?_ _ | refine blk_drew ?_ | refine blk_alloc ?_ _)); exact BK534.out)) : gb540 ≠ gb534)); clear BK534; clear HB; have BK534 := n0_; have HB := n1_; have BK540 := n2_; have GW540 := n3_; have GE540 := n4_; have NB534_540 := n5_; have NB540_534 := n6_; clear n0_ n1_ n2_ n3_ n4_ n5_ n6_; clear hb hbox hg) | ((with_reducible refine gate_dst (N := 7) rfl ?_); refine box_event ?hg (N := 7) ?hd (cs := #[.int .u64 0, .int .u64 0]) (t := 34) ?hr ?_; (case hd => rfl); (case hg => rfl); (case hr => first | (go_simp; done) | (go_simp; rfl)); intro gb541 hg w58 hbox hb; have n0_ := Aside0.mk (blk_below (g := gb534) (o := .cells #[.int .u64 a1_0, .int .u64 a1_1] 43 (0, 0)) (by (with_reducible repeat (first | refine blk_drewN ?_ _ | refine blk_drew ?_ | refine blk_alloc ?_ _)); exact BK534.out) hb); have n1_ := Aside0.mk (blk_below (g := gb540) (o := .cells #[.int .u64 0, .int .u64 0] 34 (0, 0)) (by (with_reducible repeat (first | refine blk_drewN ?_ _ | refine blk_drew ?_ | refine blk_alloc ?_ _)); exact BK540.out) hb); have n2_ := Aside0.mk (below_step (by repeat (first | (with_reducible first | exact HB.out | apply below_alloc | apply pw_below_drewN | apply below_drew1 | refine below_set ?_ GE534.out | refine below_set ?_ GE540.out) | exact HB.out)) hb); have n3_ := Aside0.mk (hbox); have n4_ := Aside0.mk ((by rw [hg]; exact (below_size (by repeat (first | (with_reducible first | exact HB.out | apply below_alloc | apply pw_below_drewN | apply below_drew1 | refine below_set ?_ GE534.out | refine below_set ?_ GE540.out) | exact HB.out))) : w.heap.size ≤ gb541)); have n5_ := Aside0.mk ((by rw [hg]; exact (below_size (by repeat (first | (with_reducible first | exact HB.out | apply below_alloc | apply pw_below_drewN | apply below_drew1 | refine below_set ?_ GE534.out | refine below_set ?_ GE540.out) | exact HB.out))) : w.heap.size ≤ gb541)); have n6_ := Aside0.mk ((by rw [hg]; exact Nat.ne_of_lt (blk_lt (g := gb534) (o := .cells #[.int .u64 a1_0, .int .u64 a1_1] 43 (0, 0)) (by (with_reducible repeat (first | refine blk_drewN ?_ _ | refine blk_drew ?_ | refine blk_alloc ?_ _)); exact BK534.out)) : gb534 ≠ gb541)); have n7_ := Aside0.mk ((by rw [hg]; exact Nat.ne_of_gt (blk_lt (g := gb534) (o := .cells #[.int .u64 a1_0, .int .u64 a1_1] 43 (0, 0)) (by (with_reducible repeat (first | refine blk_drewN ?_ _ | refine blk_drew ?_ | refine blk_alloc ?_ _)); exact BK534.out)) : gb541 ≠ gb534)); have n8_ := Aside0.mk ((by rw [hg]; exact Nat.ne_of_lt (blk_lt (g := gb540) (o := .cells #[.int .u64 0, .int .u64 0] 34 (0, 0)) (by (with_reducible repeat (first | refine blk_drewN ?_ _ | refine blk_drew ?_ | refine blk_alloc ?_ _)); exact BK540.out)) : gb540 ≠ gb541)); have n9_ := Aside0.mk ((by rw [hg]; exact Nat.ne_of_gt (blk_lt (g := gb540) (o := .cells #[.int .u64 0, .int .u64 0] 34 (0, 0)) (by (with_reducible repeat (first | refine blk_drewN ?_ _ | refine blk_drew ?_ | refine blk_alloc ?_ _)); exact BK540.out)) : gb541 ≠ gb540)); clear BK534; clear BK540; clear HB; have BK534 := n0_; have BK540 := n1_; have HB := n2_; have BK541 := n3_; have GW541 := n4_; have GE541 := n5_; have NB534_541 := n6_; have NB541_534 := n7_; have NB540_541 := n8_; have NB541_540 := n9_; clear n0_ n1_ n2_ n3_ n4_ n5_ n6_ n7_ n8_ n9_; clear hb hbox hg; have hnb59 := NB540_534.out; have hnc59 := NB534_540.out; have hnb60 := NB540_541.out; have hnc60 := NB541_540.out; have hcz61_0 : w58.cell? ⟨gb540, 0, none⟩ = some (.int .u64 0) := (blk_cell BK540.out 0).trans rfl; have hcz61_1 : w58.cell? ⟨gb540, 1, none⟩ = some (.int .u64 0) := (blk_cell BK540.out 1).trans rfl; have hfz61_0 := blk_frozen BK540.out 0; have hfz61_1 := blk_frozen BK540.out 1; have hnb62 := NB541_534.out; have hnc62 := NB534_541.out; have hcz63_0 : w58.cell? ⟨gb541, 0, none⟩ = some (.int .u64 0) := (blk_cell BK541.out 0).trans rfl; have hcz63_1 : w58.cell? ⟨gb541, 1, none⟩ = some (.int .u64 0) := (blk_cell BK541.out 1).trans rfl; have hfz63_0 := blk_frozen BK541.out 0; have hfz63_1 := blk_frozen BK541.out 1; have hcz64_0 : w58.cell? ⟨gb534, 0, none⟩ = some (.int .u64 a1_0) := (blk_cell BK534.out 0).trans rfl; have hcz64_1 : w58.cell? ⟨gb534, 1, none⟩ = some (.int .u64 a1_1) := (blk_cell BK534.out 1).trans rfl; have hfz64_0 := blk_frozen BK534.out 0; have hfz64_1 := blk_frozen BK534.out 1) | ((with_reducible refine gate_builtin (b := .append) (xs := #[.tmp 44, .tmp 51]) rfl ?_); at_builtin; refine Kd.R_append k34 (w0 := w) w.heap.size rfl (.tmp 44) (.tmp 51) 56 34 (.agg #[(.int .u64 0), (.int .u64 0)]) 16 rfl Try.underlying56 info34 rfl (by decide) (by omega) (.slice none 0 0) ([] : List (S34)) (⟨IntKind.u64.wrap (t538 + 1), t536⟩ : S34) [.int .u64 (IntKind.u64.wrap (t538 + 1)), .int .u64 t536] (fun k_ => k_ ≠ gb540 ∧ k_ ≠ gb541) (fun _ => False) rfl (by first | (go_simp; done) | (go_simp; rfl)) ?aP (fun _ hk => hk.elim) ?aF ?aO ?aB ?aS ?aL ?_; (case aP => exact k34_mkM _ _ _ (⟨IntKind.u64.wrap (t538 + 1), t536⟩ : S34)); (case aB => exact (by repeat (first | (with_reducible first | exact HB.out | apply below_alloc | apply pw_below_drewN | apply below_drew1 | refine below_set ?_ GE534.out | refine below_set ?_ GE540.out | refine below_set ?_ GE541.out) | exact HB.out))); (case aF => exact (fun k_ hk => ⟨Kd.freshB (g := gb540) (o := .cells #[.int .u64 t535, .int .u64 t536] 34 (0, 0)) (by (with_reducible repeat (first | refine blk_drewN ?_ _ | refine blk_drew ?_ | refine blk_alloc ?_ _)); refine blk_far ?_ NB540_541.out _; (with_reducible repeat (first | refine blk_drewN ?_ _ | refine blk_drew ?_ | refine blk_alloc ?_ _)); refine blk_far ?_ NB540_541.out _; (with_reducible repeat (first | refine blk_drewN ?_ _ | refine blk_drew ?_ | refine blk_alloc ?_ _)); refine blk_put (cs := #[.int .u64 t535, .int .u64 0]) ?_ 1 _ rfl; (with_reducible repeat (first | refine blk_drewN ?_ _ | refine blk_drew ?_ | refine blk_alloc ?_ _)); refine blk_put (cs := #[.int .u64 0, .int .u64 0]) ?_ 0 _ rfl; (with_reducible repeat (first | refine blk_drewN ?_ _ | refine blk_drew ?_ | refine blk_alloc ?_ _)); exact BK540.out) k_ hk, Kd.freshB (g := gb541) (o := .cells #[.int .u64 t537, .int .u64 t538] 34 (0, 0)) (by (with_reducible repeat (first | refine blk_drewN ?_ _ | refine blk_drew ?_ | refine blk_alloc ?_ _)); refine blk_put (cs := #[.int .u64 t537, .int .u64 0]) ?_ 1 _ rfl; (with_reducible repeat (first | refine blk_drewN ?_ _ | refine blk_drew ?_ | refine blk_alloc ?_ _)); refine blk_put (cs := #[.int .u64 0, .int .u64 0]) ?_ 0 _ rfl; (with_reducible repeat (first | refine blk_drewN ?_ _ | refine blk_drew ?_ | refine blk_alloc ?_ _)); refine blk_far ?_ NB541_540.out _; (with_reducible repeat (first | refine blk_drewN ?_ _ | refine blk_drew ?_ | refine blk_alloc ?_ _)); refine blk_far ?_ NB541_540.out _; (with_reducible repeat (first | refine blk_drewN ?_ _ | refine blk_drew ?_ | refine blk_alloc ?_ _)); exact BK541.out) k_ hk⟩)); (case aO => exact ((Kd.R_nil _ _ _ _ (fun k_ => k_ ≠ gb540 ∧ k_ ≠ gb541)))); (case aS => exact (below_size (by repeat (first | (with_reducible first | exact HB.out | apply below_alloc | apply pw_below_drewN | apply below_drew1 | refine below_set ?_ GE534.out | refine below_set ?_ GE540.out | refine below_set ?_ GE541.out) | exact HB.out)))); (case aL => have := LMc53.out; omega); intro v552 w65 ho hb hg hat; rw [← Ny551.out] at ho; have n0_ := Aside0.mk (blk_grown (g := gb534) (o := .cells #[.int .u64 a1_0, .int .u64 a1_1] 43 (0, 0)) (by (with_reducible repeat (first | refine blk_drewN ?_ _ | refine blk_drew ?_ | refine blk_alloc ?_ _)); refine blk_far ?_ NB534_541.out _; (with_reducible repeat (first | refine blk_drewN ?_ _ | refine blk_drew ?_ | refine blk_alloc ?_ _)); refine blk_far ?_ NB534_541.out _; (with_reducible repeat (first | refine blk_drewN ?_ _ | refine blk_drew ?_ | refine blk_alloc ?_ _)); refine blk_far ?_ NB534_540.out _; (with_reducible repeat (first | refine blk_drewN ?_ _ | refine blk_drew ?_ | refine blk_alloc ?_ _)); refine blk_far ?_ NB534_540.out _; (with_reducible repeat (first | refine blk_drewN ?_ _ | refine blk_drew ?_ | refine blk_alloc ?_ _)); exact BK534.out) hg (by simp [Value.ownBlock])); have n1_ := Aside0.mk (blk_grown (g := gb540) (o := .cells #[.int .u64 t535, .int .u64 t536] 34 (0, 0)) (by (with_reducible repeat (first | refine blk_drewN ?_ _ | refine blk_drew ?_ | refine blk_alloc ?_ _)); refine blk_far ?_ NB540_541.out _; (with_reducible repeat (first | refine blk_drewN ?_ _ | refine blk_drew ?_ | refine blk_alloc ?_ _)); refine blk_far ?_ NB540_541.out _; (with_reducible repeat (first | refine blk_drewN ?_ _ | refine blk_drew ?_ | refine blk_alloc ?_ _)); refine blk_put (cs := #[.int .u64 t535, .int .u64 0]) ?_ 1 _ rfl; (with_reducible repeat (first | refine blk_drewN ?_ _ | refine blk_drew ?_ | refine blk_alloc ?_ _)); refine blk_put (cs := #[.int .u64 0, .int .u64 0]) ?_ 0 _ rfl; (with_reducible repeat (first | refine blk_drewN ?_ _ | refine blk_drew ?_ | refine blk_alloc ?_ _)); exact BK540.out) hg (by simp [Value.ownBlock])); have n2_ := Aside0.mk (blk_grown (g := gb541) (o := .cells #[.int .u64 t537, .int .u64 t538] 34 (0, 0)) (by (with_reducible repeat (first | refine blk_drewN ?_ _ | refine blk_drew ?_ | refine blk_alloc ?_ _)); refine blk_put (cs := #[.int .u64 t537, .int .u64 0]) ?_ 1 _ rfl; (with_reducible repeat (first | refine blk_drewN ?_ _ | refine blk_drew ?_ | refine blk_alloc ?_ _)); refine blk_put (cs := #[.int .u64 0, .int .u64 0]) ?_ 0 _ rfl; (with_reducible repeat (first | refine blk_drewN ?_ _ | refine blk_drew ?_ | refine blk_alloc ?_ _)); refine blk_far ?_ NB541_540.out _; (with_reducible repeat (first | refine blk_drewN ?_ _ | refine blk_drew ?_ | refine blk_alloc ?_ _)); refine blk_far ?_ NB541_540.out _; (with_reducible repeat (first | refine blk_drewN ?_ _ | refine blk_drew ?_ | refine blk_alloc ?_ _)); exact BK541.out) hg (by simp [Value.ownBlock])); have n3_ := Aside0.mk (hb); have n4_ := Aside0.mk (ho); clear BK534; clear BK540; clear BK541; clear HB; have BK534 := n0_; have BK540 := n1_; have BK541 := n2_; have HB := n3_; have HO553 := n4_; clear n0_ n1_ n2_ n3_ n4_; clear ho hb hg hat))
            go_ret2
            exact ⟨_, by first | rfl | (simp [errW_none, errW_some] <;> rfl) | (simp [*, errW_none, errW_some] <;> rfl), by (with_reducible repeat (first | apply Kd.R_alloc | apply Kd.R_drewN | apply Kd.R_drew)); exact Kd.R_mono HO553.out (fun _ hk => trivial), by repeat (first | (with_reducible first | exact HB.out | apply below_alloc | apply pw_below_drewN | apply below_drew1 | refine below_set ?_ GE534.out | refine below_set ?_ GE540.out | refine below_set ?_ GE541.out) | exact HB.out)⟩
          · rw [if_neg c53] at H
            exact absurd H (by simp)
        · rw [if_neg c52] at H
          have c52b0 : decide (t538 < t536) = false := decide_eq_false c52
          clear c52
          simp only [Option.some.injEq, Prod.mk.injEq] at H
          obtain ⟨rfl, rfl⟩ := H
          go_enter Try.func41, Try.ntmps41
          go_wp2_with (first | ((with_reducible refine gate_dst (N := 3) rfl ?_); refine box_event ?hg (N := 3) ?hd (cs := #[.int .u64 a1_0, .int .u64 a1_1]) (t := 43) ?hr ?_; (case hd => rfl); (case hg => rfl); (case hr => first | (go_simp; done) | (go_simp; rfl)); intro gb534 hg w66 hbox hb; have n0_ := Aside0.mk (below_step (by repeat (first | (with_reducible first | exact HB.out | apply below_alloc | apply pw_below_drewN | apply below_drew1) | exact HB.out)) hb); have n1_ := Aside0.mk (hbox); have n2_ := Aside0.mk ((by rw [hg]; exact (below_size (by repeat (first | (with_reducible first | exact HB.out | apply below_alloc | apply pw_below_drewN | apply below_drew1) | exact HB.out))) : w.heap.size ≤ gb534)); have n3_ := Aside0.mk ((by rw [hg]; exact (below_size (by repeat (first | (with_reducible first | exact HB.out | apply below_alloc | apply pw_below_drewN | apply below_drew1) | exact HB.out))) : w.heap.size ≤ gb534)); clear HB; have HB := n0_; have BK534 := n1_; have GW534 := n2_; have GE534 := n3_; clear n0_ n1_ n2_ n3_; clear hb hbox hg; have hcz67_0 : w66.cell? ⟨gb534, 0, none⟩ = some (.int .u64 a1_0) := (blk_cell BK534.out 0).trans rfl; have hcz67_1 : w66.cell? ⟨gb534, 1, none⟩ = some (.int .u64 a1_1) := (blk_cell BK534.out 1).trans rfl; have hfz67_0 := blk_frozen BK534.out 0; have hfz67_1 := blk_frozen BK534.out 1) | ((with_reducible refine gate_callee (f := 70) rfl ?_); refine goesL_ (some 11) rfl rfl Try.func70 (by kernel_rfl) rfl #[.int .i64 a0, .agg #[.int .u64 a1_0, .int .u64 a1_1]] rfl (by (try simp only [List.map_toArray, List.map_cons, List.map_nil]); first | done | rfl | (simp only [List.length_drop, List.length_take]; rfl)) ?_; (with_reducible refine (sub_both.calls k a0 a1_0 a1_1 t535 t536 t537 t538 t539 _ A3.out).mono ?_); rintro e w68 ⟨rfl, hb⟩; refine ⟨_, rfl, ?_⟩; have n0_ := Aside0.mk (blk_below (g := gb534) (o := .cells #[.int .u64 a1_0, .int .u64 a1_1] 43 (0, 0)) (by (with_reducible repeat (first | refine blk_drewN ?_ _ | refine blk_drew ?_ | refine blk_alloc ?_ _)); exact BK534.out) hb); have n1_ := Aside0.mk (below_step (by repeat (first | (with_reducible first | exact HB.out | apply below_alloc | apply pw_below_drewN | apply below_drew1 | refine below_set ?_ GE534.out) | exact HB.out)) hb); clear BK534; clear HB; have BK534 := n0_; have HB := n1_; clear n0_ n1_; (try clear hb); (try clear hb2); (try clear hk); (try clear hi)) | ((with_reducible refine gate_dst (N := 6) rfl ?_); refine box_event ?hg (N := 6) ?hd (cs := #[.int .u64 0, .int .u64 0]) (t := 34) ?hr ?_; (case hd => rfl); (case hg => rfl); (case hr => first | (go_simp; done) | (go_simp; rfl)); intro gb540 hg w69 hbox hb; have n0_ := Aside0.mk (blk_below (g := gb534) (o := .cells #[.int .u64 a1_0, .int .u64 a1_1] 43 (0, 0)) (by (with_reducible repeat (first | refine blk_drewN ?_ _ | refine blk_drew ?_ | refine blk_alloc ?_ _)); exact BK534.out) hb); have n1_ := Aside0.mk (below_step (by repeat (first | (with_reducible first | exact HB.out | apply below_alloc | apply pw_below_drewN | apply below_drew1 | refine below_set ?_ GE534.out) | exact HB.out)) hb); have n2_ := Aside0.mk (hbox); have n3_ := Aside0.mk ((by rw [hg]; exact (below_size (by repeat (first | (with_reducible first | exact HB.out | apply below_alloc | apply pw_below_drewN | apply below_drew1 | refine below_set ?_ GE534.out) | exact HB.out))) : w.heap.size ≤ gb540)); have n4_ := Aside0.mk ((by rw [hg]; exact (below_size (by repeat (first | (with_reducible first | exact HB.out | apply below_alloc | apply pw_below_drewN | apply below_drew1 | refine below_set ?_ GE534.out) | exact HB.out))) : w.heap.size ≤ gb540)); have n5_ := Aside0.mk ((by rw [hg]; exact Nat.ne_of_lt (blk_lt (g := gb534) (o := .cells #[.int .u64 a1_0, .int .u64 a1_1] 43 (0, 0)) (by (with_reducible repeat (first | refine blk_drewN ?_ _ | refine blk_drew ?_ | refine blk_alloc ?_ _)); exact BK534.out)) : gb534 ≠ gb540)); have n6_ := Aside0.mk ((by rw [hg]; exact Nat.ne_of_gt (blk_lt (g := gb534) (o := .cells #[.int .u64 a1_0, .int .u64 a1_1] 43 (0, 0)) (by (with_reducible repeat (first | refine blk_drewN ?_ _ | refine blk_drew ?_ | refine blk_alloc ?_ _)); exact BK534.out)) : gb540 ≠ gb534)); clear BK534; clear HB; have BK534 := n0_; have HB := n1_; have BK540 := n2_; have GW540 := n3_; have GE540 := n4_; have NB534_540 := n5_; have NB540_534 := n6_; clear n0_ n1_ n2_ n3_ n4_ n5_ n6_; clear hb hbox hg) | ((with_reducible refine gate_dst (N := 7) rfl ?_); refine box_event ?hg (N := 7) ?hd (cs := #[.int .u64 0, .int .u64 0]) (t := 34) ?hr ?_; (case hd => rfl); (case hg => rfl); (case hr => first | (go_simp; done) | (go_simp; rfl)); intro gb541 hg w70 hbox hb; have n0_ := Aside0.mk (blk_below (g := gb534) (o := .cells #[.int .u64 a1_0, .int .u64 a1_1] 43 (0, 0)) (by (with_reducible repeat (first | refine blk_drewN ?_ _ | refine blk_drew ?_ | refine blk_alloc ?_ _)); exact BK534.out) hb); have n1_ := Aside0.mk (blk_below (g := gb540) (o := .cells #[.int .u64 0, .int .u64 0] 34 (0, 0)) (by (with_reducible repeat (first | refine blk_drewN ?_ _ | refine blk_drew ?_ | refine blk_alloc ?_ _)); exact BK540.out) hb); have n2_ := Aside0.mk (below_step (by repeat (first | (with_reducible first | exact HB.out | apply below_alloc | apply pw_below_drewN | apply below_drew1 | refine below_set ?_ GE534.out | refine below_set ?_ GE540.out) | exact HB.out)) hb); have n3_ := Aside0.mk (hbox); have n4_ := Aside0.mk ((by rw [hg]; exact (below_size (by repeat (first | (with_reducible first | exact HB.out | apply below_alloc | apply pw_below_drewN | apply below_drew1 | refine below_set ?_ GE534.out | refine below_set ?_ GE540.out) | exact HB.out))) : w.heap.size ≤ gb541)); have n5_ := Aside0.mk ((by rw [hg]; exact (below_size (by repeat (first | (with_reducible first | exact HB.out | apply below_alloc | apply pw_below_drewN | apply below_drew1 | refine below_set ?_ GE534.out | refine below_set ?_ GE540.out) | exact HB.out))) : w.heap.size ≤ gb541)); have n6_ := Aside0.mk ((by rw [hg]; exact Nat.ne_of_lt (blk_lt (g := gb534) (o := .cells #[.int .u64 a1_0, .int .u64 a1_1] 43 (0, 0)) (by (with_reducible repeat (first | refine blk_drewN ?_ _ | refine blk_drew ?_ | refine blk_alloc ?_ _)); exact BK534.out)) : gb534 ≠ gb541)); have n7_ := Aside0.mk ((by rw [hg]; exact Nat.ne_of_gt (blk_lt (g := gb534) (o := .cells #[.int .u64 a1_0, .int .u64 a1_1] 43 (0, 0)) (by (with_reducible repeat (first | refine blk_drewN ?_ _ | refine blk_drew ?_ | refine blk_alloc ?_ _)); exact BK534.out)) : gb541 ≠ gb534)); have n8_ := Aside0.mk ((by rw [hg]; exact Nat.ne_of_lt (blk_lt (g := gb540) (o := .cells #[.int .u64 0, .int .u64 0] 34 (0, 0)) (by (with_reducible repeat (first | refine blk_drewN ?_ _ | refine blk_drew ?_ | refine blk_alloc ?_ _)); exact BK540.out)) : gb540 ≠ gb541)); have n9_ := Aside0.mk ((by rw [hg]; exact Nat.ne_of_gt (blk_lt (g := gb540) (o := .cells #[.int .u64 0, .int .u64 0] 34 (0, 0)) (by (with_reducible repeat (first | refine blk_drewN ?_ _ | refine blk_drew ?_ | refine blk_alloc ?_ _)); exact BK540.out)) : gb541 ≠ gb540)); clear BK534; clear BK540; clear HB; have BK534 := n0_; have BK540 := n1_; have HB := n2_; have BK541 := n3_; have GW541 := n4_; have GE541 := n5_; have NB534_541 := n6_; have NB541_534 := n7_; have NB540_541 := n8_; have NB541_540 := n9_; clear n0_ n1_ n2_ n3_ n4_ n5_ n6_ n7_ n8_ n9_; clear hb hbox hg; have hnb71 := NB540_534.out; have hnc71 := NB534_540.out; have hnb72 := NB540_541.out; have hnc72 := NB541_540.out; have hcz73_0 : w70.cell? ⟨gb540, 0, none⟩ = some (.int .u64 0) := (blk_cell BK540.out 0).trans rfl; have hcz73_1 : w70.cell? ⟨gb540, 1, none⟩ = some (.int .u64 0) := (blk_cell BK540.out 1).trans rfl; have hfz73_0 := blk_frozen BK540.out 0; have hfz73_1 := blk_frozen BK540.out 1; have hnb74 := NB541_534.out; have hnc74 := NB534_541.out; have hcz75_0 : w70.cell? ⟨gb541, 0, none⟩ = some (.int .u64 0) := (blk_cell BK541.out 0).trans rfl; have hcz75_1 : w70.cell? ⟨gb541, 1, none⟩ = some (.int .u64 0) := (blk_cell BK541.out 1).trans rfl; have hfz75_0 := blk_frozen BK541.out 0; have hfz75_1 := blk_frozen BK541.out 1; have hcz76_0 : w70.cell? ⟨gb534, 0, none⟩ = some (.int .u64 a1_0) := (blk_cell BK534.out 0).trans rfl; have hcz76_1 : w70.cell? ⟨gb534, 1, none⟩ = some (.int .u64 a1_1) := (blk_cell BK534.out 1).trans rfl; have hfz76_0 := blk_frozen BK534.out 0; have hfz76_1 := blk_frozen BK534.out 1))
          go_ret2
          exact ⟨_, by first | rfl | (simp [errW_none, errW_some] <;> rfl) | (simp [*, errW_none, errW_some] <;> rfl), by first | exact Kd.R_nil _ _ _ _ _ | exact Kd.N_nil _ _ _ _ _ | exact Kd.V_nil _ _ _ _ _ | exact Kd.Q_nil _ _ _ _ _ | exact Kd.S_nil _ _ _ _ _, by repeat (first | (with_reducible first | exact HB.out | apply below_alloc | apply pw_below_drewN | apply below_drew1 | refine below_set ?_ GE534.out | refine below_set ?_ GE540.out | refine below_set ?_ GE541.out) | exact HB.out)⟩
  · rw [if_neg c4] at H
    have c4b0 : (t539 == 0) = false := beq_eq_false_iff_ne.mpr c4
    have c4b1 : (t539 != 0) = true := bne_iff_ne.mpr c4
    simp only [Option.some.injEq, Prod.mk.injEq] at H
    obtain ⟨rfl, rfl⟩ := H
    go_enter Try.func41, Try.ntmps41
    go_wp2_with (first | ((with_reducible refine gate_dst (N := 3) rfl ?_); refine box_event ?hg (N := 3) ?hd (cs := #[.int .u64 a1_0, .int .u64 a1_1]) (t := 43) ?hr ?_; (case hd => rfl); (case hg => rfl); (case hr => first | (go_simp; done) | (go_simp; rfl)); intro gb534 hg w77 hbox hb; have n0_ := Aside0.mk (below_step (by repeat (first | (with_reducible first | exact HB.out | apply below_alloc | apply pw_below_drewN | apply below_drew1) | exact HB.out)) hb); have n1_ := Aside0.mk (hbox); have n2_ := Aside0.mk ((by rw [hg]; exact (below_size (by repeat (first | (with_reducible first | exact HB.out | apply below_alloc | apply pw_below_drewN | apply below_drew1) | exact HB.out))) : w.heap.size ≤ gb534)); have n3_ := Aside0.mk ((by rw [hg]; exact (below_size (by repeat (first | (with_reducible first | exact HB.out | apply below_alloc | apply pw_below_drewN | apply below_drew1) | exact HB.out))) : w.heap.size ≤ gb534)); clear HB; have HB := n0_; have BK534 := n1_; have GW534 := n2_; have GE534 := n3_; clear n0_ n1_ n2_ n3_; clear hb hbox hg; have hcz78_0 : w77.cell? ⟨gb534, 0, none⟩ = some (.int .u64 a1_0) := (blk_cell BK534.out 0).trans rfl; have hcz78_1 : w77.cell? ⟨gb534, 1, none⟩ = some (.int .u64 a1_1) := (blk_cell BK534.out 1).trans rfl; have hfz78_0 := blk_frozen BK534.out 0; have hfz78_1 := blk_frozen BK534.out 1) | ((with_reducible refine gate_callee (f := 70) rfl ?_); refine goesL_ (some 11) rfl rfl Try.func70 (by kernel_rfl) rfl #[.int .i64 a0, .agg #[.int .u64 a1_0, .int .u64 a1_1]] rfl (by (try simp only [List.map_toArray, List.map_cons, List.map_nil]); first | done | rfl | (simp only [List.length_drop, List.length_take]; rfl)) ?_; (with_reducible refine (sub_both.calls k a0 a1_0 a1_1 t535 t536 t537 t538 t539 _ A3.out).mono ?_); rintro e w79 ⟨rfl, hb⟩; refine ⟨_, rfl, ?_⟩; have n0_ := Aside0.mk (blk_below (g := gb534) (o := .cells #[.int .u64 a1_0, .int .u64 a1_1] 43 (0, 0)) (by (with_reducible repeat (first | refine blk_drewN ?_ _ | refine blk_drew ?_ | refine blk_alloc ?_ _)); exact BK534.out) hb); have n1_ := Aside0.mk (below_step (by repeat (first | (with_reducible first | exact HB.out | apply below_alloc | apply pw_below_drewN | apply below_drew1 | refine below_set ?_ GE534.out) | exact HB.out)) hb); clear BK534; clear HB; have BK534 := n0_; have HB := n1_; clear n0_ n1_; (try clear hb); (try clear hb2); (try clear hk); (try clear hi)) | ((with_reducible refine gate_dst (N := 6) rfl ?_); refine box_event ?hg (N := 6) ?hd (cs := #[.int .u64 0, .int .u64 0]) (t := 34) ?hr ?_; (case hd => rfl); (case hg => rfl); (case hr => first | (go_simp; done) | (go_simp; rfl)); intro gb540 hg w80 hbox hb; have n0_ := Aside0.mk (blk_below (g := gb534) (o := .cells #[.int .u64 a1_0, .int .u64 a1_1] 43 (0, 0)) (by (with_reducible repeat (first | refine blk_drewN ?_ _ | refine blk_drew ?_ | refine blk_alloc ?_ _)); exact BK534.out) hb); have n1_ := Aside0.mk (below_step (by repeat (first | (with_reducible first | exact HB.out | apply below_alloc | apply pw_below_drewN | apply below_drew1 | refine below_set ?_ GE534.out) | exact HB.out)) hb); have n2_ := Aside0.mk (hbox); have n3_ := Aside0.mk ((by rw [hg]; exact (below_size (by repeat (first | (with_reducible first | exact HB.out | apply below_alloc | apply pw_below_drewN | apply below_drew1 | refine below_set ?_ GE534.out) | exact HB.out))) : w.heap.size ≤ gb540)); have n4_ := Aside0.mk ((by rw [hg]; exact (below_size (by repeat (first | (with_reducible first | exact HB.out | apply below_alloc | apply pw_below_drewN | apply below_drew1 | refine below_set ?_ GE534.out) | exact HB.out))) : w.heap.size ≤ gb540)); have n5_ := Aside0.mk ((by rw [hg]; exact Nat.ne_of_lt (blk_lt (g := gb534) (o := .cells #[.int .u64 a1_0, .int .u64 a1_1] 43 (0, 0)) (by (with_reducible repeat (first | refine blk_drewN ?_ _ | refine blk_drew ?_ | refine blk_alloc ?_ _)); exact BK534.out)) : gb534 ≠ gb540)); have n6_ := Aside0.mk ((by rw [hg]; exact Nat.ne_of_gt (blk_lt (g := gb534) (o := .cells #[.int .u64 a1_0, .int .u64 a1_1] 43 (0, 0)) (by (with_reducible repeat (first | refine blk_drewN ?_ _ | refine blk_drew ?_ | refine blk_alloc ?_ _)); exact BK534.out)) : gb540 ≠ gb534)); clear BK534; clear HB; have BK534 := n0_; have HB := n1_; have BK540 := n2_; have GW540 := n3_; have GE540 := n4_; have NB534_540 := n5_; have NB540_534 := n6_; clear n0_ n1_ n2_ n3_ n4_ n5_ n6_; clear hb hbox hg) | ((with_reducible refine gate_dst (N := 7) rfl ?_); refine box_event ?hg (N := 7) ?hd (cs := #[.int .u64 0, .int .u64 0]) (t := 34) ?hr ?_; (case hd => rfl); (case hg => rfl); (case hr => first | (go_simp; done) | (go_simp; rfl)); intro gb541 hg w81 hbox hb; have n0_ := Aside0.mk (blk_below (g := gb534) (o := .cells #[.int .u64 a1_0, .int .u64 a1_1] 43 (0, 0)) (by (with_reducible repeat (first | refine blk_drewN ?_ _ | refine blk_drew ?_ | refine blk_alloc ?_ _)); exact BK534.out) hb); have n1_ := Aside0.mk (blk_below (g := gb540) (o := .cells #[.int .u64 0, .int .u64 0] 34 (0, 0)) (by (with_reducible repeat (first | refine blk_drewN ?_ _ | refine blk_drew ?_ | refine blk_alloc ?_ _)); exact BK540.out) hb); have n2_ := Aside0.mk (below_step (by repeat (first | (with_reducible first | exact HB.out | apply below_alloc | apply pw_below_drewN | apply below_drew1 | refine below_set ?_ GE534.out | refine below_set ?_ GE540.out) | exact HB.out)) hb); have n3_ := Aside0.mk (hbox); have n4_ := Aside0.mk ((by rw [hg]; exact (below_size (by repeat (first | (with_reducible first | exact HB.out | apply below_alloc | apply pw_below_drewN | apply below_drew1 | refine below_set ?_ GE534.out | refine below_set ?_ GE540.out) | exact HB.out))) : w.heap.size ≤ gb541)); have n5_ := Aside0.mk ((by rw [hg]; exact (below_size (by repeat (first | (with_reducible first | exact HB.out | apply below_alloc | apply pw_below_drewN | apply below_drew1 | refine below_set ?_ GE534.out | refine below_set ?_ GE540.out) | exact HB.out))) : w.heap.size ≤ gb541)); have n6_ := Aside0.mk ((by rw [hg]; exact Nat.ne_of_lt (blk_lt (g := gb534) (o := .cells #[.int .u64 a1_0, .int .u64 a1_1] 43 (0, 0)) (by (with_reducible repeat (first | refine blk_drewN ?_ _ | refine blk_drew ?_ | refine blk_alloc ?_ _)); exact BK534.out)) : gb534 ≠ gb541)); have n7_ := Aside0.mk ((by rw [hg]; exact Nat.ne_of_gt (blk_lt (g := gb534) (o := .cells #[.int .u64 a1_0, .int .u64 a1_1] 43 (0, 0)) (by (with_reducible repeat (first | refine blk_drewN ?_ _ | refine blk_drew ?_ | refine blk_alloc ?_ _)); exact BK534.out)) : gb541 ≠ gb534)); have n8_ := Aside0.mk ((by rw [hg]; exact Nat.ne_of_lt (blk_lt (g := gb540) (o := .cells #[.int .u64 0, .int .u64 0] 34 (0, 0)) (by (with_reducible repeat (first | refine blk_drewN ?_ _ | refine blk_drew ?_ | refine blk_alloc ?_ _)); exact BK540.out)) : gb540 ≠ gb541)); have n9_ := Aside0.mk ((by rw [hg]; exact Nat.ne_of_gt (blk_lt (g := gb540) (o := .cells #[.int .u64 0, .int .u64 0] 34 (0, 0)) (by (with_reducible repeat (first | refine blk_drewN ?_ _ | refine blk_drew ?_ | refine blk_alloc ?_ _)); exact BK540.out)) : gb541 ≠ gb540)); clear BK534; clear BK540; clear HB; have BK534 := n0_; have BK540 := n1_; have HB := n2_; have BK541 := n3_; have GW541 := n4_; have GE541 := n5_; have NB534_541 := n6_; have NB541_534 := n7_; have NB540_541 := n8_; have NB541_540 := n9_; clear n0_ n1_ n2_ n3_ n4_ n5_ n6_ n7_ n8_ n9_; clear hb hbox hg; have hnb82 := NB540_534.out; have hnc82 := NB534_540.out; have hnb83 := NB540_541.out; have hnc83 := NB541_540.out; have hcz84_0 : w81.cell? ⟨gb540, 0, none⟩ = some (.int .u64 0) := (blk_cell BK540.out 0).trans rfl; have hcz84_1 : w81.cell? ⟨gb540, 1, none⟩ = some (.int .u64 0) := (blk_cell BK540.out 1).trans rfl; have hfz84_0 := blk_frozen BK540.out 0; have hfz84_1 := blk_frozen BK540.out 1; have hnb85 := NB541_534.out; have hnc85 := NB534_541.out; have hcz86_0 : w81.cell? ⟨gb541, 0, none⟩ = some (.int .u64 0) := (blk_cell BK541.out 0).trans rfl; have hcz86_1 : w81.cell? ⟨gb541, 1, none⟩ = some (.int .u64 0) := (blk_cell BK541.out 1).trans rfl; have hfz86_0 := blk_frozen BK541.out 0; have hfz86_1 := blk_frozen BK541.out 1))
    go_ret2
    exact ⟨_, by first | rfl | (simp [errW_none, errW_some] <;> rfl) | (simp [*, errW_none, errW_some] <;> rfl), by first | exact Kd.R_nil _ _ _ _ _ | exact Kd.N_nil _ _ _ _ _ | exact Kd.V_nil _ _ _ _ _ | exact Kd.Q_nil _ _ _ _ _ | exact Kd.S_nil _ _ _ _ _, by repeat (first | (with_reducible first | exact HB.out | apply below_alloc | apply pw_below_drewN | apply below_drew1 | refine below_set ?_ GE534.out | refine below_set ?_ GE540.out | refine below_set ?_ GE541.out) | exact HB.out)⟩

/-! ### sub_Touch: function 40 -/
mutual
def sub_Touch.j0 : Nat → List (S34) → List (S34) → Bool → Option (Bool × Int)
  | 0, _, _, _ => none
  | k + 1, x8, x10, x31 => if x31 = true then (some (false, 1)) else (sub_Touch.l0 k x8 x10 0 0)
def sub_Touch.l0 : Nat → List (S34) → List (S34) → Int → Int → Option (Bool × Int)
  | 0, _, _, _, _ => none
  | k + 1, x8, x10, x12, x13 => if x12 < (x8.length : Int) then (sub_Touch.j2 k x8 x10 x12 x13 (decide (x13 < (x10.length : Int)))) else (sub_Touch.j2 k x8 x10 x12 x13 false)
def sub_Touch.j2 : Nat → List (S34) → List (S34) → Int → Int → Bool → Option (Bool × Int)
  | 0, _, _, _, _, _ => none
  | k + 1, x8, x10, x12, x13, x41 => if x41 = true then (if 0 ≤ x12 then (if x12 < (x8.length : Int) then (if 0 ≤ x13 then (if x13 < (x10.length : Int) then (if ((rd_T34 x8 x12).f1) < ((rd_T34 x10 x13).f0) then (sub_Touch.l0 k x8 x10 (wrap64 (x12 + 1)) x13) else (if ((rd_T34 x10 x13).f1) < ((rd_T34 x8 x12).f0) then (sub_Touch.l0 k x8 x10 x12 (wrap64 (x13 + 1))) else (some (true, 0)))) else (none)) else (none)) else (none)) else (none)) else (some (false, 0))
end
def sub_Touch.f (k : Nat) (a0 : Int) (a1_0 : Int) (a1_1 : Int) (a2_0 : Int) (a2_1 : Int) : Option (Bool × Int) := (sub_Leaves.f k a0 a1_0 a1_1).bind fun bt556 => ((sub_Leaves.f k a0 a2_0 a2_1).bind fun bt560 => (if bt556.2 = 0 then (sub_Touch.j0 k bt556.1 bt560.1 (bt560.2 != 0)) else (sub_Touch.j0 k bt556.1 bt560.1 true)))
theorem sub_Touch.mono_l : ∀ k, (∀ y0 y1 y2, LeO (sub_Touch.j0 k y0 y1 y2) (sub_Touch.j0 (k + 1) y0 y1 y2)) ∧ (∀ y0 y1 y2 y3, LeO (sub_Touch.l0 k y0 y1 y2 y3) (sub_Touch.l0 (k + 1) y0 y1 y2 y3)) ∧ (∀ y0 y1 y2 y3 y4, LeO (sub_Touch.j2 k y0 y1 y2 y3 y4) (sub_Touch.j2 (k + 1) y0 y1 y2 y3 y4))
  | 0 => ⟨fun _ _ _ r h => by simp [sub_Touch.j0] at h, fun _ _ _ _ r h => by simp [sub_Touch.l0] at h, fun _ _ _ _ _ r h => by simp [sub_Touch.j2] at h⟩
  | k + 1 => by
    obtain ⟨ih0, ih1, ih2⟩ := sub_Touch.mono_l k
    refine ⟨?_, ?_, ?_⟩
    · intro y0 y1 y2
      unfold sub_Touch.j0
      repeat' first
      | (with_reducible exact ih0 _ _ _)
      | (with_reducible exact ih1 _ _ _ _)
      | (with_reducible exact ih2 _ _ _ _ _)
      | (with_reducible exact sub_Leaves.mono _ _ _ _)
      | (with_reducible exact LeO.refl _)
      | (with_reducible exact LeO.none _)
      | (with_reducible refine LeO.ite ?_ ?_)
      | (with_reducible refine LeO.bind ?_ (fun _ => ?_))
      | exact ih0 _ _ _
      | exact ih1 _ _ _ _
      | exact ih2 _ _ _ _ _
      | exact sub_Leaves.mono _ _ _ _
      | exact LeO.none _
      | refine LeO.ite ?_ ?_
      | refine LeO.bind ?_ (fun _ => ?_)
    · intro y0 y1 y2 y3
      unfold sub_Touch.l0
      repeat' first
      | (with_reducible exact ih0 _ _ _)
      | (with_reducible exact ih1 _ _ _ _)
      | (with_reducible exact ih2 _ _ _ _ _)
      | (with_reducible exact sub_Leaves.mono _ _ _ _)
      | (with_reducible exact LeO.refl _)
      | (with_reducible exact LeO.none _)
      | (with_reducible refine LeO.ite ?_ ?_)
      | (with_reducible refine LeO.bind ?_ (fun _ => ?_))
      | exact ih0 _ _ _
      | exact ih1 _ _ _ _
      | exact ih2 _ _ _ _ _
      | exact sub_Leaves.mono _ _ _ _
      | exact LeO.none _
      | refine LeO.ite ?_ ?_
      | refine LeO.bind ?_ (fun _ => ?_)
    · intro y0 y1 y2 y3 y4
      unfold sub_Touch.j2
      repeat' first
      | (with_reducible exact ih0 _ _ _)
      | (with_reducible exact ih1 _ _ _ _)
      | (with_reducible exact ih2 _ _ _ _ _)
      | (with_reducible exact sub_Leaves.mono _ _ _ _)
      | (with_reducible exact LeO.refl _)
      | (with_reducible exact LeO.none _)
      | (with_reducible refine LeO.ite ?_ ?_)
      | (with_reducible refine LeO.bind ?_ (fun _ => ?_))
      | exact ih0 _ _ _
      | exact ih1 _ _ _ _
      | exact ih2 _ _ _ _ _
      | exact sub_Leaves.mono _ _ _ _
      | exact LeO.none _
      | refine LeO.ite ?_ ?_
      | refine LeO.bind ?_ (fun _ => ?_)
theorem sub_Touch.mono : ∀ a0 a1 a2 a3 a4 k, LeO (sub_Touch.f k a0 a1 a2 a3 a4) (sub_Touch.f (k + 1) a0 a1 a2 a3 a4) := by
  intro a0 a1 a2 a3 a4 k
  obtain ⟨ih0, ih1, ih2⟩ := sub_Touch.mono_l k
  unfold sub_Touch.f
  repeat' first
      | (with_reducible exact ih0 _ _ _)
      | (with_reducible exact ih1 _ _ _ _)
      | (with_reducible exact ih2 _ _ _ _ _)
      | (with_reducible exact sub_Leaves.mono _ _ _ _)
      | (with_reducible exact LeO.refl _)
      | (with_reducible exact LeO.none _)
      | (with_reducible refine LeO.ite ?_ ?_)
      | (with_reducible refine LeO.bind ?_ (fun _ => ?_))
      | exact ih0 _ _ _
      | exact ih1 _ _ _ _
      | exact ih2 _ _ _ _ _
      | exact sub_Leaves.mono _ _ _ _
      | exact LeO.none _
      | refine LeO.ite ?_ ?_
      | refine LeO.bind ?_ (fun _ => ?_)
set_option maxHeartbeats 8000000 in
set_option maxRecDepth 100000 in
theorem sub_Touch.calls (k : Nat) (a0 : Int) (a1_0 : Int) (a1_1 : Int) (a2_0 : Int) (a2_1 : Int) (r1 : Bool) (r2 : Int) (w : World) (h : sub_Touch.f k a0 a1_0 a1_1 a2_0 a2_1 = some (r1, r2)) :
    Calls Try.prog 40 #[.int .i64 a0, .agg #[.int .u64 a1_0, .int .u64 a1_1], .agg #[.int .u64 a2_0, .int .u64 a2_1]] w fun e w' => e = .returned (.tuple #[.bool r1, .int .i64 r2]) ∧ Below w.heap.size w w' := by
  have hu43 := Try.underlying43
  have HB := Aside0.mk (Below.refl w.heap.size w)
  have H : ((sub_Leaves.f k a0 a1_0 a1_1).bind fun bt556 => ((sub_Leaves.f k a0 a2_0 a2_1).bind fun bt560 => (if bt556.2 = 0 then (sub_Touch.j0 k bt556.1 bt560.1 (bt560.2 != 0)) else (sub_Touch.j0 k bt556.1 bt560.1 true)))) = some (r1, r2) := h
  clear h
  replace H := Option.bind_eq_some_iff.mp H
  obtain ⟨⟨t556, t559⟩, A40, H⟩ := H
  replace H : ((sub_Leaves.f k a0 a2_0 a2_1).bind fun bt560 => (if t559 = 0 then (sub_Touch.j0 k t556 bt560.1 (bt560.2 != 0)) else (sub_Touch.j0 k t556 bt560.1 true))) = some (r1, r2) := H
  have A4 := Aside0.mk A40
  clear A40
  replace H := Option.bind_eq_some_iff.mp H
  obtain ⟨⟨t560, t563⟩, A50, H⟩ := H
  replace H : (if t559 = 0 then (sub_Touch.j0 k t556 t560 (t563 != 0)) else (sub_Touch.j0 k t556 t560 true)) = some (r1, r2) := H
  have A5 := Aside0.mk A50
  clear A50
  have HC6 := Aside0.mk H
  clear H
  go_enter Try.func40, Try.ntmps40
  go_upto_region 3 with (first | ((with_reducible refine gate_dst (N := 4) rfl ?_); (try (refine gate_guard (by rfl) ?_; dsimp only)); refine box_event ?hg (N := 4) ?hd (cs := #[.int .u64 a1_0, .int .u64 a1_1]) (t := 43) ?hr ?_; (case hd => rfl); (case hg => rfl); (case hr => first | (go_simp; done) | (go_simp; rfl)); intro gb554 hg w7 hbox hb; have n0_ := Aside0.mk (below_step (by repeat (first | (with_reducible first | exact HB.out | apply below_alloc | apply pw_below_drewN | apply below_drew1) | exact HB.out)) hb); have n1_ := Aside0.mk (hbox); have n2_ := Aside0.mk ((by rw [hg]; exact (below_size (by repeat (first | (with_reducible first | exact HB.out | apply below_alloc | apply pw_below_drewN | apply below_drew1) | exact HB.out))) : w.heap.size ≤ gb554)); have n3_ := Aside0.mk ((by rw [hg]; exact (below_size (by repeat (first | (with_reducible first | exact HB.out | apply below_alloc | apply pw_below_drewN | apply below_drew1) | exact HB.out))) : w.heap.size ≤ gb554)); clear HB; have HB := n0_; have BK554 := n1_; have GW554 := n2_; have GE554 := n3_; clear n0_ n1_ n2_ n3_; clear hb hbox hg) | ((with_reducible refine gate_dst (N := 5) rfl ?_); (try (refine gate_guard (by rfl) ?_; dsimp only)); refine box_event ?hg (N := 5) ?hd (cs := #[.int .u64 a2_0, .int .u64 a2_1]) (t := 43) ?hr ?_; (case hd => rfl); (case hg => rfl); (case hr => first | (go_simp; done) | (go_simp; rfl)); intro gb555 hg w8 hbox hb; have n0_ := Aside0.mk (blk_below (g := gb554) (o := .cells #[.int .u64 a1_0, .int .u64 a1_1] 43 (0, 0)) (by (with_reducible repeat (first | refine blk_drewN ?_ _ | refine blk_drew ?_ | refine blk_alloc ?_ _)); exact BK554.out) hb); have n1_ := Aside0.mk (below_step (by repeat (first | (with_reducible first | exact HB.out | apply below_alloc | apply pw_below_drewN | apply below_drew1 | refine below_set ?_ GE554.out) | exact HB.out)) hb); have n2_ := Aside0.mk (hbox); have n3_ := Aside0.mk ((by rw [hg]; exact (below_size (by repeat (first | (with_reducible first | exact HB.out | apply below_alloc | apply pw_below_drewN | apply below_drew1 | refine below_set ?_ GE554.out) | exact HB.out))) : w.heap.size ≤ gb555)); have n4_ := Aside0.mk ((by rw [hg]; exact (below_size (by repeat (first | (with_reducible first | exact HB.out | apply below_alloc | apply pw_below_drewN | apply below_drew1 | refine below_set ?_ GE554.out) | exact HB.out))) : w.heap.size ≤ gb555)); have n5_ := Aside0.mk ((by rw [hg]; exact Nat.ne_of_lt (blk_lt (g := gb554) (o := .cells #[.int .u64 a1_0, .int .u64 a1_1] 43 (0, 0)) (by (with_reducible repeat (first | refine blk_drewN ?_ _ | refine blk_drew ?_ | refine blk_alloc ?_ _)); exact BK554.out)) : gb554 ≠ gb555)); have n6_ := Aside0.mk ((by rw [hg]; exact Nat.ne_of_gt (blk_lt (g := gb554) (o := .cells #[.int .u64 a1_0, .int .u64 a1_1] 43 (0, 0)) (by (with_reducible repeat (first | refine blk_drewN ?_ _ | refine blk_drew ?_ | refine blk_alloc ?_ _)); exact BK554.out)) : gb555 ≠ gb554)); clear BK554; clear HB; have BK554 := n0_; have HB := n1_; have BK555 := n2_; have GW555 := n3_; have GE555 := n4_; have NB554_555 := n5_; have NB555_554 := n6_; clear n0_ n1_ n2_ n3_ n4_ n5_ n6_; clear hb hbox hg; have hnb9 := NB554_555.out; have hnc9 := NB555_554.out; have hcz10_0 : w8.cell? ⟨gb554, 0, none⟩ = some (.int .u64 a1_0) := (blk_cell BK554.out 0).trans rfl; have hcz10_1 : w8.cell? ⟨gb554, 1, none⟩ = some (.int .u64 a1_1) := (blk_cell BK554.out 1).trans rfl; have hfz10_0 := blk_frozen BK554.out 0; have hfz10_1 := blk_frozen BK554.out 1) | (go_at_call 41; (with_reducible refine (sub_Leaves.calls k a0 a1_0 a1_1 t556 t559 _ A4.out).mono ?_); rintro e w11 ⟨v557, rfl, ho0, hb⟩; have n0_ := Aside0.mk (Kd.R_lower ho0 (below_size (by repeat (first | (with_reducible first | exact HB.out | apply below_alloc | apply pw_below_drewN | apply below_drew1 | refine below_set ?_ GE554.out | refine below_set ?_ GE555.out) | exact HB.out)))); have n1_ := Aside0.mk (blk_below (g := gb554) (o := .cells #[.int .u64 a1_0, .int .u64 a1_1] 43 (0, 0)) (by (with_reducible repeat (first | refine blk_drewN ?_ _ | refine blk_drew ?_ | refine blk_alloc ?_ _)); exact BK554.out) hb); have n2_ := Aside0.mk (blk_below (g := gb555) (o := .cells #[.int .u64 a2_0, .int .u64 a2_1] 43 (0, 0)) (by (with_reducible repeat (first | refine blk_drewN ?_ _ | refine blk_drew ?_ | refine blk_alloc ?_ _)); exact BK555.out) hb); have n3_ := Aside0.mk (below_step (by repeat (first | (with_reducible first | exact HB.out | apply below_alloc | apply pw_below_drewN | apply below_drew1 | refine below_set ?_ GE554.out | refine below_set ?_ GE555.out) | exact HB.out)) hb); clear BK554; clear BK555; clear HB; have HO558 := n0_; have BK554 := n1_; have BK555 := n2_; have HB := n3_; clear n0_ n1_ n2_ n3_; (try clear hb); (try clear hb2); (try clear hk); (try clear hi); (try clear ho0); have hcz12_0 : w11.cell? ⟨gb555, 0, none⟩ = some (.int .u64 a2_0) := (blk_cell BK555.out 0).trans rfl; have hcz12_1 : w11.cell? ⟨gb555, 1, none⟩ = some (.int .u64 a2_1) := (blk_cell BK555.out 1).trans rfl; have hfz12_0 := blk_frozen BK555.out 0; have hfz12_1 := blk_frozen BK555.out 1) | (go_at_call 41; (with_reducible refine (sub_Leaves.calls k a0 a2_0 a2_1 t560 t563 _ A5.out).mono ?_); rintro e w13 ⟨v561, rfl, ho0, hb⟩; have n0_ := Aside0.mk (Kd.R_elder' (by (with_reducible repeat (first | apply Kd.R_alloc | apply Kd.R_drewN | apply Kd.R_drew)); exact HO558.out) (Kd.R_base ho0) hb); have n1_ := Aside0.mk (Kd.R_lower (Kd.R_new' ho0 (Kd.R_lt (by (with_reducible repeat (first | apply Kd.R_alloc | apply Kd.R_drewN | apply Kd.R_drew)); exact HO558.out))) (below_size (by repeat (first | (with_reducible first | exact HB.out | apply below_alloc | apply pw_below_drewN | apply below_drew1 | refine below_set ?_ GE554.out | refine below_set ?_ GE555.out) | exact HB.out)))); have n2_ := Aside0.mk (blk_below (g := gb554) (o := .cells #[.int .u64 a1_0, .int .u64 a1_1] 43 (0, 0)) (by (with_reducible repeat (first | refine blk_drewN ?_ _ | refine blk_drew ?_ | refine blk_alloc ?_ _)); exact BK554.out) hb); have n3_ := Aside0.mk (blk_below (g := gb555) (o := .cells #[.int .u64 a2_0, .int .u64 a2_1] 43 (0, 0)) (by (with_reducible repeat (first | refine blk_drewN ?_ _ | refine blk_drew ?_ | refine blk_alloc ?_ _)); exact BK555.out) hb); have n4_ := Aside0.mk (below_step (by repeat (first | (with_reducible first | exact HB.out | apply below_alloc | apply pw_below_drewN | apply below_drew1 | refine below_set ?_ GE554.out | refine below_set ?_ GE555.out) | exact HB.out)) hb); clear HO558; clear BK554; clear BK555; clear HB; have HO558 := n0_; have HO562 := n1_; have BK554 := n2_; have BK555 := n3_; have HB := n4_; clear n0_ n1_ n2_ n3_ n4_; (try clear hb); (try clear hb2); (try clear hk); (try clear hi); (try clear ho0)))
  repeat (go_quiet (first | ((with_reducible refine gate_dst (N := 4) rfl ?_); (try (refine gate_guard (by rfl) ?_; dsimp only)); refine box_event ?hg (N := 4) ?hd (cs := #[.int .u64 a1_0, .int .u64 a1_1]) (t := 43) ?hr ?_; (case hd => rfl); (case hg => rfl); (case hr => first | (go_simp; done) | (go_simp; rfl)); intro gb554 hg w7 hbox hb; have n0_ := Aside0.mk (below_step (by repeat (first | (with_reducible first | exact HB.out | apply below_alloc | apply pw_below_drewN | apply below_drew1) | exact HB.out)) hb); have n1_ := Aside0.mk (hbox); have n2_ := Aside0.mk ((by rw [hg]; exact (below_size (by repeat (first | (with_reducible first | exact HB.out | apply below_alloc | apply pw_below_drewN | apply below_drew1) | exact HB.out))) : w.heap.size ≤ gb554)); have n3_ := Aside0.mk ((by rw [hg]; exact (below_size (by repeat (first | (with_reducible first | exact HB.out | apply below_alloc | apply pw_below_drewN | apply below_drew1) | exact HB.out))) : w.heap.size ≤ gb554)); clear HB; have HB := n0_; have BK554 := n1_; have GW554 := n2_; have GE554 := n3_; clear n0_ n1_ n2_ n3_; clear hb hbox hg) | ((with_reducible refine gate_dst (N := 5) rfl ?_); (try (refine gate_guard (by rfl) ?_; dsimp only)); refine box_event ?hg (N := 5) ?hd (cs := #[.int .u64 a2_0, .int .u64 a2_1]) (t := 43) ?hr ?_; (case hd => rfl); (case hg => rfl); (case hr => first | (go_simp; done) | (go_simp; rfl)); intro gb555 hg w8 hbox hb; have n0_ := Aside0.mk (blk_below (g := gb554) (o := .cells #[.int .u64 a1_0, .int .u64 a1_1] 43 (0, 0)) (by (with_reducible repeat (first | refine blk_drewN ?_ _ | refine blk_drew ?_ | refine blk_alloc ?_ _)); exact BK554.out) hb); have n1_ := Aside0.mk (below_step (by repeat (first | (with_reducible first | exact HB.out | apply below_alloc | apply pw_below_drewN | apply below_drew1 | refine below_set ?_ GE554.out) | exact HB.out)) hb); have n2_ := Aside0.mk (hbox); have n3_ := Aside0.mk ((by rw [hg]; exact (below_size (by repeat (first | (with_reducible first | exact HB.out | apply below_alloc | apply pw_below_drewN | apply below_drew1 | refine below_set ?_ GE554.out) | exact HB.out))) : w.heap.size ≤ gb555)); have n4_ := Aside0.mk ((by rw [hg]; exact (below_size (by repeat (first | (with_reducible first | exact HB.out | apply below_alloc | apply pw_below_drewN | apply below_drew1 | refine below_set ?_ GE554.out) | exact HB.out))) : w.heap.size ≤ gb555)); have n5_ := Aside0.mk ((by rw [hg]; exact Nat.ne_of_lt (blk_lt (g := gb554) (o := .cells #[.int .u64 a1_0, .int .u64 a1_1] 43 (0, 0)) (by (with_reducible repeat (first | refine blk_drewN ?_ _ | refine blk_drew ?_ | refine blk_alloc ?_ _)); exact BK554.out)) : gb554 ≠ gb555)); have n6_ := Aside0.mk ((by rw [hg]; exact Nat.ne_of_gt (blk_lt (g := gb554) (o := .cells #[.int .u64 a1_0, .int .u64 a1_1] 43 (0, 0)) (by (with_reducible repeat (first | refine blk_drewN ?_ _ | refine blk_drew ?_ | refine blk_alloc ?_ _)); exact BK554.out)) : gb555 ≠ gb554)); clear BK554; clear HB; have BK554 := n0_; have HB := n1_; have BK555 := n2_; have GW555 := n3_; have GE555 := n4_; have NB554_555 := n5_; have NB555_554 := n6_; clear n0_ n1_ n2_ n3_ n4_ n5_ n6_; clear hb hbox hg; have hnb9 := NB554_555.out; have hnc9 := NB555_554.out; have hcz10_0 : w8.cell? ⟨gb554, 0, none⟩ = some (.int .u64 a1_0) := (blk_cell BK554.out 0).trans rfl; have hcz10_1 : w8.cell? ⟨gb554, 1, none⟩ = some (.int .u64 a1_1) := (blk_cell BK554.out 1).trans rfl; have hfz10_0 := blk_frozen BK554.out 0; have hfz10_1 := blk_frozen BK554.out 1) | (go_at_call 41; (with_reducible refine (sub_Leaves.calls k a0 a1_0 a1_1 t556 t559 _ A4.out).mono ?_); rintro e w11 ⟨v557, rfl, ho0, hb⟩; have n0_ := Aside0.mk (Kd.R_lower ho0 (below_size (by repeat (first | (with_reducible first | exact HB.out | apply below_alloc | apply pw_below_drewN | apply below_drew1 | refine below_set ?_ GE554.out | refine below_set ?_ GE555.out) | exact HB.out)))); have n1_ := Aside0.mk (blk_below (g := gb554) (o := .cells #[.int .u64 a1_0, .int .u64 a1_1] 43 (0, 0)) (by (with_reducible repeat (first | refine blk_drewN ?_ _ | refine blk_drew ?_ | refine blk_alloc ?_ _)); exact BK554.out) hb); have n2_ := Aside0.mk (blk_below (g := gb555) (o := .cells #[.int .u64 a2_0, .int .u64 a2_1] 43 (0, 0)) (by (with_reducible repeat (first | refine blk_drewN ?_ _ | refine blk_drew ?_ | refine blk_alloc ?_ _)); exact BK555.out) hb); have n3_ := Aside0.mk (below_step (by repeat (first | (with_reducible first | exact HB.out | apply below_alloc | apply pw_below_drewN | apply below_drew1 | refine below_set ?_ GE554.out | refine below_set ?_ GE555.out) | exact HB.out)) hb); clear BK554; clear BK555; clear HB; have HO558 := n0_; have BK554 := n1_; have BK555 := n2_; have HB := n3_; clear n0_ n1_ n2_ n3_; (try clear hb); (try clear hb2); (try clear hk); (try clear hi); (try clear ho0); have hcz12_0 : w11.cell? ⟨gb555, 0, none⟩ = some (.int .u64 a2_0) := (blk_cell BK555.out 0).trans rfl; have hcz12_1 : w11.cell? ⟨gb555, 1, none⟩ = some (.int .u64 a2_1) := (blk_cell BK555.out 1).trans rfl; have hfz12_0 := blk_frozen BK555.out 0; have hfz12_1 := blk_frozen BK555.out 1) | (go_at_call 41; (with_reducible refine (sub_Leaves.calls k a0 a2_0 a2_1 t560 t563 _ A5.out).mono ?_); rintro e w13 ⟨v561, rfl, ho0, hb⟩; have n0_ := Aside0.mk (Kd.R_elder' (by (with_reducible repeat (first | apply Kd.R_alloc | apply Kd.R_drewN | apply Kd.R_drew)); exact HO558.out) (Kd.R_base ho0) hb); have n1_ := Aside0.mk (Kd.R_lower (Kd.R_new' ho0 (Kd.R_lt (by (with_reducible repeat (first | apply Kd.R_alloc | apply Kd.R_drewN | apply Kd.R_drew)); exact HO558.out))) (below_size (by repeat (first | (with_reducible first | exact HB.out | apply below_alloc | apply pw_below_drewN | apply below_drew1 | refine below_set ?_ GE554.out | refine below_set ?_ GE555.out) | exact HB.out)))); have n2_ := Aside0.mk (blk_below (g := gb554) (o := .cells #[.int .u64 a1_0, .int .u64 a1_1] 43 (0, 0)) (by (with_reducible repeat (first | refine blk_drewN ?_ _ | refine blk_drew ?_ | refine blk_alloc ?_ _)); exact BK554.out) hb); have n3_ := Aside0.mk (blk_below (g := gb555) (o := .cells #[.int .u64 a2_0, .int .u64 a2_1] 43 (0, 0)) (by (with_reducible repeat (first | refine blk_drewN ?_ _ | refine blk_drew ?_ | refine blk_alloc ?_ _)); exact BK555.out) hb); have n4_ := Aside0.mk (below_step (by repeat (first | (with_reducible first | exact HB.out | apply below_alloc | apply pw_below_drewN | apply below_drew1 | refine below_set ?_ GE554.out | refine below_set ?_ GE555.out) | exact HB.out)) hb); clear HO558; clear BK554; clear BK555; clear HB; have HO558 := n0_; have HO562 := n1_; have BK554 := n2_; have BK555 := n3_; have HB := n4_; clear n0_ n1_ n2_ n3_ n4_; (try clear hb); (try clear hb2); (try clear hk); (try clear hi); (try clear ho0))); go_upto_region 3 with (first | ((with_reducible refine gate_dst (N := 4) rfl ?_); (try (refine gate_guard (by rfl) ?_; dsimp only)); refine box_event ?hg (N := 4) ?hd (cs := #[.int .u64 a1_0, .int .u64 a1_1]) (t := 43) ?hr ?_; (case hd => rfl); (case hg => rfl); (case hr => first | (go_simp; done) | (go_simp; rfl)); intro gb554 hg w7 hbox hb; have n0_ := Aside0.mk (below_step (by repeat (first | (with_reducible first | exact HB.out | apply below_alloc | apply pw_below_drewN | apply below_drew1) | exact HB.out)) hb); have n1_ := Aside0.mk (hbox); have n2_ := Aside0.mk ((by rw [hg]; exact (below_size (by repeat (first | (with_reducible first | exact HB.out | apply below_alloc | apply pw_below_drewN | apply below_drew1) | exact HB.out))) : w.heap.size ≤ gb554)); have n3_ := Aside0.mk ((by rw [hg]; exact (below_size (by repeat (first | (with_reducible first | exact HB.out | apply below_alloc | apply pw_below_drewN | apply below_drew1) | exact HB.out))) : w.heap.size ≤ gb554)); clear HB; have HB := n0_; have BK554 := n1_; have GW554 := n2_; have GE554 := n3_; clear n0_ n1_ n2_ n3_; clear hb hbox hg) | ((with_reducible refine gate_dst (N := 5) rfl ?_); (try (refine gate_guard (by rfl) ?_; dsimp only)); refine box_event ?hg (N := 5) ?hd (cs := #[.int .u64 a2_0, .int .u64 a2_1]) (t := 43) ?hr ?_; (case hd => rfl); (case hg => rfl); (case hr => first | (go_simp; done) | (go_simp; rfl)); intro gb555 hg w8 hbox hb; have n0_ := Aside0.mk (blk_below (g := gb554) (o := .cells #[.int .u64 a1_0, .int .u64 a1_1] 43 (0, 0)) (by (with_reducible repeat (first | refine blk_drewN ?_ _ | refine blk_drew ?_ | refine blk_alloc ?_ _)); exact BK554.out) hb); have n1_ := Aside0.mk (below_step (by repeat (first | (with_reducible first | exact HB.out | apply below_alloc | apply pw_below_drewN | apply below_drew1 | refine below_set ?_ GE554.out) | exact HB.out)) hb); have n2_ := Aside0.mk (hbox); have n3_ := Aside0.mk ((by rw [hg]; exact (below_size (by repeat (first | (with_reducible first | exact HB.out | apply below_alloc | apply pw_below_drewN | apply below_drew1 | refine below_set ?_ GE554.out) | exact HB.out))) : w.heap.size ≤ gb555)); have n4_ := Aside0.mk ((by rw [hg]; exact (below_size (by repeat (first | (with_reducible first | exact HB.out | apply below_alloc | apply pw_below_drewN | apply below_drew1 | refine below_set ?_ GE554.out) | exact HB.out))) : w.heap.size ≤ gb555)); have n5_ := Aside0.mk ((by rw [hg]; exact Nat.ne_of_lt (blk_lt (g := gb554) (o := .cells #[.int .u64 a1_0, .int .u64 a1_1] 43 (0, 0)) (by (with_reducible repeat (first | refine blk_drewN ?_ _ | refine blk_drew ?_ | refine blk_alloc ?_ _)); exact BK554.out)) : gb554 ≠ gb555)); have n6_ := Aside0.mk ((by rw [hg]; exact Nat.ne_of_gt (blk_lt (g := gb554) (o := .cells #[.int .u64 a1_0, .int .u64 a1_1] 43 (0, 0)) (by (with_reducible repeat (first | refine blk_drewN ?_ _ | refine blk_drew ?_ | refine blk_alloc ?_ _)); exact BK554.out)) : gb555 ≠ gb554)); clear BK554; clear HB; have BK554 := n0_; have HB := n1_; have BK555 := n2_; have GW555 := n3_; have GE555 := n4_; have NB554_555 := n5_; have NB555_554 := n6_; clear n0_ n1_ n2_ n3_ n4_ n5_ n6_; clear hb hbox hg; have hnb9 := NB554_555.out; have hnc9 := NB555_554.out; have hcz10_0 : w8.cell? ⟨gb554, 0, none⟩ = some (.int .u64 a1_0) := (blk_cell BK554.out 0).trans rfl; have hcz10_1 : w8.cell? ⟨gb554, 1, none⟩ = some (.int .u64 a1_1) := (blk_cell BK554.out 1).trans rfl; have hfz10_0 := blk_frozen BK554.out 0; have hfz10_1 := blk_frozen BK554.out 1) | (go_at_call 41; (with_reducible refine (sub_Leaves.calls k a0 a1_0 a1_1 t556 t559 _ A4.out).mono ?_); rintro e w11 ⟨v557, rfl, ho0, hb⟩; have n0_ := Aside0.mk (Kd.R_lower ho0 (below_size (by repeat (first | (with_reducible first | exact HB.out | apply below_alloc | apply pw_below_drewN | apply below_drew1 | refine below_set ?_ GE554.out | refine below_set ?_ GE555.out) | exact HB.out)))); have n1_ := Aside0.mk (blk_below (g := gb554) (o := .cells #[.int .u64 a1_0, .int .u64 a1_1] 43 (0, 0)) (by (with_reducible repeat (first | refine blk_drewN ?_ _ | refine blk_drew ?_ | refine blk_alloc ?_ _)); exact BK554.out) hb); have n2_ := Aside0.mk (blk_below (g := gb555) (o := .cells #[.int .u64 a2_0, .int .u64 a2_1] 43 (0, 0)) (by (with_reducible repeat (first | refine blk_drewN ?_ _ | refine blk_drew ?_ | refine blk_alloc ?_ _)); exact BK555.out) hb); have n3_ := Aside0.mk (below_step (by repeat (first | (with_reducible first | exact HB.out | apply below_alloc | apply pw_below_drewN | apply below_drew1 | refine below_set ?_ GE554.out | refine below_set ?_ GE555.out) | exact HB.out)) hb); clear BK554; clear BK555; clear HB; have HO558 := n0_; have BK554 := n1_; have BK555 := n2_; have HB := n3_; clear n0_ n1_ n2_ n3_; (try clear hb); (try clear hb2); (try clear hk); (try clear hi); (try clear ho0); have hcz12_0 : w11.cell? ⟨gb555, 0, none⟩ = some (.int .u64 a2_0) := (blk_cell BK555.out 0).trans rfl; have hcz12_1 : w11.cell? ⟨gb555, 1, none⟩ = some (.int .u64 a2_1) := (blk_cell BK555.out 1).trans rfl; have hfz12_0 := blk_frozen BK555.out 0; have hfz12_1 := blk_frozen BK555.out 1) | (go_at_call 41; (with_reducible refine (sub_Leaves.calls k a0 a2_0 a2_1 t560 t563 _ A5.out).mono ?_); rintro e w13 ⟨v561, rfl, ho0, hb⟩; have n0_ := Aside0.mk (Kd.R_elder' (by (with_reducible repeat (first | apply Kd.R_alloc | apply Kd.R_drewN | apply Kd.R_drew)); exact HO558.out) (Kd.R_base ho0) hb); have n1_ := Aside0.mk (Kd.R_lower (Kd.R_new' ho0 (Kd.R_lt (by (with_reducible repeat (first | apply Kd.R_alloc | apply Kd.R_drewN | apply Kd.R_drew)); exact HO558.out))) (below_size (by repeat (first | (with_reducible first | exact HB.out | apply below_alloc | apply pw_below_drewN | apply below_drew1 | refine below_set ?_ GE554.out | refine below_set ?_ GE555.out) | exact HB.out)))); have n2_ := Aside0.mk (blk_below (g := gb554) (o := .cells #[.int .u64 a1_0, .int .u64 a1_1] 43 (0, 0)) (by (with_reducible repeat (first | refine blk_drewN ?_ _ | refine blk_drew ?_ | refine blk_alloc ?_ _)); exact BK554.out) hb); have n3_ := Aside0.mk (blk_below (g := gb555) (o := .cells #[.int .u64 a2_0, .int .u64 a2_1] 43 (0, 0)) (by (with_reducible repeat (first | refine blk_drewN ?_ _ | refine blk_drew ?_ | refine blk_alloc ?_ _)); exact BK555.out) hb); have n4_ := Aside0.mk (below_step (by repeat (first | (with_reducible first | exact HB.out | apply below_alloc | apply pw_below_drewN | apply below_drew1 | refine below_set ?_ GE554.out | refine below_set ?_ GE555.out) | exact HB.out)) hb); clear HO558; clear BK554; clear BK555; clear HB; have HO558 := n0_; have HO562 := n1_; have BK554 := n2_; have BK555 := n3_; have HB := n4_; clear n0_ n1_ n2_ n3_ n4_; (try clear hb); (try clear hb2); (try clear hk); (try clear hi); (try clear ho0))))
  (try simp only [Act.put, List.setIfInBounds_toArray, List.set_cons_zero, List.set_cons_succ])
  go_cut [31] (fun v31 wc => ∃ (kq : Nat) (x31_5 : Bool), v31 = .bool x31_5 ∧ Aside0 (sub_Touch.j0 kq t556 t560 x31_5 = some (r1, r2)) ∧ Aside0 (kq ≤ k) ∧ Aside0 (Kd.R k34 34 wc w.heap.size (fun k_ => some k_ ≠ (v561 : Value).ownBlock) v557 t556) ∧ Aside0 (Kd.R k34 34 wc w.heap.size (fun k_ => some k_ ≠ (v557 : Value).ownBlock) v561 t560) ∧ Aside0 (wc.heap[gb554]? = some (.cells #[.int .u64 a1_0, .int .u64 a1_1] 43 (0, 0))) ∧ Aside0 (wc.heap[gb555]? = some (.cells #[.int .u64 a2_0, .int .u64 a2_1] 43 (0, 0))) ∧ Aside0 (Below w.heap.size w wc))
  case first =>
    have H := HC6.out
    clear HC6
    by_cases c14 : t559 = 0
    · rw [if_pos c14] at H
      have c14b0 : (t559 == 0) = true := beq_iff_eq.mpr c14
      have c14b1 : (t559 != 0) = false := bne_eq_false_iff_eq.mpr c14
      clear c14
      (first | rw [c14b0] | (simp only [i64_w, i32_w]; rw [c14b0]) | skip)
      have H' := Aside0.mk H
      clear H
      go_wp2
      repeat (go_quiet (fail); try go_wp2)
      go_meet
      case rel => exact ⟨_, ((t563 != 0)), (by first | rfl | (simp; done) | (simp [*]; done)), H', ⟨by first | omega | exact Nat.le_refl _⟩, ⟨by (with_reducible repeat (first | apply Kd.R_alloc | apply Kd.R_drewN | apply Kd.R_drew)); exact Kd.R_mono HO558.out (fun _ hk => hk.2)⟩, ⟨by (with_reducible repeat (first | apply Kd.R_alloc | apply Kd.R_drewN | apply Kd.R_drew)); exact Kd.R_mono HO562.out (fun _ hk => hk.2)⟩, ⟨by (with_reducible repeat (first | refine blk_drewN ?_ _ | refine blk_drew ?_ | refine blk_alloc ?_ _)); exact BK554.out⟩, ⟨by (with_reducible repeat (first | refine blk_drewN ?_ _ | refine blk_drew ?_ | refine blk_alloc ?_ _)); exact BK555.out⟩, ⟨by repeat (first | (with_reducible first | exact HB.out | apply below_alloc | apply pw_below_drewN | apply below_drew1 | refine below_set ?_ GE554.out | refine below_set ?_ GE555.out) | exact HB.out)⟩⟩
    · rw [if_neg c14] at H
      have c14b0 : (t559 == 0) = false := beq_eq_false_iff_ne.mpr c14
      have c14b1 : (t559 != 0) = true := bne_iff_ne.mpr c14
      (first | rw [c14b0] | (simp only [i64_w, i32_w]; rw [c14b0]) | skip)
      have H' := Aside0.mk H
      clear H
      go_wp2
      repeat (go_quiet (fail); try go_wp2)
      go_meet
      case rel => exact ⟨_, (true), (by first | rfl | (simp; done) | (simp [*]; done)), H', ⟨by first | omega | exact Nat.le_refl _⟩, ⟨by (with_reducible repeat (first | apply Kd.R_alloc | apply Kd.R_drewN | apply Kd.R_drew)); exact Kd.R_mono HO558.out (fun _ hk => hk.2)⟩, ⟨by (with_reducible repeat (first | apply Kd.R_alloc | apply Kd.R_drewN | apply Kd.R_drew)); exact Kd.R_mono HO562.out (fun _ hk => hk.2)⟩, ⟨by (with_reducible repeat (first | refine blk_drewN ?_ _ | refine blk_drew ?_ | refine blk_alloc ?_ _)); exact BK554.out⟩, ⟨by (with_reducible repeat (first | refine blk_drewN ?_ _ | refine blk_drew ?_ | refine blk_alloc ?_ _)); exact BK555.out⟩, ⟨by repeat (first | (with_reducible first | exact HB.out | apply below_alloc | apply pw_below_drewN | apply below_drew1 | refine below_set ?_ GE554.out | refine below_set ?_ GE555.out) | exact HB.out)⟩⟩
  case rest =>
    clear HC6
    try clear c1
    try clear p2
    try clear c4
    try clear c9
    try clear c14
    try clear c14b0
    try clear c14b1
    try clear hcz10_0
    try clear hcz10_1
    try clear hcz12_0
    try clear hcz12_1
    try clear hfz10_0
    try clear hfz10_1
    try clear hfz12_0
    try clear hfz12_1
    obtain ⟨kq, x31_5, rfl, HA, HJ5, HO_8, HO_10, BK554, BK555, HB⟩ := hcut
    cases kq with
    | zero => exact absurd HA.out (by simp [sub_Touch.j0])
    | succ kj5 =>
      have H := HA.out
      clear HA
      simp only [sub_Touch.j0] at H
      by_cases c15 : x31_5 = true
      · subst c15
        have H1 : (some (false, 1)) = some (r1, r2) := by rw [if_pos rfl] at H; exact H
        clear H
        have H := H1
        clear H1
        simp only [Option.some.injEq, Prod.mk.injEq] at H
        obtain ⟨rfl, rfl⟩ := H
        go_wp2
        repeat (go_quiet (fail); try go_wp2)
        go_ret2
        exact ⟨by first | rfl | (simp [errW_none, errW_some] <;> rfl) | (simp [*, errW_none, errW_some] <;> rfl), by repeat (first | (with_reducible first | exact HB.out | apply below_alloc | apply pw_below_drewN | apply below_drew1 | refine below_set ?_ GE554.out | refine below_set ?_ GE555.out) | exact HB.out)⟩
      · replace c15 := Bool.eq_false_iff.mpr c15
        subst c15
        have H1 : (sub_Touch.l0 kj5 t556 t560 0 0) = some (r1, r2) := by rw [if_neg (show ¬ (false = true) by decide)] at H; exact H
        clear H
        have H := H1
        clear H1
        have H' := Aside0.mk H
        clear H
        go_wp2
        repeat (go_quiet (fail); try go_wp2)
        go_loopg [12, 13] kj5 (fun kq v12 v13 w' => ∃ (x12_2 : Int) (x13_2 : Int), v12 = .int .i64 x12_2 ∧ v13 = .int .i64 x13_2 ∧ Aside0 (sub_Touch.l0 kq t556 t560 x12_2 x13_2 = some (r1, r2)) ∧ Aside0 (kq ≤ kj5) ∧ Aside0 (Kd.R k34 34 w' w.heap.size (fun k_ => some k_ ≠ (v561 : Value).ownBlock) v557 t556) ∧ Aside0 (Kd.R k34 34 w' w.heap.size (fun k_ => some k_ ≠ (v557 : Value).ownBlock) v561 t560) ∧ Aside0 (w'.heap[gb554]? = some (.cells #[.int .u64 a1_0, .int .u64 a1_1] 43 (0, 0))) ∧ Aside0 (w'.heap[gb555]? = some (.cells #[.int .u64 a2_0, .int .u64 a2_1] 43 (0, 0))) ∧ Aside0 (Below w.heap.size w w'))
        case atStart => exact ⟨(0), (0), (by first | rfl | (simp; done) | (simp [*]; done)), (by first | rfl | (simp; done) | (simp [*]; done)), H', ⟨Nat.le_refl _⟩, ⟨by (with_reducible repeat (first | apply Kd.R_alloc | apply Kd.R_drewN | apply Kd.R_drew)); exact HO_8.out⟩, ⟨by (with_reducible repeat (first | apply Kd.R_alloc | apply Kd.R_drewN | apply Kd.R_drew)); exact HO_10.out⟩, ⟨by (with_reducible repeat (first | refine blk_drewN ?_ _ | refine blk_drew ?_ | refine blk_alloc ?_ _)); exact BK554.out⟩, ⟨by (with_reducible repeat (first | refine blk_drewN ?_ _ | refine blk_drew ?_ | refine blk_alloc ?_ _)); exact BK555.out⟩, ⟨by repeat (first | (with_reducible first | exact HB.out | apply below_alloc | apply pw_below_drewN | apply below_drew1 | refine below_set ?_ GE554.out | refine below_set ?_ GE555.out) | exact HB.out)⟩⟩
        case round =>
          clear H'
          try clear c1
          try clear p2
          try clear c4
          try clear c9
          try clear c14
          try clear c14b0
          try clear c14b1
          try clear c15
          try clear hcz10_0
          try clear hcz10_1
          try clear hcz12_0
          try clear hcz12_1
          try clear hfz10_0
          try clear hfz10_1
          try clear hfz12_0
          try clear hfz12_1
          try clear p2
          obtain ⟨x12_2, x13_2, rfl, rfl, HA, HK2, HO_8, HO_10, BK554, BK555, HB⟩ := hrel
          cases gk with
          | zero => exact absurd HA.out (by simp [sub_Touch.l0])
          | succ k2 =>
            have H := HA.out
            clear HA
            simp only [sub_Touch.l0] at H
            have HC16 := Aside0.mk H
            clear H
            go_upto_region 6 with (fail)
            repeat (go_quiet (fail); go_upto_region 6 with (fail))
            go_cut [41] (fun v41 wc => ∃ (kq : Nat) (x41_15 : Bool), v41 = .bool x41_15 ∧ Aside0 (sub_Touch.j2 kq t556 t560 x12_2 x13_2 x41_15 = some (r1, r2)) ∧ Aside0 (kq ≤ k2) ∧ Aside0 (Kd.R k34 34 wc w.heap.size (fun k_ => some k_ ≠ (v561 : Value).ownBlock) v557 t556) ∧ Aside0 (Kd.R k34 34 wc w.heap.size (fun k_ => some k_ ≠ (v557 : Value).ownBlock) v561 t560) ∧ Aside0 (wc.heap[gb554]? = some (.cells #[.int .u64 a1_0, .int .u64 a1_1] 43 (0, 0))) ∧ Aside0 (wc.heap[gb555]? = some (.cells #[.int .u64 a2_0, .int .u64 a2_1] 43 (0, 0))) ∧ Aside0 (Below w.heap.size w wc))
            case first =>
              have H := HC16.out
              clear HC16
              by_cases c17 : x12_2 < (t556.length : Int)
              · rw [if_pos c17] at H
                have c17b0 : decide (x12_2 < (t556.length : Int)) = true := decide_eq_true c17
                clear c17
                (first | rw [c17b0] | (simp only [i64_w, i32_w]; rw [c17b0]) | skip)
                have H' := Aside0.mk H
                clear H
                obtain ⟨Ao18, co18, eo18⟩ := Kd.R_slice HO_8.out
                subst eo18
                obtain ⟨Ao19, co19, eo19⟩ := Kd.R_slice HO_10.out
                subst eo19
                go_wp2
                repeat (go_quiet (fail); try go_wp2)
                go_meet
                case rel => exact ⟨_, (decide (x13_2 < (t560.length : Int))), (by first | rfl | (simp; done) | (simp [*]; done)), H', ⟨by have := HJ5.out; have := HK2.out; first | omega | exact Nat.le_refl _⟩, ⟨by (with_reducible repeat (first | apply Kd.R_alloc | apply Kd.R_drewN | apply Kd.R_drew)); exact HO_8.out⟩, ⟨by (with_reducible repeat (first | apply Kd.R_alloc | apply Kd.R_drewN | apply Kd.R_drew)); exact HO_10.out⟩, ⟨by (with_reducible repeat (first | refine blk_drewN ?_ _ | refine blk_drew ?_ | refine blk_alloc ?_ _)); exact BK554.out⟩, ⟨by (with_reducible repeat (first | refine blk_drewN ?_ _ | refine blk_drew ?_ | refine blk_alloc ?_ _)); exact BK555.out⟩, ⟨by repeat (first | (with_reducible first | exact HB.out | apply below_alloc | apply pw_below_drewN | apply below_drew1 | refine below_set ?_ GE554.out | refine below_set ?_ GE555.out) | exact HB.out)⟩⟩
              · rw [if_neg c17] at H
                have c17b0 : decide (x12_2 < (t556.length : Int)) = false := decide_eq_false c17
                clear c17
                (first | rw [c17b0] | (simp only [i64_w, i32_w]; rw [c17b0]) | skip)
                have H' := Aside0.mk H
                clear H
                obtain ⟨Ao20, co20, eo20⟩ := Kd.R_slice HO_8.out
                subst eo20
                go_wp2
                repeat (go_quiet (fail); try go_wp2)
                go_meet
                case rel => exact ⟨_, (false), (by first | rfl | (simp; done) | (simp [*]; done)), H', ⟨by have := HJ5.out; have := HK2.out; first | omega | exact Nat.le_refl _⟩, ⟨by (with_reducible repeat (first | apply Kd.R_alloc | apply Kd.R_drewN | apply Kd.R_drew)); exact HO_8.out⟩, ⟨by (with_reducible repeat (first | apply Kd.R_alloc | apply Kd.R_drewN | apply Kd.R_drew)); exact HO_10.out⟩, ⟨by (with_reducible repeat (first | refine blk_drewN ?_ _ | refine blk_drew ?_ | refine blk_alloc ?_ _)); exact BK554.out⟩, ⟨by (with_reducible repeat (first | refine blk_drewN ?_ _ | refine blk_drew ?_ | refine blk_alloc ?_ _)); exact BK555.out⟩, ⟨by repeat (first | (with_reducible first | exact HB.out | apply below_alloc | apply pw_below_drewN | apply below_drew1 | refine below_set ?_ GE554.out | refine below_set ?_ GE555.out) | exact HB.out)⟩⟩
            case rest =>
              clear HC16
              try clear c1
              try clear p2
              try clear c4
              try clear c9
              try clear c14
              try clear c14b0
              try clear c14b1
              try clear c15
              try clear c17
              try clear c17b0
              try clear hcz10_0
              try clear hcz10_1
              try clear hcz12_0
              try clear hcz12_1
              try clear hfz10_0
              try clear hfz10_1
              try clear hfz12_0
              try clear hfz12_1
              try clear p2
              obtain ⟨kq, x41_15, rfl, HA, HJ15, HO_8, HO_10, BK554, BK555, HB⟩ := hcut
              cases kq with
              | zero => exact absurd HA.out (by simp [sub_Touch.j2])
              | succ kj15 =>
                have H := HA.out
                clear HA
                simp only [sub_Touch.j2] at H
                by_cases c21 : x41_15 = true
                · subst c21
                  have H1 : (if 0 ≤ x12_2 then (if x12_2 < (t556.length : Int) then (if 0 ≤ x13_2 then (if x13_2 < (t560.length : Int) then (if ((rd_T34 t556 x12_2).f1) < ((rd_T34 t560 x13_2).f0) then (sub_Touch.l0 kj15 t556 t560 (wrap64 (x12_2 + 1)) x13_2) else (if ((rd_T34 t560 x13_2).f1) < ((rd_T34 t556 x12_2).f0) then (sub_Touch.l0 kj15 t556 t560 x12_2 (wrap64 (x13_2 + 1))) else (some (true, 0)))) else (none)) else (none)) else (none)) else (none)) = some (r1, r2) := by rw [if_pos rfl] at H; exact H
                  clear H
                  have H := H1
                  clear H1
                  by_cases c22 : 0 ≤ x12_2
                  · rw [if_pos c22] at H
                    have c22b0 : decide (0 ≤ x12_2) = true := decide_eq_true c22
                    clear c22
                    by_cases c23 : x12_2 < (t556.length : Int)
                    · rw [if_pos c23] at H
                      have c23b0 : decide (x12_2 < (t556.length : Int)) = true := decide_eq_true c23
                      clear c23
                      by_cases c24 : 0 ≤ x13_2
                      · rw [if_pos c24] at H
                        have c24b0 : decide (0 ≤ x13_2) = true := decide_eq_true c24
                        clear c24
                        by_cases c25 : x13_2 < (t560.length : Int)
                        · rw [if_pos c25] at H
                          have c25b0 : decide (x13_2 < (t560.length : Int)) = true := decide_eq_true c25
                          clear c25
                          by_cases c26 : ((rd_T34 t556 x12_2).f1) < ((rd_T34 t560 x13_2).f0)
                          · rw [if_pos c26] at H
                            have c26b0 : decide (((rd_T34 t556 x12_2).f1) < ((rd_T34 t560 x13_2).f0)) = true := decide_eq_true c26
                            clear c26
                            have H' := Aside0.mk H
                            clear H
                            obtain ⟨Ao27, co27, eo27⟩ := Kd.R_slice HO_8.out
                            subst eo27
                            have p564 : 0 ≤ (x12_2 : Int) := of_decide_eq_true (by first | (with_reducible assumption) | assumption)
                            have q564 : x12_2 < (t556.length : Int) := of_decide_eq_true (by first | (with_reducible assumption) | assumption)
                            obtain ⟨ad564, e564, hx564_0, hx564_1⟩ := at_T34 (Kd.R_reads' HO_8.out).2.2 x12_2 p564 q564
                            cases e564
                            replace p564 := eq_true p564
                            replace q564 := eq_true q564
                            obtain ⟨Ao28, co28, eo28⟩ := Kd.R_slice HO_10.out
                            subst eo28
                            have p565 : 0 ≤ (x13_2 : Int) := of_decide_eq_true (by first | (with_reducible assumption) | assumption)
                            have q565 : x13_2 < (t560.length : Int) := of_decide_eq_true (by first | (with_reducible assumption) | assumption)
                            obtain ⟨ad565, e565, hx565_0, hx565_1⟩ := at_T34 (Kd.R_reads' HO_10.out).2.2 x13_2 p565 q565
                            cases e565
                            replace p565 := eq_true p565
                            replace q565 := eq_true q565
                            go_wp2
                            repeat (go_quiet (fail); try go_wp2)
                            go_roundg kj15
                            case measure => have := HJ5.out; have := HK2.out; have := HJ15.out; omega
                            case rel => exact ⟨(wrap64 (x12_2 + 1)), (x13_2), (by first | rfl | (simp; done) | (simp [*]; done)), (by first | rfl | (simp; done) | (simp [*]; done)), H', ⟨by have := HJ5.out; have := HK2.out; have := HJ15.out; omega⟩, ⟨by (with_reducible repeat (first | apply Kd.R_alloc | apply Kd.R_drewN | apply Kd.R_drew)); exact HO_8.out⟩, ⟨by (with_reducible repeat (first | apply Kd.R_alloc | apply Kd.R_drewN | apply Kd.R_drew)); exact HO_10.out⟩, ⟨by (with_reducible repeat (first | refine blk_drewN ?_ _ | refine blk_drew ?_ | refine blk_alloc ?_ _)); exact BK554.out⟩, ⟨by (with_reducible repeat (first | refine blk_drewN ?_ _ | refine blk_drew ?_ | refine blk_alloc ?_ _)); exact BK555.out⟩, ⟨by repeat (first | (with_reducible first | exact HB.out | apply below_alloc | apply pw_below_drewN | apply below_drew1 | refine below_set ?_ GE554.out | refine below_set ?_ GE555.out) | exact HB.out)⟩⟩
                          · rw [if_neg c26] at H
                            have c26b0 : decide (((rd_T34 t556 x12_2).f1) < ((rd_T34 t560 x13_2).f0)) = false := decide_eq_false c26
                            clear c26
                            by_cases c29 : ((rd_T34 t560 x13_2).f1) < ((rd_T34 t556 x12_2).f0)
                            · rw [if_pos c29] at H
                              have c29b0 : decide (((rd_T34 t560 x13_2).f1) < ((rd_T34 t556 x12_2).f0)) = true := decide_eq_true c29
                              clear c29
                              have H' := Aside0.mk H
                              clear H
                              obtain ⟨Ao30, co30, eo30⟩ := Kd.R_slice HO_8.out
                              subst eo30
                              have p564 : 0 ≤ (x12_2 : Int) := of_decide_eq_true (by first | (with_reducible assumption) | assumption)
                              have q564 : x12_2 < (t556.length : Int) := of_decide_eq_true (by first | (with_reducible assumption) | assumption)
                              obtain ⟨ad564, e564, hx564_0, hx564_1⟩ := at_T34 (Kd.R_reads' HO_8.out).2.2 x12_2 p564 q564
                              cases e564
                              replace p564 := eq_true p564
                              replace q564 := eq_true q564
                              obtain ⟨Ao31, co31, eo31⟩ := Kd.R_slice HO_10.out
                              subst eo31
                              have p565 : 0 ≤ (x13_2 : Int) := of_decide_eq_true (by first | (with_reducible assumption) | assumption)
                              have q565 : x13_2 < (t560.length : Int) := of_decide_eq_true (by first | (with_reducible assumption) | assumption)
                              obtain ⟨ad565, e565, hx565_0, hx565_1⟩ := at_T34 (Kd.R_reads' HO_10.out).2.2 x13_2 p565 q565
                              cases e565
                              replace p565 := eq_true p565
                              replace q565 := eq_true q565
                              have p566 : 0 ≤ (x13_2 : Int) := of_decide_eq_true (by first | (with_reducible assumption) | assumption)
                              have q566 : x13_2 < (t560.length : Int) := of_decide_eq_true (by first | (with_reducible assumption) | assumption)
                              obtain ⟨ad566, e566, hx566_0, hx566_1⟩ := at_T34 (Kd.R_reads' HO_10.out).2.2 x13_2 p566 q566
                              obtain rfl : ad565 = ad566 := (by injection e566)
                              replace p566 := eq_true p566
                              replace q566 := eq_true q566
                              have p567 : 0 ≤ (x12_2 : Int) := of_decide_eq_true (by first | (with_reducible assumption) | assumption)
                              have q567 : x12_2 < (t556.length : Int) := of_decide_eq_true (by first | (with_reducible assumption) | assumption)
                              obtain ⟨ad567, e567, hx567_0, hx567_1⟩ := at_T34 (Kd.R_reads' HO_8.out).2.2 x12_2 p567 q567
                              obtain rfl : ad564 = ad567 := (by injection e567)
                              replace p567 := eq_true p567
                              replace q567 := eq_true q567
                              go_wp2
                              repeat (go_quiet (fail); try go_wp2)
                              go_roundg kj15
                              case measure => have := HJ5.out; have := HK2.out; have := HJ15.out; omega
                              case rel => exact ⟨(x12_2), (wrap64 (x13_2 + 1)), (by first | rfl | (simp; done) | (simp [*]; done)), (by first | rfl | (simp; done) | (simp [*]; done)), H', ⟨by have := HJ5.out; have := HK2.out; have := HJ15.out; omega⟩, ⟨by (with_reducible repeat (first | apply Kd.R_alloc | apply Kd.R_drewN | apply Kd.R_drew)); exact HO_8.out⟩, ⟨by (with_reducible repeat (first | apply Kd.R_alloc | apply Kd.R_drewN | apply Kd.R_drew)); exact HO_10.out⟩, ⟨by (with_reducible repeat (first | refine blk_drewN ?_ _ | refine blk_drew ?_ | refine blk_alloc ?_ _)); exact BK554.out⟩, ⟨by (with_reducible repeat (first | refine blk_drewN ?_ _ | refine blk_drew ?_ | refine blk_alloc ?_ _)); exact BK555.out⟩, ⟨by repeat (first | (with_reducible first | exact HB.out | apply below_alloc | apply pw_below_drewN | apply below_drew1 | refine below_set ?_ GE554.out | refine below_set ?_ GE555.out) | exact HB.out)⟩⟩
                            · rw [if_neg c29] at H
                              have c29b0 : decide (((rd_T34 t560 x13_2).f1) < ((rd_T34 t556 x12_2).f0)) = false := decide_eq_false c29
                              clear c29
                              simp only [Option.some.injEq, Prod.mk.injEq] at H
                              obtain ⟨rfl, rfl⟩ := H
                              obtain ⟨Ao32, co32, eo32⟩ := Kd.R_slice HO_8.out
                              subst eo32
                              have p564 : 0 ≤ (x12_2 : Int) := of_decide_eq_true (by first | (with_reducible assumption) | assumption)
                              have q564 : x12_2 < (t556.length : Int) := of_decide_eq_true (by first | (with_reducible assumption) | assumption)
                              obtain ⟨ad564, e564, hx564_0, hx564_1⟩ := at_T34 (Kd.R_reads' HO_8.out).2.2 x12_2 p564 q564
                              cases e564
                              replace p564 := eq_true p564
                              replace q564 := eq_true q564
                              obtain ⟨Ao33, co33, eo33⟩ := Kd.R_slice HO_10.out
                              subst eo33
                              have p565 : 0 ≤ (x13_2 : Int) := of_decide_eq_true (by first | (with_reducible assumption) | assumption)
                              have q565 : x13_2 < (t560.length : Int) := of_decide_eq_true (by first | (with_reducible assumption) | assumption)
                              obtain ⟨ad565, e565, hx565_0, hx565_1⟩ := at_T34 (Kd.R_reads' HO_10.out).2.2 x13_2 p565 q565
                              cases e565
                              replace p565 := eq_true p565
                              replace q565 := eq_true q565
                              have p566 : 0 ≤ (x13_2 : Int) := of_decide_eq_true (by first | (with_reducible assumption) | assumption)
                              have q566 : x13_2 < (t560.length : Int) := of_decide_eq_true (by first | (with_reducible assumption) | assumption)
                              obtain ⟨ad566, e566, hx566_0, hx566_1⟩ := at_T34 (Kd.R_reads' HO_10.out).2.2 x13_2 p566 q566
                              obtain rfl : ad565 = ad566 := (by injection e566)
                              replace p566 := eq_true p566
                              replace q566 := eq_true q566
                              have p567 : 0 ≤ (x12_2 : Int) := of_decide_eq_true (by first | (with_reducible assumption) | assumption)
                              have q567 : x12_2 < (t556.length : Int) := of_decide_eq_true (by first | (with_reducible assumption) | assumption)
                              obtain ⟨ad567, e567, hx567_0, hx567_1⟩ := at_T34 (Kd.R_reads' HO_8.out).2.2 x12_2 p567 q567
                              obtain rfl : ad564 = ad567 := (by injection e567)
                              replace p567 := eq_true p567
                              replace q567 := eq_true q567
                              go_wp2
                              repeat (go_quiet (fail); try go_wp2)
                              go_ret2
                              exact ⟨by first | rfl | (simp [errW_none, errW_some] <;> rfl) | (simp [*, errW_none, errW_some] <;> rfl), by repeat (first | (with_reducible first | exact HB.out | apply below_alloc | apply pw_below_drewN | apply below_drew1 | refine below_set ?_ GE554.out | refine below_set ?_ GE555.out) | exact HB.out)⟩
                        · rw [if_neg c25] at H
                          exact absurd H (by simp)
                      · rw [if_neg c24] at H
                        exact absurd H (by simp)
                    · rw [if_neg c23] at H
                      exact absurd H (by simp)
                  · rw [if_neg c22] at H
                    exact absurd H (by simp)
                · replace c21 := Bool.eq_false_iff.mpr c21
                  subst c21
                  have H1 : (some (false, 0)) = some (r1, r2) := by rw [if_neg (show ¬ (false = true) by decide)] at H; exact H
                  clear H
                  have H := H1
                  clear H1
                  simp only [Option.some.injEq, Prod.mk.injEq] at H
                  obtain ⟨rfl, rfl⟩ := H
                  go_wp2
                  repeat (go_quiet (fail); try go_wp2)
                  go_ret2
                  exact ⟨by first | rfl | (simp [errW_none, errW_some] <;> rfl) | (simp [*, errW_none, errW_some] <;> rfl), by repeat (first | (with_reducible first | exact HB.out | apply below_alloc | apply pw_below_drewN | apply below_drew1 | refine below_set ?_ GE554.out | refine below_set ?_ GE555.out) | exact HB.out)⟩

/-! ### leaf_Gaps: function 42 -/
section
open Go.Shelf
attribute [local go_sem] Oper.semAt_some
def leaf_gapl (last : Int) : Int → List Int → List S34
  | fr, [] => if fr ≤ last then [⟨fr, last⟩] else []
  | fr, i :: l => (if fr < i then [⟨fr, IntKind.u64.wrap (i - 1)⟩] else []) ++ leaf_gapl last (IntKind.u64.wrap (i + 1)) l
set_option maxRecDepth 100000 in
set_option maxHeartbeats 2000000 in
theorem leaf_between1_in (n : Nat) (hn : 1 ≤ n) (l Bs Bl : Nat) (w : World) (A : Option Addr) (c : Nat) (zs : List Int) (last : Int) (hR : Kd.C (Kd.int .u64) w A zs.length zs) (hlen : zs.length ≤ 1000000) (J Jx : List S34 → World → Prop)
    (hY : ∀ pre x W, J pre W → pre.length < zs.length + 1 → YieldAt Fence.wide (n - 1) Try.prog l #[.agg #[.int .u64 x.f0, .int .u64 x.f1]] W fun e W' =>
      (e = .returned (.bool true) ∧ J (pre ++ [x]) W' ∧ (Below w.heap.size W W' ∧ (W.cell? ⟨Bl, 0, none⟩ = some (.int .u64 last) → W'.cell? ⟨Bl, 0, none⟩ = some (.int .u64 last)))) ∨ (e = .returned (.bool false) ∧ Jx (pre ++ [x]) W'))
    (W : World) (hB : Below w.heap.size w W) (hBs : W.cell? ⟨Bs, 0, none⟩ = some (.slice A zs.length c)) (hBl : W.cell? ⟨Bl, 0, none⟩ = some (.int .u64 last)) (h0 : J [] W) :
    CallsIn Fence.wide n Try.prog 86 #[.func (.yield l) #[] #[], .pointer (some ⟨Bs, 0, none⟩), .pointer (some ⟨Bl, 0, none⟩)] W fun e W' => (∃ v, e = .returned v) ∧ ((∃ ys, ys = leaf_gapl last 0 zs ∧ J ys W') ∨ (∃ pre, True ∧ Jx pre W')) := by
  refine callsIn_of_wp Try.func86 rfl trivial ?_ rfl
  simp only [Try.ntmps86, List.size_toArray, List.length_cons, List.length_nil, Nat.reduceAdd, Nat.reduceSub, Array.replicate_succ, Array.replicate_zero, List.push_toArray, List.append_toArray, List.nil_append, List.cons_append]
  gi_wp2
  gi_loopw [4, 9] (fun fr i wr => ∃ (k : Nat) (f : Int) (pre : List S34), k ≤ zs.length ∧ i = .int .i64 k ∧ fr = .int .u64 f ∧ J pre wr ∧ Below w.heap.size w wr ∧ wr.cell? ⟨Bl, 0, none⟩ = some (.int .u64 last) ∧ pre.length ≤ k ∧ pre ++ leaf_gapl last f (zs.drop k) = leaf_gapl last 0 zs)
    (fun _ i _ => zs.length - (intOf i).toNat)
  case atStart => exact ⟨0, 0, [], Nat.zero_le _, rfl, rfl, h0, hB, hBl, by simp, rfl⟩
  case round =>
    obtain ⟨k, f, pre, hk, rfl, rfl, hJ, hBr, hL, hpl, hpre⟩ := hrel
    have HP := Aside0.mk hpre
    have HR := Aside0.mk (Kd.C_below hR hBr)
    have HBr := Aside0.mk hBr
    clear hpre
    by_cases hlt : k < zs.length
    · obtain ⟨ad, e1, hx⟩ := Kd.at_int HR.out (k : Int) (by omega) (by omega)
      cases e1
      rw [Int.toNat_natCast] at hx
      have hd : zs.drop k = rd zs (k : Int) :: zs.drop (k + 1) := by
        rw [List.drop_eq_getElem_cons hlt]; congr 1
        unfold rd; simp [hlt]
      rw [hd] at HP
      generalize rd zs (k : Int) = x at *
      clear hd
      have hkd : decide ((k : Int) < (zs.length : Int)) = true := decide_eq_true (by omega)
      by_cases hf : f < x
      · obtain ⟨fn, tmps, assign, body, hy, hRn⟩ := hY pre ⟨f, IntKind.u64.wrap (x - 1)⟩ wr hJ (by omega)
        dsimp only at hy
        have hfd : decide (f < x) = true := decide_eq_true hf
        rw [leaf_gapl, if_pos hf] at HP
        clear hf
        gi_wp2
        refine hRn.mono ?_
        rintro e W3 (⟨rfl, hJ3, hk3, hl3⟩ | ⟨rfl, hJx3⟩)
        · gi_wp2
          go_roundw
          case rel => exact ⟨k + 1, _, _, by omega, by go_num, rfl, hJ3, HBr.out.trans hk3, hl3 hL, by simp; omega, by rw [← HP.out]; simp⟩
          case measure => simp [intOf]; omega
        · gi_wp2
          refine bodyPost_ret (results_none rfl _ _ _) rfl ?_
          exact ⟨⟨_, rfl⟩, .inr ⟨_, trivial, hJx3⟩⟩
      · have hfd : decide (f < x) = false := decide_eq_false hf
        rw [leaf_gapl, if_neg hf] at HP
        clear hf
        gi_wp2
        refine ⟨fun _ h => (by cases h), ?_⟩
        gi_wp2
        go_roundw
        case rel => exact ⟨k + 1, _, _, by omega, by go_num, rfl, hJ, HBr.out, hL, by omega, by rw [← HP.out]; simp⟩
        case measure => simp [intOf]; omega
    · obtain rfl : k = zs.length := by omega
      have hkd : decide ((zs.length : Int) < (zs.length : Int)) = false := decide_eq_false (by omega)
      rw [List.drop_length, leaf_gapl] at HP
      by_cases hf : f ≤ last
      · rw [if_pos hf] at HP
        have hfd : decide (f ≤ last) = true := decide_eq_true hf
        obtain ⟨fn, tmps, assign, body, hy, hRn⟩ := hY pre ⟨f, last⟩ wr hJ (by omega)
        dsimp only at hy
        clear hf
        gi_wp2
        refine hRn.mono ?_
        rintro e W3 (⟨rfl, hJ3, hk3, hl3⟩ | ⟨rfl, hJx3⟩)
        · gi_wp2
          go_end0
          exact ⟨⟨_, rfl⟩, .inl ⟨_, HP.out, hJ3⟩⟩
        · gi_wp2
          go_end0
          exact ⟨⟨_, rfl⟩, .inr ⟨_, trivial, hJx3⟩⟩
      · rw [if_neg hf, List.append_nil] at HP
        have hfd : decide (f ≤ last) = false := decide_eq_false hf
        clear hf
        gi_wp2
        go_end0
        exact ⟨⟨_, rfl⟩, .inl ⟨_, HP.out, hJ⟩⟩

theorem leaf_gapl_len (last : Int) : ∀ (l : List Int) (fr : Int), (leaf_gapl last fr l).length ≤ l.length + 1
  | [], fr => by unfold leaf_gapl; split <;> simp
  | i :: l, fr => by
    have := leaf_gapl_len last l (IntKind.u64.wrap (i + 1))
    unfold leaf_gapl; rw [List.length_append, List.length_cons]; split <;> simp <;> omega
theorem leaf_between.calls (A : Option Addr) (n c : Nat) (last : Int) (w : World) : Calls Try.prog 72 #[.slice A n c, .int .u64 last] w fun e w' => e = .returned (.func (.func 86) #[] #[.pointer (some ⟨w.heap.size, 0, none⟩), .pointer (some ⟨w.heap.size + 1, 0, none⟩)]) ∧ w' = (w.alloc (.cells #[.slice A n c] 22)).alloc (.cells #[.int .u64 last] 29) := by
  have hmf : ∀ (fn : Fn) (first cap : Array Value) (w : World), (Instr.makeFunc fn first cap).run Try.prog w = .ok (.func fn first cap) w := fun _ _ _ _ => rfl
  go_enter Try.func72, Try.ntmps72
  go_wp2
  go_ret
  exact ⟨by simp, rfl⟩

def cs_span (x : S34) : List Value := [.int .u64 x.f0, .int .u64 x.f1]
theorem reps_span {R : S34 → List Value → Prop} (hR : ∀ x, R x (cs_span x)) : ∀ xs : List S34, Reps R 2 xs (xs.flatMap cs_span)
  | [] => Reps.none _ _
  | x :: xs => Reps.c2 (hR x) (reps_span hR xs)
theorem R_span {e : Nat} {w : World} {base : Nat} {v : Value} {xs : List S34} (h : w.ownsRow base e 2 v xs.length (xs.flatMap cs_span)) : Kd.R k34 e w base (fun _ => True) v xs :=
  ⟨fun _ _ => trivial, _, h, reps_span (fun x => k34_mkM _ _ _ x) xs⟩
def GapsI (w : World) (B : Nat) (hi : Int) (pre : List S34) (W : World) : Prop := ((∃ v, Boxed W B 56 v ∧ W.ownsRow w.heap.size 34 2 v pre.length (pre.flatMap cs_span) ∧ True) ∧ Boxed W (B + 1 + 1) 29 (.int .u64 hi)) ∧ Below w.heap.size w W
theorem gapsI_own (w : World) (B : Nat) (hi : Int) (B0 : Nat) (h : w.heap.size ≤ B0) : OwnFrom B0 (GapsI w B hi) :=
  OwnFrom.and (Own.from (fun s X Y row hs hg hr => ⟨holdsRow_own w.heap.size B 56 34 2 (fun pre : List S34 => pre.length) (fun pre => pre.flatMap cs_span) (fun _ _ => True) s X Y row hs.1 hg hr, boxed_own (B + 1 + 1) 29 (fun _ : List S34 => Value.int .u64 hi) s X Y row hs.2 hg hr⟩) _) (ownFrom_below (Nat.le_refl _) h)
theorem cell_two_new (W : World) (a b : Value) (ty : TypeId) : ∀ j u, [a, b][j]? = some u → (W.alloc (.cells #[a, b] ty)).cell? ((⟨W.heap.size, 0, none⟩ : Addr).add j) = some u := by
  intro j u hj
  rw [add_plain]
  match j with
  | 0 => simp at hj; subst hj; simp
  | 1 => simp at hj; subst hj; simp
  | j + 2 => simp at hj
def leaf_Gaps.f (k : Nat) (a0 : Int) (l1 : List Int) : Option (List S34 × Int) := (node_Leaves.f k a0 1).bind fun b => if b.2.2 = 0 then ((leaf_Check.f k a0 l1).bind fun t => if t = 0 then (if l1.length ≤ 1000000 then some (leaf_gapl b.2.1 0 l1, 0) else none) else some ([], 1)) else some ([], 1)
theorem leaf_Gaps.mono : ∀ a0 a1 k, LeO (leaf_Gaps.f k a0 a1) (leaf_Gaps.f (k + 1) a0 a1) := by
  intro a0 a1 k
  unfold leaf_Gaps.f
  repeat' first
      | (with_reducible exact node_Leaves.mono _ _ _)
      | (with_reducible exact leaf_Check.mono _ _ _)
      | (with_reducible exact LeO.refl _)
      | (with_reducible exact LeO.none _)
      | (with_reducible refine LeO.ite ?_ ?_)
      | (with_reducible refine LeO.bind ?_ (fun _ => ?_))
set_option maxHeartbeats 8000000 in
set_option maxRecDepth 100000 in
theorem leaf_Gaps.calls (k : Nat) (a0 : Int) (A1 : Option Addr) (c1 : Nat) (l1 : List Int) (r1 : List S34) (r2 : Int) (w : World) (hr1 : Kd.C (Kd.int .u64) w A1 l1.length l1) (hc1 : l1.length ≤ c1) (h : leaf_Gaps.f k a0 l1 = some (r1, r2)) :
    Calls Try.prog 42 #[.int .i64 a0, .slice A1 l1.length c1] w fun e w' => ∃ v0_ : Value, e = .returned (.tuple #[v0_, .int .i64 r2]) ∧ Kd.R k34 34 w' w.heap.size (fun _ => True) v0_ r1 ∧ Below w.heap.size w w' := by
  obtain ⟨⟨lo, hi, e1⟩, A30, H⟩ := Option.bind_eq_some_iff.mp h
  clear h
  replace H : (if e1 = 0 then ((leaf_Check.f k a0 l1).bind fun t => if t = 0 then (if l1.length ≤ 1000000 then some (leaf_gapl hi 0 l1, 0) else none) else some ([], 1)) else some ([], 1)) = some (r1, r2) := H
  have A3 := Aside0.mk A30
  clear A30
  have HR1 := Aside0.mk hr1
  have HC1 := Aside0.mk hc1
  clear hr1 hc1
  have hu34 := Try.underlying34
  by_cases c1_ : e1 = 0
  · rw [if_pos c1_] at H
    have c1b0 : (e1 != 0) = false := bne_eq_false_iff_eq.mpr c1_
    clear c1_
    obtain ⟨t, A40, H⟩ := Option.bind_eq_some_iff.mp H
    have A4 := Aside0.mk A40
    clear A40
    by_cases c2 : t = 0
    · rw [if_pos c2] at H
      have c2b0 : (t != 0) = false := bne_eq_false_iff_eq.mpr c2
      clear c2
      by_cases c3 : l1.length ≤ 1000000
      · rw [if_pos c3] at H
        simp only [Option.some.injEq, Prod.mk.injEq] at H
        obtain ⟨rfl, rfl⟩ := H
        have HL := Aside0.mk c3
        clear c3
        refine (callsIn_wide (n := 5)).1 ?_
        refine callsIn_of_wp_marks Try.func42 rfl trivial ?_ rfl
        simp only [Try.ntmps42, List.size_toArray, List.length_cons, List.length_nil, Nat.reduceAdd, Nat.reduceSub, Array.replicate_succ, Array.replicate_zero, List.push_toArray, List.append_toArray, List.nil_append, List.cons_append]
        gi_wp2
        refine ⟨trivial, ?_⟩
        refine (callsIn_wide.2 (node_Leaves.calls k a0 1 lo hi e1 _ A3.out)).mono ?_
        rintro e w1 ⟨rfl, hb1⟩
        have HB1 := Aside0.mk hb1
        have HRc := Aside0.mk (Kd.C_below HR1.out hb1)
        clear hb1
        gi_wp2
        refine ⟨trivial, ?_⟩
        refine (callsIn_wide.2 (leaf_Check.calls k a0 _ _ l1 t _ ?s1 HC1.out A4.out)).mono ?_
        case s1 => exact Kd.C_alloc HRc.out _
        rintro e w2 ⟨rfl, ⟨nd, rfl⟩⟩
        gi_wp2
        refine ⟨trivial, ?_⟩
        refine (callsIn_wide.2 (leaf_between.calls A1 l1.length c1 hi _)).mono ?_
        rintro e w3 ⟨rfl, rfl⟩
        have hb2 : Below w.heap.size w ((w1.alloc (.cells #[.int .u64 lo, .int .u64 hi] 34)).drewN nd) := pw_below_drewN (below_alloc HB1.out _) nd
        have hsz2 : ((w1.alloc (.cells #[.int .u64 lo, .int .u64 hi] 34)).drewN nd).heap.size = w1.heap.size + 1 := by simp
        generalize ((w1.alloc (.cells #[.int .u64 lo, .int .u64 hi] 34)).drewN nd) = W2 at hb2 hsz2 ⊢
        have hs1 : (W2.alloc (.cells #[.slice none 0 0] 56)).heap.size = W2.heap.size + 1 := by simp
        have bO := Boxed.new W2 56 (.slice none 0 0)
        have bS := Boxed.new (W2.alloc (.cells #[.slice none 0 0] 56)) 22 (.slice A1 l1.length c1)
        have bL := Boxed.new ((W2.alloc (.cells #[.slice none 0 0] 56)).alloc (.cells #[.slice A1 l1.length c1] 22)) 29 (.int .u64 hi)
        rw [hs1] at bS
        have hs2 : ((W2.alloc (.cells #[.slice none 0 0] 56)).alloc (.cells #[.slice A1 l1.length c1] 22)).heap.size = W2.heap.size + 1 + 1 := by simp
        rw [hs2] at bL
        have bO' := (bO.alloc (.cells #[.slice A1 l1.length c1] 22)).alloc (.cells #[.int .u64 hi] 29)
        have bS' := bS.alloc (.cells #[.int .u64 hi] 29)
        have hb3 := ((hb2.alloc hb2.size (.cells #[.slice none 0 0] 56)).alloc (by have := hb2.size; simp; omega) (.cells #[.slice A1 l1.length c1] 22)).alloc (by have := hb2.size; simp; omega) (.cells #[.int .u64 hi] 29)
        obtain ⟨W0, hW0⟩ : ∃ W0, ((W2.alloc (.cells #[.slice none 0 0] 56)).alloc (.cells #[.slice A1 l1.length c1] 22)).alloc (.cells #[.int .u64 hi] 29) = W0 := ⟨_, rfl⟩
        have hz0 : W0.heap.size = W2.heap.size + 3 := by rw [← hW0]; simp
        rw [hW0] at bL bO' bS' hb3
        rw [hs1, hW0, hsz2]
        rw [hsz2] at hz0 bL bO' bS'
        have HB3 := Aside0.mk hb3
        have hw2 := hb2.size
        clear bO bS hs1 hs2 hb2 hb3
        gi_wp2
        have hbb : W0.heap.size = w.heap.size + (W0.heap.size - w.heap.size) := by omega
        refine wpIn_rangeFunc_ownH (α := S34) (encs := fun x => #[.agg #[.int .u64 x.f0, .int .u64 x.f1]]) (Kp := fun X Y => Below w.heap.size X Y ∧ (X.cell? ⟨(w1.heap.size + 1) + 1 + 1, 0, none⟩ = some (.int .u64 hi) → Y.cell? ⟨(w1.heap.size + 1) + 1 + 1, 0, none⟩ = some (.int .u64 hi)))
          (S := fun ys => ys = leaf_gapl hi 0 l1) (Sp := fun _ => True) (N := l1.length + 1) (w0 := W0) rfl (by omega) (gf := 86) (lb := #[.pointer (some ⟨(w1.heap.size + 1) + 1, 0, none⟩), .pointer (some ⟨(w1.heap.size + 1) + 1 + 1, 0, none⟩)]) rfl trivial (enters_of Try.func86 (by kernel_rfl) rfl)
          (fun l J Jx W hW _ _ hY h0 => leaf_between1_in (5 - 1) (by omega) l ((w1.heap.size + 1) + 1) ((w1.heap.size + 1) + 1 + 1) w A1 c1 l1 hi HR1.out HL.out J Jx hY W (HB3.out.trans (hW.mono (by omega))) ((hW.cell (p := ⟨(w1.heap.size + 1) + 1, 0, none⟩) (by show (w1.heap.size + 1) + 1 < _; omega)).trans bS'.cell) ((hW.cell (p := ⟨(w1.heap.size + 1) + 1 + 1, 0, none⟩) (by show (w1.heap.size + 1) + 1 + 1 < _; omega)).trans bL.cell) h0)
          (fun h1 h2 => ⟨h1.1.trans h2.1, fun z => h2.2 (h1.2 z)⟩)
          (fun W l o o' h1 h2 h3 h4 => ⟨belowK_b (w := W0) (by omega) W l o o' h1 h2 h3 h4, fun z => ((belowK_b (w := W0) (Nat.le_refl _) W l o o' h1 h2 h3 h4).cell (p := ⟨(w1.heap.size + 1) + 1 + 1, 0, none⟩) (by show (w1.heap.size + 1) + 1 + 1 < _; omega)).trans z⟩)
          (Below.refl _ _) (fun _ => rfl)
          (GapsI w (w1.heap.size + 1) hi)
          (fun _ _ _ => False)
          (gapsI_own w _ hi _ (by omega))
          (fun _ _ _ _ _ hs _ _ => hs)
          ⟨⟨⟨_, bO', World.ownsRow_nil _ _ _ _, trivial⟩, bL⟩, HB3.out⟩
          (fun x a' W => ∃ Bx, W.heap[Bx]? = some (.cells #[.int .u64 x.f0, .int .u64 x.f1] 34 (0, 0)) ∧ a' = { tmps := #[.int .i64 a0, .slice A1 l1.length c1, undef, undef, .slice none 0 0, .int .i64 0, .pointer (some ⟨w1.heap.size, 0, none⟩), .int .i64 e1, .pointer (some ⟨w1.heap.size + 1, 0, none⟩), .pointer (some ⟨Bx, 0, none⟩), .tuple #[.agg #[.int .u64 lo, .int .u64 hi], .int .i64 e1], .int .i64 a0, .tuple #[.agg #[.int .u64 lo, .int .u64 hi], .int .i64 e1], .agg #[.int .u64 lo, .int .u64 hi], .int .i64 e1, .int .i64 e1, .bool false, .bool false, .int .i64 a0, .slice A1 l1.length c1, .int .i64 t, .bool false, .bool false, .slice A1 l1.length c1, .pointer (some ⟨w1.heap.size, 1, none⟩), .int .u64 hi, .func (.func 86) #[] #[.pointer (some ⟨w1.heap.size + 1 + 1, 0, none⟩), .pointer (some ⟨w1.heap.size + 1 + 1 + 1, 0, none⟩)], .agg #[.int .u64 x.f0, .int .u64 x.f1], undef, undef, undef, undef, undef], defers := [] })
          ?hAx ?assign ?body ?done ?stop
        case hAx =>
          rintro x a' _ X Y row ⟨Bx, hx, rfl⟩ hg hr
          refine ⟨Bx, (hg.block Bx (Array.getElem?_eq_some_iff.1 hx).1 (fun e => ?_)).trans hx, rfl⟩
          obtain ⟨_, o, ho, hc⟩ := hr Bx e.symm
          rw [hx] at ho; cases ho; cases hc
        case assign =>
          intro l pre x W K hI hK
          have hsz : w.heap.size ≤ W.heap.size := hI.2.size
          gi_wp2
          exact hK _ _ ((KeepsOthers.alloc _ _).from _) ⟨(Below.refl _ W).alloc hsz _, fun z => ((Below.refl W.heap.size W).alloc (Nat.le_refl _) _).cell (World.block_lt_of_cell? W _ z) |>.trans z⟩ ((gapsI_own w _ hi _ (Nat.le_refl _)).alloc _ hI) ⟨W.heap.size, blk_new _ _, rfl⟩
        case body =>
          rintro l pre x a' W hl ⟨r, hr⟩ ⟨⟨⟨v, hbo, hrow, _⟩, hbl⟩, hB⟩ ⟨Bx, hx, rfl⟩ hlt
          obtain ⟨i0, hi0, hz0_, hz1_, hz2_⟩ := info_parts info34
          have hlen := HL.out
          have hx0 := blk_cell hx 0
          have hx1 := blk_cell hx 1
          have hbc := hbo.cell
          simp at hx0 hx1
          have HBO := Aside0.mk hbo
          have HBL := Aside0.mk hbl
          have HROW := Aside0.mk hrow
          have HB := Aside0.mk hB
          clear hbo hbl hB
          gi_wp2_with (gi_at_builtin; refine wpListIn_append_own _ rfl _ _ 56 rfl w.heap.size 34 i0 (.agg #[.int .u64 0, .int .u64 0]) 2 16 Try.underlying56 hi0 hz0_ hz1_ hz2_ rfl (by decide) _ _ _ rfl (hrow.alloc _) ⟨W.heap.size, 0, none⟩ 1 1 (cs_span x) rfl rfl (cell_two_new _ _ _ _) (by simp [cs_span, Value.oneCell']) (by unfold maxLen; omega) (by omega) (by have := HB.out.size; simp; omega) ?_; intro v' w1' hown' hgrow _; obtain ⟨g', cap', rfl⟩ := ownsRow_succ hown'; obtain ⟨hv1, hv2, hr2, hk2, hb2⟩ := HBO.out.appended (by decide) HROW.out HB.out.size (by omega) hown' hgrow; have hbl1 := ((HBL.out.alloc _).kept hgrow (HBL.out.not_row (by decide) HROW.out)).other (B' := w1.heap.size + 1) (by omega) (.slice (some ⟨g', 0, none⟩) (pre.length + 1) cap'); have hc1 := hv1.cell; have hf1 := hv1.frozen)
          exact ⟨hk2.from _, ⟨hb2, fun _ => hbl1.cell⟩, ⟨⟨_, hv2, by simpa [List.flatMap_append] using hr2, trivial⟩, hbl1⟩, HB.out.trans hb2⟩
        case done =>
          rintro D ys W hD rfl ⟨⟨⟨v, hbo, hrow, _⟩, hbl⟩, hB⟩ hK
          have hbc := hbo.cell
          gi_wp2
          refine ⟨by simp, .inl ⟨_, _, rfl, run_takeDeferred hK, ?_⟩⟩
          exact ⟨_, results_tmp2 rfl _ _ _, v, rfl, R_span (ownsRow_putObj hrow _ hK rfl), hB.trans (belowK_b (w := W0) (by omega) W D _ _ hD hK rfl rfl)⟩
        case stop =>
          rintro D c pre W hD _ h _
          exact h.elim
      · rw [if_neg c3] at H; cases H
    · rw [if_neg c2] at H
      have c2b0 : (t != 0) = true := bne_iff_ne.mpr c2
      clear c2
      simp only [Option.some.injEq, Prod.mk.injEq] at H
      obtain ⟨rfl, rfl⟩ := H
      refine (callsIn_wide (n := 5)).1 ?_
      refine callsIn_of_wp Try.func42 rfl trivial ?_ rfl
      simp only [Try.ntmps42, List.size_toArray, List.length_cons, List.length_nil, Nat.reduceAdd, Nat.reduceSub, Array.replicate_succ, Array.replicate_zero, List.push_toArray, List.append_toArray, List.nil_append, List.cons_append]
      gi_wp2
      refine ⟨trivial, ?_⟩
      refine (callsIn_wide.2 (node_Leaves.calls k a0 1 lo hi e1 _ A3.out)).mono ?_
      rintro e w1 ⟨rfl, hb1⟩
      have HB1 := Aside0.mk hb1
      have HRc := Aside0.mk (Kd.C_below HR1.out hb1)
      clear hb1
      gi_wp2
      refine ⟨trivial, ?_⟩
      refine (callsIn_wide.2 (leaf_Check.calls k a0 _ _ l1 t _ ?s1 HC1.out A4.out)).mono ?_
      case s1 => exact Kd.C_alloc HRc.out _
      rintro e w2 ⟨rfl, ⟨nd, rfl⟩⟩
      gi_wp2
      go_ret2
      exact ⟨_, rfl, Kd.R_nil _ _ _ _ _, pw_below_drewN (below_alloc HB1.out _) nd⟩
  · rw [if_neg c1_] at H
    have c1b0 : (e1 != 0) = true := bne_iff_ne.mpr c1_
    clear c1_
    simp only [Option.some.injEq, Prod.mk.injEq] at H
    obtain ⟨rfl, rfl⟩ := H
    go_enter Try.func42, Try.ntmps42
    go_wp2_with (go_at_call 19; (with_reducible refine (node_Leaves.calls k a0 1 lo hi e1 _ A3.out).mono ?_); rintro e w1 ⟨rfl, hb1⟩; have HB1 := Aside0.mk hb1; clear hb1)
    go_ret2
    exact ⟨_, rfl, Kd.R_nil _ _ _ _ _, below_alloc HB1.out _⟩
end

/-! ### leaf_Many: function 43 -/
def leaf_Many.l0 : Nat → Int → List (S34) → Int → List (S34) → Int → Int → Option (Int × Int)
  | 0, _, _, _, _, _, _ => none
  | k + 1, x0, x1, x4, x14, x15, x16 => if x16 < x15 then (if 0 ≤ x16 then (if x16 < (x14.length : Int) then (if ((rd_T34 x14 x16).f0) > ((rd_T34 x14 x16).f1) then (some (0, 1)) else ((leaf_is.f x0 ((rd_T34 x14 x16).f1)).bind fun t571 => (if t571 = true then (if x16 > 0 then (if 0 ≤ (wrap64 (x16 - 1)) then (if (wrap64 (x16 - 1)) < (x1.length : Int) then (if ((rd_T34 x1 (wrap64 (x16 - 1))).f1) ≥ ((rd_T34 x14 x16).f0) then (some (0, 1)) else (leaf_Many.l0 k x0 x1 (IntKind.u64.wrap (x4 + (IntKind.u64.wrap ((IntKind.u64.wrap (((rd_T34 x14 x16).f1) - ((rd_T34 x14 x16).f0))) + 1)))) x14 x15 (wrap64 (x16 + 1)))) else (none)) else (none)) else (leaf_Many.l0 k x0 x1 (IntKind.u64.wrap (x4 + (IntKind.u64.wrap ((IntKind.u64.wrap (((rd_T34 x14 x16).f1) - ((rd_T34 x14 x16).f0))) + 1)))) x14 x15 (wrap64 (x16 + 1)))) else (some (0, 1))))) else (none)) else (none)) else (some (x4, 0))
def leaf_Many.f (k : Nat) (a0 : Int) (l1 : List (S34)) : Option (Int × Int) := (node_Check.f k a0 1).bind fun t568 => (if t568 = 0 then (leaf_Many.l0 k a0 l1 0 l1 (l1.length : Int) 0) else (some (0, t568)))
theorem leaf_Many.mono_l : ∀ k, (∀ y0 y1 y2 y3 y4 y5, LeO (leaf_Many.l0 k y0 y1 y2 y3 y4 y5) (leaf_Many.l0 (k + 1) y0 y1 y2 y3 y4 y5))
  | 0 => fun _ _ _ _ _ _ r h => by simp [leaf_Many.l0] at h
  | k + 1 => by
    have ih0 := leaf_Many.mono_l k
    · intro y0 y1 y2 y3 y4 y5
      unfold leaf_Many.l0
      repeat' first
      | (with_reducible exact ih0 _ _ _ _ _ _)
      | (with_reducible exact node_Check.mono _ _ _)
      | (with_reducible exact LeO.refl _)
      | (with_reducible exact LeO.none _)
      | (with_reducible refine LeO.ite ?_ ?_)
      | (with_reducible refine LeO.bind ?_ (fun _ => ?_))
      | exact ih0 _ _ _ _ _ _
      | exact node_Check.mono _ _ _
      | exact LeO.none _
      | refine LeO.ite ?_ ?_
      | refine LeO.bind ?_ (fun _ => ?_)
theorem leaf_Many.mono : ∀ a0 a1 k, LeO (leaf_Many.f k a0 a1) (leaf_Many.f (k + 1) a0 a1) := by
  intro a0 a1 k
  have ih0 := leaf_Many.mono_l k
  unfold leaf_Many.f
  repeat' first
      | (with_reducible exact ih0 _ _ _ _ _ _)
      | (with_reducible exact node_Check.mono _ _ _)
      | (with_reducible exact LeO.refl _)
      | (with_reducible exact LeO.none _)
      | (with_reducible refine LeO.ite ?_ ?_)
      | (with_reducible refine LeO.bind ?_ (fun _ => ?_))
      | exact ih0 _ _ _ _ _ _
      | exact node_Check.mono _ _ _
      | exact LeO.none _
      | refine LeO.ite ?_ ?_
      | refine LeO.bind ?_ (fun _ => ?_)
set_option maxHeartbeats 8000000 in
set_option maxRecDepth 100000 in
theorem leaf_Many.calls (k : Nat) (a0 : Int) (A1 : Option Addr) (c1 : Nat) (l1 : List (S34)) (r1 : Int) (r2 : Int) (w : World) (hr1 : Kd.C k34 w A1 l1.length l1) (hc1 : l1.length ≤ c1) (h : leaf_Many.f k a0 l1 = some (r1, r2)) :
    Calls Try.prog 43 #[.int .i64 a0, .slice A1 l1.length c1] w fun e w' => e = .returned (.tuple #[.int .u64 r1, .int .i64 r2]) ∧ Below w.heap.size w w' := by
  have hu34 := Try.underlying34
  have HR1 := Aside0.mk hr1
  have HC1 := Aside0.mk hc1
  clear hr1 hc1
  have HB := Aside0.mk (Below.refl w.heap.size w)
  have H : ((node_Check.f k a0 1).bind fun t568 => (if t568 = 0 then (leaf_Many.l0 k a0 l1 0 l1 (l1.length : Int) 0) else (some (0, t568)))) = some (r1, r2) := h
  clear h
  replace H := Option.bind_eq_some_iff.mp H
  obtain ⟨t568, A30, H⟩ := H
  replace H : (if t568 = 0 then (leaf_Many.l0 k a0 l1 0 l1 (l1.length : Int) 0) else (some (0, t568))) = some (r1, r2) := H
  have A3 := Aside0.mk A30
  clear A30
  by_cases c4 : t568 = 0
  · rw [if_pos c4] at H
    have c4b0 : (t568 == 0) = true := beq_iff_eq.mpr c4
    have c4b1 : (t568 != 0) = false := bne_eq_false_iff_eq.mpr c4
    clear c4
    have H' := Aside0.mk H
    clear H
    go_enter Try.func43, Try.ntmps43
    go_wp2_with (first | (go_at_call 51; (with_reducible refine (node_Check.calls k a0 1 t568 _ A3.out).mono ?_); rintro e w' ⟨rfl, ⟨nd, rfl⟩⟩; (try first | exact ⟨rfl, _, World.drewN_drewN _ _ _⟩ | exact ⟨rfl, _, Eq.trans (World.drewN_drewN _ _ _) (congrArg (World.drewN _) (Nat.add_assoc _ _ _))⟩)))
    repeat (go_quiet (first | (go_at_call 51; (with_reducible refine (node_Check.calls k a0 1 t568 _ A3.out).mono ?_); rintro e w' ⟨rfl, ⟨nd, rfl⟩⟩; (try first | exact ⟨rfl, _, World.drewN_drewN _ _ _⟩ | exact ⟨rfl, _, Eq.trans (World.drewN_drewN _ _ _) (congrArg (World.drewN _) (Nat.add_assoc _ _ _))⟩))); try go_wp2_with (first | (go_at_call 51; (with_reducible refine (node_Check.calls k a0 1 t568 _ A3.out).mono ?_); rintro e w' ⟨rfl, ⟨nd, rfl⟩⟩; (try first | exact ⟨rfl, _, World.drewN_drewN _ _ _⟩ | exact ⟨rfl, _, Eq.trans (World.drewN_drewN _ _ _) (congrArg (World.drewN _) (Nat.add_assoc _ _ _))⟩))))
    go_loopg [4, 16] k (fun kq v4 v16 w' => ∃ (x4_1 : Int) (x16_1 : Int), v4 = .int .u64 x4_1 ∧ v16 = .int .i64 x16_1 ∧ Aside0 (leaf_Many.l0 kq a0 l1 x4_1 l1 (l1.length : Int) x16_1 = some (r1, r2)) ∧ Aside0 (kq ≤ k) ∧ Aside0 (Below w.heap.size w w'))
    case atStart => exact ⟨(0), (0), (by first | rfl | (simp; done) | (simp [*]; done)), (by first | rfl | (simp; done) | (simp [*]; done)), H', ⟨Nat.le_refl _⟩, ⟨by repeat (first | (with_reducible first | exact HB.out | apply below_alloc | apply pw_below_drewN | apply below_drew1) | exact HB.out)⟩⟩
    case round =>
      clear H'
      try clear c1
      try clear p2
      try clear c4
      try clear c4b0
      try clear c4b1
      obtain ⟨x4_1, x16_1, rfl, rfl, HA, HK1, HB⟩ := hrel
      cases gk with
      | zero => exact absurd HA.out (by simp [leaf_Many.l0])
      | succ k1 =>
        have H := HA.out
        clear HA
        simp only [leaf_Many.l0] at H
        by_cases c5 : x16_1 < (l1.length : Int)
        · rw [if_pos c5] at H
          have c5b0 : decide (x16_1 < (l1.length : Int)) = true := decide_eq_true c5
          clear c5
          by_cases c6 : 0 ≤ x16_1
          · rw [if_pos c6] at H
            have c6b0 : decide (0 ≤ x16_1) = true := decide_eq_true c6
            clear c6
            by_cases c7 : x16_1 < (l1.length : Int)
            · rw [if_pos c7] at H
              have c7b0 : decide (x16_1 < (l1.length : Int)) = true := decide_eq_true c7
              clear c7
              by_cases c8 : ((rd_T34 l1 x16_1).f0) > ((rd_T34 l1 x16_1).f1)
              · rw [if_pos c8] at H
                have c8b0 : decide (((rd_T34 l1 x16_1).f1) < ((rd_T34 l1 x16_1).f0)) = true := decide_eq_true c8
                clear c8
                simp only [Option.some.injEq, Prod.mk.injEq] at H
                obtain ⟨rfl, rfl⟩ := H
                have p569 : 0 ≤ (x16_1 : Int) := of_decide_eq_true (by first | (with_reducible assumption) | assumption)
                have q569 : x16_1 < (l1.length : Int) := of_decide_eq_true (by first | (with_reducible assumption) | assumption)
                obtain ⟨ad569, e569, hx569_0, hx569_1⟩ := at_T34 HR1.out x16_1 p569 q569
                cases e569
                replace hx569_0 := (HB.out.cell (World.block_lt_of_cell? w _ hx569_0)).trans hx569_0
                replace hx569_1 := (HB.out.cell (World.block_lt_of_cell? w _ hx569_1)).trans hx569_1
                replace p569 := eq_true p569
                replace q569 := eq_true q569
                go_wp2_with (first | ((with_reducible refine gate_dst (N := 8) rfl ?_); refine box_event ?hg (N := 8) ?hd (cs := #[.int .u64 0, .int .u64 0]) (t := 34) ?hr ?_; (case hd => rfl); (case hg => rfl); (case hr => first | (go_simp; done) | (go_simp; rfl)); intro gb570 hg w9 hbox hb; have n0_ := Aside0.mk (below_step (by repeat (first | (with_reducible first | exact HB.out | apply below_alloc | apply pw_below_drewN | apply below_drew1) | exact HB.out)) hb); have n1_ := Aside0.mk (hbox); have n2_ := Aside0.mk ((by rw [hg]; exact (below_size (by repeat (first | (with_reducible first | exact HB.out | apply below_alloc | apply pw_below_drewN | apply below_drew1) | exact HB.out))) : w.heap.size ≤ gb570)); have n3_ := Aside0.mk ((by rw [hg]; exact (below_size (by repeat (first | (with_reducible first | exact HB.out | apply below_alloc | apply pw_below_drewN | apply below_drew1) | exact HB.out))) : w.heap.size ≤ gb570)); clear HB; have HB := n0_; have BK570 := n1_; have GW570 := n2_; have GE570 := n3_; clear n0_ n1_ n2_ n3_; clear hb hbox hg; have hcz10_0 : w9.cell? ⟨gb570, 0, none⟩ = some (.int .u64 0) := (blk_cell BK570.out 0).trans rfl; have hcz10_1 : w9.cell? ⟨gb570, 1, none⟩ = some (.int .u64 0) := (blk_cell BK570.out 1).trans rfl; have hfz10_0 := blk_frozen BK570.out 0; have hfz10_1 := blk_frozen BK570.out 1))
                repeat (go_quiet (first | ((with_reducible refine gate_dst (N := 8) rfl ?_); refine box_event ?hg (N := 8) ?hd (cs := #[.int .u64 0, .int .u64 0]) (t := 34) ?hr ?_; (case hd => rfl); (case hg => rfl); (case hr => first | (go_simp; done) | (go_simp; rfl)); intro gb570 hg w9 hbox hb; have n0_ := Aside0.mk (below_step (by repeat (first | (with_reducible first | exact HB.out | apply below_alloc | apply pw_below_drewN | apply below_drew1) | exact HB.out)) hb); have n1_ := Aside0.mk (hbox); have n2_ := Aside0.mk ((by rw [hg]; exact (below_size (by repeat (first | (with_reducible first | exact HB.out | apply below_alloc | apply pw_below_drewN | apply below_drew1) | exact HB.out))) : w.heap.size ≤ gb570)); have n3_ := Aside0.mk ((by rw [hg]; exact (below_size (by repeat (first | (with_reducible first | exact HB.out | apply below_alloc | apply pw_below_drewN | apply below_drew1) | exact HB.out))) : w.heap.size ≤ gb570)); clear HB; have HB := n0_; have BK570 := n1_; have GW570 := n2_; have GE570 := n3_; clear n0_ n1_ n2_ n3_; clear hb hbox hg; have hcz10_0 : w9.cell? ⟨gb570, 0, none⟩ = some (.int .u64 0) := (blk_cell BK570.out 0).trans rfl; have hcz10_1 : w9.cell? ⟨gb570, 1, none⟩ = some (.int .u64 0) := (blk_cell BK570.out 1).trans rfl; have hfz10_0 := blk_frozen BK570.out 0; have hfz10_1 := blk_frozen BK570.out 1)); try go_wp2_with (first | ((with_reducible refine gate_dst (N := 8) rfl ?_); refine box_event ?hg (N := 8) ?hd (cs := #[.int .u64 0, .int .u64 0]) (t := 34) ?hr ?_; (case hd => rfl); (case hg => rfl); (case hr => first | (go_simp; done) | (go_simp; rfl)); intro gb570 hg w9 hbox hb; have n0_ := Aside0.mk (below_step (by repeat (first | (with_reducible first | exact HB.out | apply below_alloc | apply pw_below_drewN | apply below_drew1) | exact HB.out)) hb); have n1_ := Aside0.mk (hbox); have n2_ := Aside0.mk ((by rw [hg]; exact (below_size (by repeat (first | (with_reducible first | exact HB.out | apply below_alloc | apply pw_below_drewN | apply below_drew1) | exact HB.out))) : w.heap.size ≤ gb570)); have n3_ := Aside0.mk ((by rw [hg]; exact (below_size (by repeat (first | (with_reducible first | exact HB.out | apply below_alloc | apply pw_below_drewN | apply below_drew1) | exact HB.out))) : w.heap.size ≤ gb570)); clear HB; have HB := n0_; have BK570 := n1_; have GW570 := n2_; have GE570 := n3_; clear n0_ n1_ n2_ n3_; clear hb hbox hg; have hcz10_0 : w9.cell? ⟨gb570, 0, none⟩ = some (.int .u64 0) := (blk_cell BK570.out 0).trans rfl; have hcz10_1 : w9.cell? ⟨gb570, 1, none⟩ = some (.int .u64 0) := (blk_cell BK570.out 1).trans rfl; have hfz10_0 := blk_frozen BK570.out 0; have hfz10_1 := blk_frozen BK570.out 1)))
                go_ret2
                exact ⟨by first | rfl | (simp [errW_none, errW_some] <;> rfl) | (simp [*, errW_none, errW_some] <;> rfl), by repeat (first | (with_reducible first | exact HB.out | apply below_alloc | apply pw_below_drewN | apply below_drew1 | refine below_set ?_ GE570.out) | exact HB.out)⟩
              · rw [if_neg c8] at H
                have c8b0 : decide (((rd_T34 l1 x16_1).f1) < ((rd_T34 l1 x16_1).f0)) = false := decide_eq_false c8
                clear c8
                replace H := Option.bind_eq_some_iff.mp H
                obtain ⟨t571, A110, H⟩ := H
                replace H : (if t571 = true then (if x16_1 > 0 then (if 0 ≤ (wrap64 (x16_1 - 1)) then (if (wrap64 (x16_1 - 1)) < (l1.length : Int) then (if ((rd_T34 l1 (wrap64 (x16_1 - 1))).f1) ≥ ((rd_T34 l1 x16_1).f0) then (some (0, 1)) else (leaf_Many.l0 k1 a0 l1 (IntKind.u64.wrap (x4_1 + (IntKind.u64.wrap ((IntKind.u64.wrap (((rd_T34 l1 x16_1).f1) - ((rd_T34 l1 x16_1).f0))) + 1)))) l1 (l1.length : Int) (wrap64 (x16_1 + 1)))) else (none)) else (none)) else (leaf_Many.l0 k1 a0 l1 (IntKind.u64.wrap (x4_1 + (IntKind.u64.wrap ((IntKind.u64.wrap (((rd_T34 l1 x16_1).f1) - ((rd_T34 l1 x16_1).f0))) + 1)))) l1 (l1.length : Int) (wrap64 (x16_1 + 1)))) else (some (0, 1))) = some (r1, r2) := H
                have A11 := Aside0.mk A110
                clear A110
                by_cases c12 : t571 = true
                · subst c12
                  have H1 : (if x16_1 > 0 then (if 0 ≤ (wrap64 (x16_1 - 1)) then (if (wrap64 (x16_1 - 1)) < (l1.length : Int) then (if ((rd_T34 l1 (wrap64 (x16_1 - 1))).f1) ≥ ((rd_T34 l1 x16_1).f0) then (some (0, 1)) else (leaf_Many.l0 k1 a0 l1 (IntKind.u64.wrap (x4_1 + (IntKind.u64.wrap ((IntKind.u64.wrap (((rd_T34 l1 x16_1).f1) - ((rd_T34 l1 x16_1).f0))) + 1)))) l1 (l1.length : Int) (wrap64 (x16_1 + 1)))) else (none)) else (none)) else (leaf_Many.l0 k1 a0 l1 (IntKind.u64.wrap (x4_1 + (IntKind.u64.wrap ((IntKind.u64.wrap (((rd_T34 l1 x16_1).f1) - ((rd_T34 l1 x16_1).f0))) + 1)))) l1 (l1.length : Int) (wrap64 (x16_1 + 1)))) = some (r1, r2) := by rw [if_pos rfl] at H; exact H
                  clear H
                  have H := H1
                  clear H1
                  by_cases c13 : x16_1 > 0
                  · rw [if_pos c13] at H
                    have c13b0 : decide (0 < x16_1) = true := decide_eq_true c13
                    clear c13
                    obtain ⟨ji14, hji14⟩ : ∃ j_ : Int, (wrap64 (x16_1 - 1)) = j_ := ⟨_, rfl⟩
                    replace H : (if 0 ≤ (ji14) then (if (ji14) < (l1.length : Int) then (if ((rd_T34 l1 (ji14)).f1) ≥ ((rd_T34 l1 x16_1).f0) then (some (0, 1)) else (leaf_Many.l0 k1 a0 l1 (IntKind.u64.wrap (x4_1 + (IntKind.u64.wrap ((IntKind.u64.wrap (((rd_T34 l1 x16_1).f1) - ((rd_T34 l1 x16_1).f0))) + 1)))) l1 (l1.length : Int) (wrap64 (x16_1 + 1)))) else (none)) else (none)) = some (r1, r2) := by first | (rw [hji14] at H; exact H) | (simp only [hji14] at H ⊢; exact H)
                    (try rw [hji14] at A11)
                    have hji14w : (IntKind.i64.wrap (x16_1 - 1)) = ji14 := (i64_w _).trans hji14
                    by_cases c15 : 0 ≤ (ji14)
                    · rw [if_pos c15] at H
                      have c15b0 : decide (0 ≤ (ji14)) = true := decide_eq_true c15
                      clear c15
                      by_cases c16 : (ji14) < (l1.length : Int)
                      · rw [if_pos c16] at H
                        have c16b0 : decide ((ji14) < (l1.length : Int)) = true := decide_eq_true c16
                        clear c16
                        by_cases c17 : ((rd_T34 l1 (ji14)).f1) ≥ ((rd_T34 l1 x16_1).f0)
                        · rw [if_pos c17] at H
                          have c17b0 : decide (((rd_T34 l1 x16_1).f0) ≤ ((rd_T34 l1 (ji14)).f1)) = true := decide_eq_true c17
                          clear c17
                          simp only [Option.some.injEq, Prod.mk.injEq] at H
                          obtain ⟨rfl, rfl⟩ := H
                          have p569 : 0 ≤ (x16_1 : Int) := of_decide_eq_true (by first | (with_reducible assumption) | assumption)
                          have q569 : x16_1 < (l1.length : Int) := of_decide_eq_true (by first | (with_reducible assumption) | assumption)
                          obtain ⟨ad569, e569, hx569_0, hx569_1⟩ := at_T34 HR1.out x16_1 p569 q569
                          cases e569
                          replace hx569_0 := (HB.out.cell (World.block_lt_of_cell? w _ hx569_0)).trans hx569_0
                          replace hx569_1 := (HB.out.cell (World.block_lt_of_cell? w _ hx569_1)).trans hx569_1
                          replace p569 := eq_true p569
                          replace q569 := eq_true q569
                          go_wp2_with (first | ((with_reducible refine gate_dst (N := 8) rfl ?_); refine box_event ?hg (N := 8) ?hd (cs := #[.int .u64 0, .int .u64 0]) (t := 34) ?hr ?_; (case hd => rfl); (case hg => rfl); (case hr => first | (go_simp; done) | (go_simp; rfl)); intro gb570 hg w18 hbox hb; have n0_ := Aside0.mk (below_step (by repeat (first | (with_reducible first | exact HB.out | apply below_alloc | apply pw_below_drewN | apply below_drew1) | exact HB.out)) hb); have n1_ := Aside0.mk (hbox); have n2_ := Aside0.mk ((by rw [hg]; exact (below_size (by repeat (first | (with_reducible first | exact HB.out | apply below_alloc | apply pw_below_drewN | apply below_drew1) | exact HB.out))) : w.heap.size ≤ gb570)); have n3_ := Aside0.mk ((by rw [hg]; exact (below_size (by repeat (first | (with_reducible first | exact HB.out | apply below_alloc | apply pw_below_drewN | apply below_drew1) | exact HB.out))) : w.heap.size ≤ gb570)); clear HB; have HB := n0_; have BK570 := n1_; have GW570 := n2_; have GE570 := n3_; clear n0_ n1_ n2_ n3_; clear hb hbox hg; have hcz19_0 : w18.cell? ⟨gb570, 0, none⟩ = some (.int .u64 0) := (blk_cell BK570.out 0).trans rfl; have hcz19_1 : w18.cell? ⟨gb570, 1, none⟩ = some (.int .u64 0) := (blk_cell BK570.out 1).trans rfl; have hfz19_0 := blk_frozen BK570.out 0; have hfz19_1 := blk_frozen BK570.out 1) | (go_at_call 73; (with_reducible refine (leaf_is.calls a0 ((rd_T34 l1 x16_1).f1) true _ A11.out).mono ?_); rintro e w' ⟨rfl, ⟨nd, rfl⟩⟩; (try first | exact ⟨rfl, _, World.drewN_drewN _ _ _⟩ | exact ⟨rfl, _, Eq.trans (World.drewN_drewN _ _ _) (congrArg (World.drewN _) (Nat.add_assoc _ _ _))⟩); have p572 : 0 ≤ ((ji14) : Int) := of_decide_eq_true (by first | (with_reducible assumption) | assumption); have q572 : (ji14) < (l1.length : Int) := of_decide_eq_true (by first | (with_reducible assumption) | assumption); obtain ⟨ad572, e572, hx572_0, hx572_1⟩ := at_T34 HR1.out (ji14) p572 q572; obtain rfl : ad569 = ad572 := (by injection e572); have hn572_0 : ad569.block ≠ gb570 := Nat.ne_of_lt (Nat.lt_of_lt_of_le (by have := World.block_lt_of_cell? _ _ hx572_0; first | rwa [add_block] at this | exact this) GW570.out); have hn572_1 : ad569.block ≠ gb570 := Nat.ne_of_lt (Nat.lt_of_lt_of_le (by have := World.block_lt_of_cell? _ _ hx572_0; first | rwa [add_block] at this | exact this) GW570.out); replace hx572_0 := (HB.out.cell (World.block_lt_of_cell? w _ hx572_0)).trans hx572_0; replace hx572_1 := (HB.out.cell (World.block_lt_of_cell? w _ hx572_1)).trans hx572_1; replace hx572_0 := (cell_far (p := ⟨gb570, 0, none⟩) (by first | (rw [add_block]; exact hn572_0) | (show (Addr.add _ _).block ≠ _; rw [add_block]; exact hn572_0) | exact hn572_0) (.int .u64 ((rd_T34 l1 x16_1).f0))).trans hx572_0; replace hx572_1 := (cell_far (p := ⟨gb570, 0, none⟩) (by first | (rw [add_block]; exact hn572_0) | (show (Addr.add _ _).block ≠ _; rw [add_block]; exact hn572_0) | exact hn572_0) (.int .u64 ((rd_T34 l1 x16_1).f0))).trans hx572_1; replace hx572_0 := (cell_far (p := ⟨gb570, 1, none⟩) (by first | (rw [add_block]; exact hn572_1) | (show (Addr.add _ _).block ≠ _; rw [add_block]; exact hn572_1) | exact hn572_1) (.int .u64 ((rd_T34 l1 x16_1).f1))).trans hx572_0; replace hx572_1 := (cell_far (p := ⟨gb570, 1, none⟩) (by first | (rw [add_block]; exact hn572_1) | (show (Addr.add _ _).block ≠ _; rw [add_block]; exact hn572_1) | exact hn572_1) (.int .u64 ((rd_T34 l1 x16_1).f1))).trans hx572_1; (try have hy572_0 := fun (n_ : Nat) => (show ((((w18.drewN n_).setCell ⟨gb570, 0, none⟩ (.int .u64 ((rd_T34 l1 x16_1).f0))).setCell ⟨gb570, 1, none⟩ (.int .u64 ((rd_T34 l1 x16_1).f1)))).cell? _ = some _ from hx572_0)); (try have hy572_1 := fun (n_ : Nat) => (show ((((w18.drewN n_).setCell ⟨gb570, 0, none⟩ (.int .u64 ((rd_T34 l1 x16_1).f0))).setCell ⟨gb570, 1, none⟩ (.int .u64 ((rd_T34 l1 x16_1).f1)))).cell? _ = some _ from hx572_1)); clear hn572_0; clear hn572_1; replace p572 := eq_true p572; replace q572 := eq_true q572))
                          repeat (go_quiet (first | ((with_reducible refine gate_dst (N := 8) rfl ?_); refine box_event ?hg (N := 8) ?hd (cs := #[.int .u64 0, .int .u64 0]) (t := 34) ?hr ?_; (case hd => rfl); (case hg => rfl); (case hr => first | (go_simp; done) | (go_simp; rfl)); intro gb570 hg w18 hbox hb; have n0_ := Aside0.mk (below_step (by repeat (first | (with_reducible first | exact HB.out | apply below_alloc | apply pw_below_drewN | apply below_drew1) | exact HB.out)) hb); have n1_ := Aside0.mk (hbox); have n2_ := Aside0.mk ((by rw [hg]; exact (below_size (by repeat (first | (with_reducible first | exact HB.out | apply below_alloc | apply pw_below_drewN | apply below_drew1) | exact HB.out))) : w.heap.size ≤ gb570)); have n3_ := Aside0.mk ((by rw [hg]; exact (below_size (by repeat (first | (with_reducible first | exact HB.out | apply below_alloc | apply pw_below_drewN | apply below_drew1) | exact HB.out))) : w.heap.size ≤ gb570)); clear HB; have HB := n0_; have BK570 := n1_; have GW570 := n2_; have GE570 := n3_; clear n0_ n1_ n2_ n3_; clear hb hbox hg; have hcz19_0 : w18.cell? ⟨gb570, 0, none⟩ = some (.int .u64 0) := (blk_cell BK570.out 0).trans rfl; have hcz19_1 : w18.cell? ⟨gb570, 1, none⟩ = some (.int .u64 0) := (blk_cell BK570.out 1).trans rfl; have hfz19_0 := blk_frozen BK570.out 0; have hfz19_1 := blk_frozen BK570.out 1) | (go_at_call 73; (with_reducible refine (leaf_is.calls a0 ((rd_T34 l1 x16_1).f1) true _ A11.out).mono ?_); rintro e w' ⟨rfl, ⟨nd, rfl⟩⟩; (try first | exact ⟨rfl, _, World.drewN_drewN _ _ _⟩ | exact ⟨rfl, _, Eq.trans (World.drewN_drewN _ _ _) (congrArg (World.drewN _) (Nat.add_assoc _ _ _))⟩); have p572 : 0 ≤ ((ji14) : Int) := of_decide_eq_true (by first | (with_reducible assumption) | assumption); have q572 : (ji14) < (l1.length : Int) := of_decide_eq_true (by first | (with_reducible assumption) | assumption); obtain ⟨ad572, e572, hx572_0, hx572_1⟩ := at_T34 HR1.out (ji14) p572 q572; obtain rfl : ad569 = ad572 := (by injection e572); have hn572_0 : ad569.block ≠ gb570 := Nat.ne_of_lt (Nat.lt_of_lt_of_le (by have := World.block_lt_of_cell? _ _ hx572_0; first | rwa [add_block] at this | exact this) GW570.out); have hn572_1 : ad569.block ≠ gb570 := Nat.ne_of_lt (Nat.lt_of_lt_of_le (by have := World.block_lt_of_cell? _ _ hx572_0; first | rwa [add_block] at this | exact this) GW570.out); replace hx572_0 := (HB.out.cell (World.block_lt_of_cell? w _ hx572_0)).trans hx572_0; replace hx572_1 := (HB.out.cell (World.block_lt_of_cell? w _ hx572_1)).trans hx572_1; replace hx572_0 := (cell_far (p := ⟨gb570, 0, none⟩) (by first | (rw [add_block]; exact hn572_0) | (show (Addr.add _ _).block ≠ _; rw [add_block]; exact hn572_0) | exact hn572_0) (.int .u64 ((rd_T34 l1 x16_1).f0))).trans hx572_0; replace hx572_1 := (cell_far (p := ⟨gb570, 0, none⟩) (by first | (rw [add_block]; exact hn572_0) | (show (Addr.add _ _).block ≠ _; rw [add_block]; exact hn572_0) | exact hn572_0) (.int .u64 ((rd_T34 l1 x16_1).f0))).trans hx572_1; replace hx572_0 := (cell_far (p := ⟨gb570, 1, none⟩) (by first | (rw [add_block]; exact hn572_1) | (show (Addr.add _ _).block ≠ _; rw [add_block]; exact hn572_1) | exact hn572_1) (.int .u64 ((rd_T34 l1 x16_1).f1))).trans hx572_0; replace hx572_1 := (cell_far (p := ⟨gb570, 1, none⟩) (by first | (rw [add_block]; exact hn572_1) | (show (Addr.add _ _).block ≠ _; rw [add_block]; exact hn572_1) | exact hn572_1) (.int .u64 ((rd_T34 l1 x16_1).f1))).trans hx572_1; (try have hy572_0 := fun (n_ : Nat) => (show ((((w18.drewN n_).setCell ⟨gb570, 0, none⟩ (.int .u64 ((rd_T34 l1 x16_1).f0))).setCell ⟨gb570, 1, none⟩ (.int .u64 ((rd_T34 l1 x16_1).f1)))).cell? _ = some _ from hx572_0)); (try have hy572_1 := fun (n_ : Nat) => (show ((((w18.drewN n_).setCell ⟨gb570, 0, none⟩ (.int .u64 ((rd_T34 l1 x16_1).f0))).setCell ⟨gb570, 1, none⟩ (.int .u64 ((rd_T34 l1 x16_1).f1)))).cell? _ = some _ from hx572_1)); clear hn572_0; clear hn572_1; replace p572 := eq_true p572; replace q572 := eq_true q572)); try go_wp2_with (first | ((with_reducible refine gate_dst (N := 8) rfl ?_); refine box_event ?hg (N := 8) ?hd (cs := #[.int .u64 0, .int .u64 0]) (t := 34) ?hr ?_; (case hd => rfl); (case hg => rfl); (case hr => first | (go_simp; done) | (go_simp; rfl)); intro gb570 hg w18 hbox hb; have n0_ := Aside0.mk (below_step (by repeat (first | (with_reducible first | exact HB.out | apply below_alloc | apply pw_below_drewN | apply below_drew1) | exact HB.out)) hb); have n1_ := Aside0.mk (hbox); have n2_ := Aside0.mk ((by rw [hg]; exact (below_size (by repeat (first | (with_reducible first | exact HB.out | apply below_alloc | apply pw_below_drewN | apply below_drew1) | exact HB.out))) : w.heap.size ≤ gb570)); have n3_ := Aside0.mk ((by rw [hg]; exact (below_size (by repeat (first | (with_reducible first | exact HB.out | apply below_alloc | apply pw_below_drewN | apply below_drew1) | exact HB.out))) : w.heap.size ≤ gb570)); clear HB; have HB := n0_; have BK570 := n1_; have GW570 := n2_; have GE570 := n3_; clear n0_ n1_ n2_ n3_; clear hb hbox hg; have hcz19_0 : w18.cell? ⟨gb570, 0, none⟩ = some (.int .u64 0) := (blk_cell BK570.out 0).trans rfl; have hcz19_1 : w18.cell? ⟨gb570, 1, none⟩ = some (.int .u64 0) := (blk_cell BK570.out 1).trans rfl; have hfz19_0 := blk_frozen BK570.out 0; have hfz19_1 := blk_frozen BK570.out 1) | (go_at_call 73; (with_reducible refine (leaf_is.calls a0 ((rd_T34 l1 x16_1).f1) true _ A11.out).mono ?_); rintro e w' ⟨rfl, ⟨nd, rfl⟩⟩; (try first | exact ⟨rfl, _, World.drewN_drewN _ _ _⟩ | exact ⟨rfl, _, Eq.trans (World.drewN_drewN _ _ _) (congrArg (World.drewN _) (Nat.add_assoc _ _ _))⟩); have p572 : 0 ≤ ((ji14) : Int) := of_decide_eq_true (by first | (with_reducible assumption) | assumption); have q572 : (ji14) < (l1.length : Int) := of_decide_eq_true (by first | (with_reducible assumption) | assumption); obtain ⟨ad572, e572, hx572_0, hx572_1⟩ := at_T34 HR1.out (ji14) p572 q572; obtain rfl : ad569 = ad572 := (by injection e572); have hn572_0 : ad569.block ≠ gb570 := Nat.ne_of_lt (Nat.lt_of_lt_of_le (by have := World.block_lt_of_cell? _ _ hx572_0; first | rwa [add_block] at this | exact this) GW570.out); have hn572_1 : ad569.block ≠ gb570 := Nat.ne_of_lt (Nat.lt_of_lt_of_le (by have := World.block_lt_of_cell? _ _ hx572_0; first | rwa [add_block] at this | exact this) GW570.out); replace hx572_0 := (HB.out.cell (World.block_lt_of_cell? w _ hx572_0)).trans hx572_0; replace hx572_1 := (HB.out.cell (World.block_lt_of_cell? w _ hx572_1)).trans hx572_1; replace hx572_0 := (cell_far (p := ⟨gb570, 0, none⟩) (by first | (rw [add_block]; exact hn572_0) | (show (Addr.add _ _).block ≠ _; rw [add_block]; exact hn572_0) | exact hn572_0) (.int .u64 ((rd_T34 l1 x16_1).f0))).trans hx572_0; replace hx572_1 := (cell_far (p := ⟨gb570, 0, none⟩) (by first | (rw [add_block]; exact hn572_0) | (show (Addr.add _ _).block ≠ _; rw [add_block]; exact hn572_0) | exact hn572_0) (.int .u64 ((rd_T34 l1 x16_1).f0))).trans hx572_1; replace hx572_0 := (cell_far (p := ⟨gb570, 1, none⟩) (by first | (rw [add_block]; exact hn572_1) | (show (Addr.add _ _).block ≠ _; rw [add_block]; exact hn572_1) | exact hn572_1) (.int .u64 ((rd_T34 l1 x16_1).f1))).trans hx572_0; replace hx572_1 := (cell_far (p := ⟨gb570, 1, none⟩) (by first | (rw [add_block]; exact hn572_1) | (show (Addr.add _ _).block ≠ _; rw [add_block]; exact hn572_1) | exact hn572_1) (.int .u64 ((rd_T34 l1 x16_1).f1))).trans hx572_1; (try have hy572_0 := fun (n_ : Nat) => (show ((((w18.drewN n_).setCell ⟨gb570, 0, none⟩ (.int .u64 ((rd_T34 l1 x16_1).f0))).setCell ⟨gb570, 1, none⟩ (.int .u64 ((rd_T34 l1 x16_1).f1)))).cell? _ = some _ from hx572_0)); (try have hy572_1 := fun (n_ : Nat) => (show ((((w18.drewN n_).setCell ⟨gb570, 0, none⟩ (.int .u64 ((rd_T34 l1 x16_1).f0))).setCell ⟨gb570, 1, none⟩ (.int .u64 ((rd_T34 l1 x16_1).f1)))).cell? _ = some _ from hx572_1)); clear hn572_0; clear hn572_1; replace p572 := eq_true p572; replace q572 := eq_true q572)))
                          go_ret2
                          exact ⟨by first | rfl | (simp [errW_none, errW_some] <;> rfl) | (simp only [← hji14]; first | rfl | (simp [errW_none, errW_some] <;> rfl)) | (simp [*, errW_none, errW_some] <;> rfl), by repeat (first | (with_reducible first | exact HB.out | apply below_alloc | apply pw_below_drewN | apply below_drew1 | refine below_set ?_ GE570.out) | exact HB.out)⟩
                        · rw [if_neg c17] at H
                          have c17b0 : decide (((rd_T34 l1 x16_1).f0) ≤ ((rd_T34 l1 (ji14)).f1)) = false := decide_eq_false c17
                          clear c17
                          have H' := Aside0.mk H
                          clear H
                          have p569 : 0 ≤ (x16_1 : Int) := of_decide_eq_true (by first | (with_reducible assumption) | assumption)
                          have q569 : x16_1 < (l1.length : Int) := of_decide_eq_true (by first | (with_reducible assumption) | assumption)
                          obtain ⟨ad569, e569, hx569_0, hx569_1⟩ := at_T34 HR1.out x16_1 p569 q569
                          cases e569
                          replace hx569_0 := (HB.out.cell (World.block_lt_of_cell? w _ hx569_0)).trans hx569_0
                          replace hx569_1 := (HB.out.cell (World.block_lt_of_cell? w _ hx569_1)).trans hx569_1
                          replace p569 := eq_true p569
                          replace q569 := eq_true q569
                          go_wp2_with (first | ((with_reducible refine gate_dst (N := 8) rfl ?_); refine box_event ?hg (N := 8) ?hd (cs := #[.int .u64 0, .int .u64 0]) (t := 34) ?hr ?_; (case hd => rfl); (case hg => rfl); (case hr => first | (go_simp; done) | (go_simp; rfl)); intro gb570 hg w20 hbox hb; have n0_ := Aside0.mk (below_step (by repeat (first | (with_reducible first | exact HB.out | apply below_alloc | apply pw_below_drewN | apply below_drew1) | exact HB.out)) hb); have n1_ := Aside0.mk (hbox); have n2_ := Aside0.mk ((by rw [hg]; exact (below_size (by repeat (first | (with_reducible first | exact HB.out | apply below_alloc | apply pw_below_drewN | apply below_drew1) | exact HB.out))) : w.heap.size ≤ gb570)); have n3_ := Aside0.mk ((by rw [hg]; exact (below_size (by repeat (first | (with_reducible first | exact HB.out | apply below_alloc | apply pw_below_drewN | apply below_drew1) | exact HB.out))) : w.heap.size ≤ gb570)); clear HB; have HB := n0_; have BK570 := n1_; have GW570 := n2_; have GE570 := n3_; clear n0_ n1_ n2_ n3_; clear hb hbox hg; have hcz21_0 : w20.cell? ⟨gb570, 0, none⟩ = some (.int .u64 0) := (blk_cell BK570.out 0).trans rfl; have hcz21_1 : w20.cell? ⟨gb570, 1, none⟩ = some (.int .u64 0) := (blk_cell BK570.out 1).trans rfl; have hfz21_0 := blk_frozen BK570.out 0; have hfz21_1 := blk_frozen BK570.out 1) | (go_at_call 73; (with_reducible refine (leaf_is.calls a0 ((rd_T34 l1 x16_1).f1) true _ A11.out).mono ?_); rintro e w' ⟨rfl, ⟨nd, rfl⟩⟩; (try first | exact ⟨rfl, _, World.drewN_drewN _ _ _⟩ | exact ⟨rfl, _, Eq.trans (World.drewN_drewN _ _ _) (congrArg (World.drewN _) (Nat.add_assoc _ _ _))⟩); have p572 : 0 ≤ ((ji14) : Int) := of_decide_eq_true (by first | (with_reducible assumption) | assumption); have q572 : (ji14) < (l1.length : Int) := of_decide_eq_true (by first | (with_reducible assumption) | assumption); obtain ⟨ad572, e572, hx572_0, hx572_1⟩ := at_T34 HR1.out (ji14) p572 q572; obtain rfl : ad569 = ad572 := (by injection e572); have hn572_0 : ad569.block ≠ gb570 := Nat.ne_of_lt (Nat.lt_of_lt_of_le (by have := World.block_lt_of_cell? _ _ hx572_0; first | rwa [add_block] at this | exact this) GW570.out); have hn572_1 : ad569.block ≠ gb570 := Nat.ne_of_lt (Nat.lt_of_lt_of_le (by have := World.block_lt_of_cell? _ _ hx572_0; first | rwa [add_block] at this | exact this) GW570.out); replace hx572_0 := (HB.out.cell (World.block_lt_of_cell? w _ hx572_0)).trans hx572_0; replace hx572_1 := (HB.out.cell (World.block_lt_of_cell? w _ hx572_1)).trans hx572_1; replace hx572_0 := (cell_far (p := ⟨gb570, 0, none⟩) (by first | (rw [add_block]; exact hn572_0) | (show (Addr.add _ _).block ≠ _; rw [add_block]; exact hn572_0) | exact hn572_0) (.int .u64 ((rd_T34 l1 x16_1).f0))).trans hx572_0; replace hx572_1 := (cell_far (p := ⟨gb570, 0, none⟩) (by first | (rw [add_block]; exact hn572_0) | (show (Addr.add _ _).block ≠ _; rw [add_block]; exact hn572_0) | exact hn572_0) (.int .u64 ((rd_T34 l1 x16_1).f0))).trans hx572_1; replace hx572_0 := (cell_far (p := ⟨gb570, 1, none⟩) (by first | (rw [add_block]; exact hn572_1) | (show (Addr.add _ _).block ≠ _; rw [add_block]; exact hn572_1) | exact hn572_1) (.int .u64 ((rd_T34 l1 x16_1).f1))).trans hx572_0; replace hx572_1 := (cell_far (p := ⟨gb570, 1, none⟩) (by first | (rw [add_block]; exact hn572_1) | (show (Addr.add _ _).block ≠ _; rw [add_block]; exact hn572_1) | exact hn572_1) (.int .u64 ((rd_T34 l1 x16_1).f1))).trans hx572_1; (try have hy572_0 := fun (n_ : Nat) => (show ((((w20.drewN n_).setCell ⟨gb570, 0, none⟩ (.int .u64 ((rd_T34 l1 x16_1).f0))).setCell ⟨gb570, 1, none⟩ (.int .u64 ((rd_T34 l1 x16_1).f1)))).cell? _ = some _ from hx572_0)); (try have hy572_1 := fun (n_ : Nat) => (show ((((w20.drewN n_).setCell ⟨gb570, 0, none⟩ (.int .u64 ((rd_T34 l1 x16_1).f0))).setCell ⟨gb570, 1, none⟩ (.int .u64 ((rd_T34 l1 x16_1).f1)))).cell? _ = some _ from hx572_1)); clear hn572_0; clear hn572_1; replace p572 := eq_true p572; replace q572 := eq_true q572))
                          repeat (go_quiet (first | ((with_reducible refine gate_dst (N := 8) rfl ?_); refine box_event ?hg (N := 8) ?hd (cs := #[.int .u64 0, .int .u64 0]) (t := 34) ?hr ?_; (case hd => rfl); (case hg => rfl); (case hr => first | (go_simp; done) | (go_simp; rfl)); intro gb570 hg w20 hbox hb; have n0_ := Aside0.mk (below_step (by repeat (first | (with_reducible first | exact HB.out | apply below_alloc | apply pw_below_drewN | apply below_drew1) | exact HB.out)) hb); have n1_ := Aside0.mk (hbox); have n2_ := Aside0.mk ((by rw [hg]; exact (below_size (by repeat (first | (with_reducible first | exact HB.out | apply below_alloc | apply pw_below_drewN | apply below_drew1) | exact HB.out))) : w.heap.size ≤ gb570)); have n3_ := Aside0.mk ((by rw [hg]; exact (below_size (by repeat (first | (with_reducible first | exact HB.out | apply below_alloc | apply pw_below_drewN | apply below_drew1) | exact HB.out))) : w.heap.size ≤ gb570)); clear HB; have HB := n0_; have BK570 := n1_; have GW570 := n2_; have GE570 := n3_; clear n0_ n1_ n2_ n3_; clear hb hbox hg; have hcz21_0 : w20.cell? ⟨gb570, 0, none⟩ = some (.int .u64 0) := (blk_cell BK570.out 0).trans rfl; have hcz21_1 : w20.cell? ⟨gb570, 1, none⟩ = some (.int .u64 0) := (blk_cell BK570.out 1).trans rfl; have hfz21_0 := blk_frozen BK570.out 0; have hfz21_1 := blk_frozen BK570.out 1) | (go_at_call 73; (with_reducible refine (leaf_is.calls a0 ((rd_T34 l1 x16_1).f1) true _ A11.out).mono ?_); rintro e w' ⟨rfl, ⟨nd, rfl⟩⟩; (try first | exact ⟨rfl, _, World.drewN_drewN _ _ _⟩ | exact ⟨rfl, _, Eq.trans (World.drewN_drewN _ _ _) (congrArg (World.drewN _) (Nat.add_assoc _ _ _))⟩); have p572 : 0 ≤ ((ji14) : Int) := of_decide_eq_true (by first | (with_reducible assumption) | assumption); have q572 : (ji14) < (l1.length : Int) := of_decide_eq_true (by first | (with_reducible assumption) | assumption); obtain ⟨ad572, e572, hx572_0, hx572_1⟩ := at_T34 HR1.out (ji14) p572 q572; obtain rfl : ad569 = ad572 := (by injection e572); have hn572_0 : ad569.block ≠ gb570 := Nat.ne_of_lt (Nat.lt_of_lt_of_le (by have := World.block_lt_of_cell? _ _ hx572_0; first | rwa [add_block] at this | exact this) GW570.out); have hn572_1 : ad569.block ≠ gb570 := Nat.ne_of_lt (Nat.lt_of_lt_of_le (by have := World.block_lt_of_cell? _ _ hx572_0; first | rwa [add_block] at this | exact this) GW570.out); replace hx572_0 := (HB.out.cell (World.block_lt_of_cell? w _ hx572_0)).trans hx572_0; replace hx572_1 := (HB.out.cell (World.block_lt_of_cell? w _ hx572_1)).trans hx572_1; replace hx572_0 := (cell_far (p := ⟨gb570, 0, none⟩) (by first | (rw [add_block]; exact hn572_0) | (show (Addr.add _ _).block ≠ _; rw [add_block]; exact hn572_0) | exact hn572_0) (.int .u64 ((rd_T34 l1 x16_1).f0))).trans hx572_0; replace hx572_1 := (cell_far (p := ⟨gb570, 0, none⟩) (by first | (rw [add_block]; exact hn572_0) | (show (Addr.add _ _).block ≠ _; rw [add_block]; exact hn572_0) | exact hn572_0) (.int .u64 ((rd_T34 l1 x16_1).f0))).trans hx572_1; replace hx572_0 := (cell_far (p := ⟨gb570, 1, none⟩) (by first | (rw [add_block]; exact hn572_1) | (show (Addr.add _ _).block ≠ _; rw [add_block]; exact hn572_1) | exact hn572_1) (.int .u64 ((rd_T34 l1 x16_1).f1))).trans hx572_0; replace hx572_1 := (cell_far (p := ⟨gb570, 1, none⟩) (by first | (rw [add_block]; exact hn572_1) | (show (Addr.add _ _).block ≠ _; rw [add_block]; exact hn572_1) | exact hn572_1) (.int .u64 ((rd_T34 l1 x16_1).f1))).trans hx572_1; (try have hy572_0 := fun (n_ : Nat) => (show ((((w20.drewN n_).setCell ⟨gb570, 0, none⟩ (.int .u64 ((rd_T34 l1 x16_1).f0))).setCell ⟨gb570, 1, none⟩ (.int .u64 ((rd_T34 l1 x16_1).f1)))).cell? _ = some _ from hx572_0)); (try have hy572_1 := fun (n_ : Nat) => (show ((((w20.drewN n_).setCell ⟨gb570, 0, none⟩ (.int .u64 ((rd_T34 l1 x16_1).f0))).setCell ⟨gb570, 1, none⟩ (.int .u64 ((rd_T34 l1 x16_1).f1)))).cell? _ = some _ from hx572_1)); clear hn572_0; clear hn572_1; replace p572 := eq_true p572; replace q572 := eq_true q572)); try go_wp2_with (first | ((with_reducible refine gate_dst (N := 8) rfl ?_); refine box_event ?hg (N := 8) ?hd (cs := #[.int .u64 0, .int .u64 0]) (t := 34) ?hr ?_; (case hd => rfl); (case hg => rfl); (case hr => first | (go_simp; done) | (go_simp; rfl)); intro gb570 hg w20 hbox hb; have n0_ := Aside0.mk (below_step (by repeat (first | (with_reducible first | exact HB.out | apply below_alloc | apply pw_below_drewN | apply below_drew1) | exact HB.out)) hb); have n1_ := Aside0.mk (hbox); have n2_ := Aside0.mk ((by rw [hg]; exact (below_size (by repeat (first | (with_reducible first | exact HB.out | apply below_alloc | apply pw_below_drewN | apply below_drew1) | exact HB.out))) : w.heap.size ≤ gb570)); have n3_ := Aside0.mk ((by rw [hg]; exact (below_size (by repeat (first | (with_reducible first | exact HB.out | apply below_alloc | apply pw_below_drewN | apply below_drew1) | exact HB.out))) : w.heap.size ≤ gb570)); clear HB; have HB := n0_; have BK570 := n1_; have GW570 := n2_; have GE570 := n3_; clear n0_ n1_ n2_ n3_; clear hb hbox hg; have hcz21_0 : w20.cell? ⟨gb570, 0, none⟩ = some (.int .u64 0) := (blk_cell BK570.out 0).trans rfl; have hcz21_1 : w20.cell? ⟨gb570, 1, none⟩ = some (.int .u64 0) := (blk_cell BK570.out 1).trans rfl; have hfz21_0 := blk_frozen BK570.out 0; have hfz21_1 := blk_frozen BK570.out 1) | (go_at_call 73; (with_reducible refine (leaf_is.calls a0 ((rd_T34 l1 x16_1).f1) true _ A11.out).mono ?_); rintro e w' ⟨rfl, ⟨nd, rfl⟩⟩; (try first | exact ⟨rfl, _, World.drewN_drewN _ _ _⟩ | exact ⟨rfl, _, Eq.trans (World.drewN_drewN _ _ _) (congrArg (World.drewN _) (Nat.add_assoc _ _ _))⟩); have p572 : 0 ≤ ((ji14) : Int) := of_decide_eq_true (by first | (with_reducible assumption) | assumption); have q572 : (ji14) < (l1.length : Int) := of_decide_eq_true (by first | (with_reducible assumption) | assumption); obtain ⟨ad572, e572, hx572_0, hx572_1⟩ := at_T34 HR1.out (ji14) p572 q572; obtain rfl : ad569 = ad572 := (by injection e572); have hn572_0 : ad569.block ≠ gb570 := Nat.ne_of_lt (Nat.lt_of_lt_of_le (by have := World.block_lt_of_cell? _ _ hx572_0; first | rwa [add_block] at this | exact this) GW570.out); have hn572_1 : ad569.block ≠ gb570 := Nat.ne_of_lt (Nat.lt_of_lt_of_le (by have := World.block_lt_of_cell? _ _ hx572_0; first | rwa [add_block] at this | exact this) GW570.out); replace hx572_0 := (HB.out.cell (World.block_lt_of_cell? w _ hx572_0)).trans hx572_0; replace hx572_1 := (HB.out.cell (World.block_lt_of_cell? w _ hx572_1)).trans hx572_1; replace hx572_0 := (cell_far (p := ⟨gb570, 0, none⟩) (by first | (rw [add_block]; exact hn572_0) | (show (Addr.add _ _).block ≠ _; rw [add_block]; exact hn572_0) | exact hn572_0) (.int .u64 ((rd_T34 l1 x16_1).f0))).trans hx572_0; replace hx572_1 := (cell_far (p := ⟨gb570, 0, none⟩) (by first | (rw [add_block]; exact hn572_0) | (show (Addr.add _ _).block ≠ _; rw [add_block]; exact hn572_0) | exact hn572_0) (.int .u64 ((rd_T34 l1 x16_1).f0))).trans hx572_1; replace hx572_0 := (cell_far (p := ⟨gb570, 1, none⟩) (by first | (rw [add_block]; exact hn572_1) | (show (Addr.add _ _).block ≠ _; rw [add_block]; exact hn572_1) | exact hn572_1) (.int .u64 ((rd_T34 l1 x16_1).f1))).trans hx572_0; replace hx572_1 := (cell_far (p := ⟨gb570, 1, none⟩) (by first | (rw [add_block]; exact hn572_1) | (show (Addr.add _ _).block ≠ _; rw [add_block]; exact hn572_1) | exact hn572_1) (.int .u64 ((rd_T34 l1 x16_1).f1))).trans hx572_1; (try have hy572_0 := fun (n_ : Nat) => (show ((((w20.drewN n_).setCell ⟨gb570, 0, none⟩ (.int .u64 ((rd_T34 l1 x16_1).f0))).setCell ⟨gb570, 1, none⟩ (.int .u64 ((rd_T34 l1 x16_1).f1)))).cell? _ = some _ from hx572_0)); (try have hy572_1 := fun (n_ : Nat) => (show ((((w20.drewN n_).setCell ⟨gb570, 0, none⟩ (.int .u64 ((rd_T34 l1 x16_1).f0))).setCell ⟨gb570, 1, none⟩ (.int .u64 ((rd_T34 l1 x16_1).f1)))).cell? _ = some _ from hx572_1)); clear hn572_0; clear hn572_1; replace p572 := eq_true p572; replace q572 := eq_true q572)))
                          go_roundg k1
                          case measure => have := HK1.out; omega
                          case rel => exact ⟨(IntKind.u64.wrap (x4_1 + (IntKind.u64.wrap ((IntKind.u64.wrap (((rd_T34 l1 x16_1).f1) - ((rd_T34 l1 x16_1).f0))) + 1)))), (wrap64 (x16_1 + 1)), (by first | rfl | (simp; done) | (simp [*]; done)), (by first | rfl | (simp; done) | (simp [*]; done)), H', ⟨by have := HK1.out; omega⟩, ⟨by repeat (first | (with_reducible first | exact HB.out | apply below_alloc | apply pw_below_drewN | apply below_drew1 | refine below_set ?_ GE570.out) | exact HB.out)⟩⟩
                      · rw [if_neg c16] at H
                        exact absurd H (by simp)
                    · rw [if_neg c15] at H
                      exact absurd H (by simp)
                  · rw [if_neg c13] at H
                    have c13b0 : decide (0 < x16_1) = false := decide_eq_false c13
                    clear c13
                    have H' := Aside0.mk H
                    clear H
                    have p569 : 0 ≤ (x16_1 : Int) := of_decide_eq_true (by first | (with_reducible assumption) | assumption)
                    have q569 : x16_1 < (l1.length : Int) := of_decide_eq_true (by first | (with_reducible assumption) | assumption)
                    obtain ⟨ad569, e569, hx569_0, hx569_1⟩ := at_T34 HR1.out x16_1 p569 q569
                    cases e569
                    replace hx569_0 := (HB.out.cell (World.block_lt_of_cell? w _ hx569_0)).trans hx569_0
                    replace hx569_1 := (HB.out.cell (World.block_lt_of_cell? w _ hx569_1)).trans hx569_1
                    replace p569 := eq_true p569
                    replace q569 := eq_true q569
                    go_wp2_with (first | ((with_reducible refine gate_dst (N := 8) rfl ?_); refine box_event ?hg (N := 8) ?hd (cs := #[.int .u64 0, .int .u64 0]) (t := 34) ?hr ?_; (case hd => rfl); (case hg => rfl); (case hr => first | (go_simp; done) | (go_simp; rfl)); intro gb570 hg w22 hbox hb; have n0_ := Aside0.mk (below_step (by repeat (first | (with_reducible first | exact HB.out | apply below_alloc | apply pw_below_drewN | apply below_drew1) | exact HB.out)) hb); have n1_ := Aside0.mk (hbox); have n2_ := Aside0.mk ((by rw [hg]; exact (below_size (by repeat (first | (with_reducible first | exact HB.out | apply below_alloc | apply pw_below_drewN | apply below_drew1) | exact HB.out))) : w.heap.size ≤ gb570)); have n3_ := Aside0.mk ((by rw [hg]; exact (below_size (by repeat (first | (with_reducible first | exact HB.out | apply below_alloc | apply pw_below_drewN | apply below_drew1) | exact HB.out))) : w.heap.size ≤ gb570)); clear HB; have HB := n0_; have BK570 := n1_; have GW570 := n2_; have GE570 := n3_; clear n0_ n1_ n2_ n3_; clear hb hbox hg; have hcz23_0 : w22.cell? ⟨gb570, 0, none⟩ = some (.int .u64 0) := (blk_cell BK570.out 0).trans rfl; have hcz23_1 : w22.cell? ⟨gb570, 1, none⟩ = some (.int .u64 0) := (blk_cell BK570.out 1).trans rfl; have hfz23_0 := blk_frozen BK570.out 0; have hfz23_1 := blk_frozen BK570.out 1) | (go_at_call 73; (with_reducible refine (leaf_is.calls a0 ((rd_T34 l1 x16_1).f1) true _ A11.out).mono ?_); rintro e w' ⟨rfl, ⟨nd, rfl⟩⟩; (try first | exact ⟨rfl, _, World.drewN_drewN _ _ _⟩ | exact ⟨rfl, _, Eq.trans (World.drewN_drewN _ _ _) (congrArg (World.drewN _) (Nat.add_assoc _ _ _))⟩)))
                    repeat (go_quiet (first | ((with_reducible refine gate_dst (N := 8) rfl ?_); refine box_event ?hg (N := 8) ?hd (cs := #[.int .u64 0, .int .u64 0]) (t := 34) ?hr ?_; (case hd => rfl); (case hg => rfl); (case hr => first | (go_simp; done) | (go_simp; rfl)); intro gb570 hg w22 hbox hb; have n0_ := Aside0.mk (below_step (by repeat (first | (with_reducible first | exact HB.out | apply below_alloc | apply pw_below_drewN | apply below_drew1) | exact HB.out)) hb); have n1_ := Aside0.mk (hbox); have n2_ := Aside0.mk ((by rw [hg]; exact (below_size (by repeat (first | (with_reducible first | exact HB.out | apply below_alloc | apply pw_below_drewN | apply below_drew1) | exact HB.out))) : w.heap.size ≤ gb570)); have n3_ := Aside0.mk ((by rw [hg]; exact (below_size (by repeat (first | (with_reducible first | exact HB.out | apply below_alloc | apply pw_below_drewN | apply below_drew1) | exact HB.out))) : w.heap.size ≤ gb570)); clear HB; have HB := n0_; have BK570 := n1_; have GW570 := n2_; have GE570 := n3_; clear n0_ n1_ n2_ n3_; clear hb hbox hg; have hcz23_0 : w22.cell? ⟨gb570, 0, none⟩ = some (.int .u64 0) := (blk_cell BK570.out 0).trans rfl; have hcz23_1 : w22.cell? ⟨gb570, 1, none⟩ = some (.int .u64 0) := (blk_cell BK570.out 1).trans rfl; have hfz23_0 := blk_frozen BK570.out 0; have hfz23_1 := blk_frozen BK570.out 1) | (go_at_call 73; (with_reducible refine (leaf_is.calls a0 ((rd_T34 l1 x16_1).f1) true _ A11.out).mono ?_); rintro e w' ⟨rfl, ⟨nd, rfl⟩⟩; (try first | exact ⟨rfl, _, World.drewN_drewN _ _ _⟩ | exact ⟨rfl, _, Eq.trans (World.drewN_drewN _ _ _) (congrArg (World.drewN _) (Nat.add_assoc _ _ _))⟩))); try go_wp2_with (first | ((with_reducible refine gate_dst (N := 8) rfl ?_); refine box_event ?hg (N := 8) ?hd (cs := #[.int .u64 0, .int .u64 0]) (t := 34) ?hr ?_; (case hd => rfl); (case hg => rfl); (case hr => first | (go_simp; done) | (go_simp; rfl)); intro gb570 hg w22 hbox hb; have n0_ := Aside0.mk (below_step (by repeat (first | (with_reducible first | exact HB.out | apply below_alloc | apply pw_below_drewN | apply below_drew1) | exact HB.out)) hb); have n1_ := Aside0.mk (hbox); have n2_ := Aside0.mk ((by rw [hg]; exact (below_size (by repeat (first | (with_reducible first | exact HB.out | apply below_alloc | apply pw_below_drewN | apply below_drew1) | exact HB.out))) : w.heap.size ≤ gb570)); have n3_ := Aside0.mk ((by rw [hg]; exact (below_size (by repeat (first | (with_reducible first | exact HB.out | apply below_alloc | apply pw_below_drewN | apply below_drew1) | exact HB.out))) : w.heap.size ≤ gb570)); clear HB; have HB := n0_; have BK570 := n1_; have GW570 := n2_; have GE570 := n3_; clear n0_ n1_ n2_ n3_; clear hb hbox hg; have hcz23_0 : w22.cell? ⟨gb570, 0, none⟩ = some (.int .u64 0) := (blk_cell BK570.out 0).trans rfl; have hcz23_1 : w22.cell? ⟨gb570, 1, none⟩ = some (.int .u64 0) := (blk_cell BK570.out 1).trans rfl; have hfz23_0 := blk_frozen BK570.out 0; have hfz23_1 := blk_frozen BK570.out 1) | (go_at_call 73; (with_reducible refine (leaf_is.calls a0 ((rd_T34 l1 x16_1).f1) true _ A11.out).mono ?_); rintro e w' ⟨rfl, ⟨nd, rfl⟩⟩; (try first | exact ⟨rfl, _, World.drewN_drewN _ _ _⟩ | exact ⟨rfl, _, Eq.trans (World.drewN_drewN _ _ _) (congrArg (World.drewN _) (Nat.add_assoc _ _ _))⟩))))
                    go_roundg k1
                    case measure => have := HK1.out; omega
                    case rel => exact ⟨(IntKind.u64.wrap (x4_1 + (IntKind.u64.wrap ((IntKind.u64.wrap (((rd_T34 l1 x16_1).f1) - ((rd_T34 l1 x16_1).f0))) + 1)))), (wrap64 (x16_1 + 1)), (by first | rfl | (simp; done) | (simp [*]; done)), (by first | rfl | (simp; done) | (simp [*]; done)), H', ⟨by have := HK1.out; omega⟩, ⟨by repeat (first | (with_reducible first | exact HB.out | apply below_alloc | apply pw_below_drewN | apply below_drew1 | refine below_set ?_ GE570.out) | exact HB.out)⟩⟩
                · replace c12 := Bool.eq_false_iff.mpr c12
                  subst c12
                  have H1 : (some (0, 1)) = some (r1, r2) := by rw [if_neg (show ¬ (false = true) by decide)] at H; exact H
                  clear H
                  have H := H1
                  clear H1
                  simp only [Option.some.injEq, Prod.mk.injEq] at H
                  obtain ⟨rfl, rfl⟩ := H
                  have p569 : 0 ≤ (x16_1 : Int) := of_decide_eq_true (by first | (with_reducible assumption) | assumption)
                  have q569 : x16_1 < (l1.length : Int) := of_decide_eq_true (by first | (with_reducible assumption) | assumption)
                  obtain ⟨ad569, e569, hx569_0, hx569_1⟩ := at_T34 HR1.out x16_1 p569 q569
                  cases e569
                  replace hx569_0 := (HB.out.cell (World.block_lt_of_cell? w _ hx569_0)).trans hx569_0
                  replace hx569_1 := (HB.out.cell (World.block_lt_of_cell? w _ hx569_1)).trans hx569_1
                  replace p569 := eq_true p569
                  replace q569 := eq_true q569
                  go_wp2_with (first | ((with_reducible refine gate_dst (N := 8) rfl ?_); refine box_event ?hg (N := 8) ?hd (cs := #[.int .u64 0, .int .u64 0]) (t := 34) ?hr ?_; (case hd => rfl); (case hg => rfl); (case hr => first | (go_simp; done) | (go_simp; rfl)); intro gb570 hg w24 hbox hb; have n0_ := Aside0.mk (below_step (by repeat (first | (with_reducible first | exact HB.out | apply below_alloc | apply pw_below_drewN | apply below_drew1) | exact HB.out)) hb); have n1_ := Aside0.mk (hbox); have n2_ := Aside0.mk ((by rw [hg]; exact (below_size (by repeat (first | (with_reducible first | exact HB.out | apply below_alloc | apply pw_below_drewN | apply below_drew1) | exact HB.out))) : w.heap.size ≤ gb570)); have n3_ := Aside0.mk ((by rw [hg]; exact (below_size (by repeat (first | (with_reducible first | exact HB.out | apply below_alloc | apply pw_below_drewN | apply below_drew1) | exact HB.out))) : w.heap.size ≤ gb570)); clear HB; have HB := n0_; have BK570 := n1_; have GW570 := n2_; have GE570 := n3_; clear n0_ n1_ n2_ n3_; clear hb hbox hg; have hcz25_0 : w24.cell? ⟨gb570, 0, none⟩ = some (.int .u64 0) := (blk_cell BK570.out 0).trans rfl; have hcz25_1 : w24.cell? ⟨gb570, 1, none⟩ = some (.int .u64 0) := (blk_cell BK570.out 1).trans rfl; have hfz25_0 := blk_frozen BK570.out 0; have hfz25_1 := blk_frozen BK570.out 1) | (go_at_call 73; (with_reducible refine (leaf_is.calls a0 ((rd_T34 l1 x16_1).f1) false _ A11.out).mono ?_); rintro e w' ⟨rfl, ⟨nd, rfl⟩⟩; (try first | exact ⟨rfl, _, World.drewN_drewN _ _ _⟩ | exact ⟨rfl, _, Eq.trans (World.drewN_drewN _ _ _) (congrArg (World.drewN _) (Nat.add_assoc _ _ _))⟩)))
                  repeat (go_quiet (first | ((with_reducible refine gate_dst (N := 8) rfl ?_); refine box_event ?hg (N := 8) ?hd (cs := #[.int .u64 0, .int .u64 0]) (t := 34) ?hr ?_; (case hd => rfl); (case hg => rfl); (case hr => first | (go_simp; done) | (go_simp; rfl)); intro gb570 hg w24 hbox hb; have n0_ := Aside0.mk (below_step (by repeat (first | (with_reducible first | exact HB.out | apply below_alloc | apply pw_below_drewN | apply below_drew1) | exact HB.out)) hb); have n1_ := Aside0.mk (hbox); have n2_ := Aside0.mk ((by rw [hg]; exact (below_size (by repeat (first | (with_reducible first | exact HB.out | apply below_alloc | apply pw_below_drewN | apply below_drew1) | exact HB.out))) : w.heap.size ≤ gb570)); have n3_ := Aside0.mk ((by rw [hg]; exact (below_size (by repeat (first | (with_reducible first | exact HB.out | apply below_alloc | apply pw_below_drewN | apply below_drew1) | exact HB.out))) : w.heap.size ≤ gb570)); clear HB; have HB := n0_; have BK570 := n1_; have GW570 := n2_; have GE570 := n3_; clear n0_ n1_ n2_ n3_; clear hb hbox hg; have hcz25_0 : w24.cell? ⟨gb570, 0, none⟩ = some (.int .u64 0) := (blk_cell BK570.out 0).trans rfl; have hcz25_1 : w24.cell? ⟨gb570, 1, none⟩ = some (.int .u64 0) := (blk_cell BK570.out 1).trans rfl; have hfz25_0 := blk_frozen BK570.out 0; have hfz25_1 := blk_frozen BK570.out 1) | (go_at_call 73; (with_reducible refine (leaf_is.calls a0 ((rd_T34 l1 x16_1).f1) false _ A11.out).mono ?_); rintro e w' ⟨rfl, ⟨nd, rfl⟩⟩; (try first | exact ⟨rfl, _, World.drewN_drewN _ _ _⟩ | exact ⟨rfl, _, Eq.trans (World.drewN_drewN _ _ _) (congrArg (World.drewN _) (Nat.add_assoc _ _ _))⟩))); try go_wp2_with (first | ((with_reducible refine gate_dst (N := 8) rfl ?_); refine box_event ?hg (N := 8) ?hd (cs := #[.int .u64 0, .int .u64 0]) (t := 34) ?hr ?_; (case hd => rfl); (case hg => rfl); (case hr => first | (go_simp; done) | (go_simp; rfl)); intro gb570 hg w24 hbox hb; have n0_ := Aside0.mk (below_step (by repeat (first | (with_reducible first | exact HB.out | apply below_alloc | apply pw_below_drewN | apply below_drew1) | exact HB.out)) hb); have n1_ := Aside0.mk (hbox); have n2_ := Aside0.mk ((by rw [hg]; exact (below_size (by repeat (first | (with_reducible first | exact HB.out | apply below_alloc | apply pw_below_drewN | apply below_drew1) | exact HB.out))) : w.heap.size ≤ gb570)); have n3_ := Aside0.mk ((by rw [hg]; exact (below_size (by repeat (first | (with_reducible first | exact HB.out | apply below_alloc | apply pw_below_drewN | apply below_drew1) | exact HB.out))) : w.heap.size ≤ gb570)); clear HB; have HB := n0_; have BK570 := n1_; have GW570 := n2_; have GE570 := n3_; clear n0_ n1_ n2_ n3_; clear hb hbox hg; have hcz25_0 : w24.cell? ⟨gb570, 0, none⟩ = some (.int .u64 0) := (blk_cell BK570.out 0).trans rfl; have hcz25_1 : w24.cell? ⟨gb570, 1, none⟩ = some (.int .u64 0) := (blk_cell BK570.out 1).trans rfl; have hfz25_0 := blk_frozen BK570.out 0; have hfz25_1 := blk_frozen BK570.out 1) | (go_at_call 73; (with_reducible refine (leaf_is.calls a0 ((rd_T34 l1 x16_1).f1) false _ A11.out).mono ?_); rintro e w' ⟨rfl, ⟨nd, rfl⟩⟩; (try first | exact ⟨rfl, _, World.drewN_drewN _ _ _⟩ | exact ⟨rfl, _, Eq.trans (World.drewN_drewN _ _ _) (congrArg (World.drewN _) (Nat.add_assoc _ _ _))⟩))))
                  go_ret2
                  exact ⟨by first | rfl | (simp [errW_none, errW_some] <;> rfl) | (simp [*, errW_none, errW_some] <;> rfl), by repeat (first | (with_reducible first | exact HB.out | apply below_alloc | apply pw_below_drewN | apply below_drew1 | refine below_set ?_ GE570.out) | exact HB.out)⟩
            · rw [if_neg c7] at H
              exact absurd H (by simp)
          · rw [if_neg c6] at H
            exact absurd H (by simp)
        · rw [if_neg c5] at H
          have c5b0 : decide (x16_1 < (l1.length : Int)) = false := decide_eq_false c5
          clear c5
          simp only [Option.some.injEq, Prod.mk.injEq] at H
          obtain ⟨rfl, rfl⟩ := H
          go_wp2
          repeat (go_quiet (fail); try go_wp2)
          go_ret2
          exact ⟨by first | rfl | (simp [errW_none, errW_some] <;> rfl) | (simp [*, errW_none, errW_some] <;> rfl), by repeat (first | (with_reducible first | exact HB.out | apply below_alloc | apply pw_below_drewN | apply below_drew1) | exact HB.out)⟩
  · rw [if_neg c4] at H
    have c4b0 : (t568 == 0) = false := beq_eq_false_iff_ne.mpr c4
    have c4b1 : (t568 != 0) = true := bne_iff_ne.mpr c4
    simp only [Option.some.injEq, Prod.mk.injEq] at H
    obtain ⟨rfl, rfl⟩ := H
    go_enter Try.func43, Try.ntmps43
    go_wp2_with (first | (go_at_call 51; (with_reducible refine (node_Check.calls k a0 1 t568 _ A3.out).mono ?_); rintro e w' ⟨rfl, ⟨nd, rfl⟩⟩; (try first | exact ⟨rfl, _, World.drewN_drewN _ _ _⟩ | exact ⟨rfl, _, Eq.trans (World.drewN_drewN _ _ _) (congrArg (World.drewN _) (Nat.add_assoc _ _ _))⟩)))
    repeat (go_quiet (first | (go_at_call 51; (with_reducible refine (node_Check.calls k a0 1 t568 _ A3.out).mono ?_); rintro e w' ⟨rfl, ⟨nd, rfl⟩⟩; (try first | exact ⟨rfl, _, World.drewN_drewN _ _ _⟩ | exact ⟨rfl, _, Eq.trans (World.drewN_drewN _ _ _) (congrArg (World.drewN _) (Nat.add_assoc _ _ _))⟩))); try go_wp2_with (first | (go_at_call 51; (with_reducible refine (node_Check.calls k a0 1 t568 _ A3.out).mono ?_); rintro e w' ⟨rfl, ⟨nd, rfl⟩⟩; (try first | exact ⟨rfl, _, World.drewN_drewN _ _ _⟩ | exact ⟨rfl, _, Eq.trans (World.drewN_drewN _ _ _) (congrArg (World.drewN _) (Nat.add_assoc _ _ _))⟩))))
    go_ret2
    exact ⟨by first | rfl | (simp [errW_none, errW_some] <;> rfl) | (simp [*, errW_none, errW_some] <;> rfl), by repeat (first | (with_reducible first | exact HB.out | apply below_alloc | apply pw_below_drewN | apply below_drew1) | exact HB.out)⟩

end Go.Proofs.Ytoikjfcdpiikbaa.MP
