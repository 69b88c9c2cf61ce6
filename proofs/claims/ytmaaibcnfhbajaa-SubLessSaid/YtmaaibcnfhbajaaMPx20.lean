-- written by a program of this session (wip/tools/mprint.sh) for this seat
import Derived.Test.YtmaaibcnfhbajaaMPx0
import Derived.Test.YtmaaibcnfhbajaaMPx1
import Derived.Test.YtmaaibcnfhbajaaMPx3
import Derived.Test.YtmaaibcnfhbajaaMPx14
import Derived.Test.YtmaaibcnfhbajaaMPx15
import Derived.Test.YtmaaibcnfhbajaaMPx18
namespace Go.Proofs.Ytmaaibcnfhbajaa.MP
open Go.RowKit Go.Proofs.YtmaaibcnfhbajaaW.PrintWords Go.Proofs.YtmaaibcnfhbajaaW.PrintLast Go.Proofs.YtmaaibcnfhbajaaW.PrintMore
attribute [local go_sem] max2_int min2_int max_two min_two max_three min_three max_four min_four   -- for this text's walks alone
set_option linter.unusedVariables false
set_option linter.unusedSimpArgs false

attribute [local go_sem high] eqA24
/-! ### medlarlaw08_SubLess: function 7 -/
mutual
def medlarlaw08_SubLess.j0 : Nat → Int → Bool → Bool → Int → Int → Int → Int → Int → Int → Option (Bool)
  | 0, _, _, _, _, _, _, _, _, _ => none
  | k + 1, x0, x9, x53, x383000, x383001, x384000, x384001, x385000, x385001 => if x53 = true then (some false) else ((sub_Less.f k x383000 x383001 x384000 x384001).bind fun t393 => (if t393 = true then ((sub_Less.f k x384000 x384001 x385000 x385001).bind fun t394 => (if t394 = true then ((sub_Less.f k x383000 x383001 x385000 x385001).bind fun t395 => (medlarlaw08_SubLess.j1 k x0 x9 (!t395) x383000 x383001)) else (medlarlaw08_SubLess.j1 k x0 x9 false x383000 x383001))) else (medlarlaw08_SubLess.j1 k x0 x9 false x383000 x383001)))
def medlarlaw08_SubLess.j1 : Nat → Int → Bool → Bool → Int → Int → Option (Bool)
  | 0, _, _, _, _, _ => none
  | k + 1, x0, x9, x67, x383000, x383001 => if x67 = true then (some false) else ((sub_Split.f k x0 x383000 x383001).bind fun bt396 => (if bt396.2 = 0 then ((sub_Leaves.f k x0 x383000 x383001).bind fun bt400 => ((leaf_Many.f k x0 bt400.1).bind fun bt404 => (medlarlaw08_SubLess.l0 k x0 x9 bt400.2 bt404.1 bt404.2 0 bt396.1 (bt396.1.length : Int) 0))) else (some x9)))
def medlarlaw08_SubLess.l0 : Nat → Int → Bool → Int → Int → Int → Int → List (S24) → Int → Int → Option (Bool)
  | 0, _, _, _, _, _, _, _, _, _ => none
  | k + 1, x0, x9, x13, x14, x15, x16, x89, x90, x91 => if x91 < x90 then (if 0 ≤ x91 then (if x91 < (x89.length : Int) then ((sub_Leaves.f k x0 ((rd_T24 x89 x91).f0) ((rd_T24 x89 x91).f1)).bind fun bt408 => ((leaf_Many.f k x0 bt408.1).bind fun bt412 => (if bt408.2 = 0 then (if bt412.2 = 0 then (medlarlaw08_SubLess.l0 k x0 x9 x13 x14 x15 (IntKind.u64.wrap (x16 + bt412.1)) x89 x90 (wrap64 (x91 + 1))) else (some false)) else (some false)))) else (none)) else (none)) else (if x9 = true then (if x13 = 0 then (if x15 = 0 then (some (x16 == x14)) else (some false)) else (some false)) else (some false))
end
def medlarlaw08_SubLess.f (k : Nat) (a0 : Int) (a1_0 : Int) (a1_1 : Int) (a2_0 : Int) (a2_1 : Int) (a3_0 : Int) (a3_1 : Int) : Option (Bool) := (medlarlaw08_live.f k).bind fun t385 => ((sub_Less.f k a1_0 a1_1 a1_0 a1_1).bind fun t386 => (if t386 = true then (medlarlaw08_SubLess.j0 k a0 t385 true a1_0 a1_1 a2_0 a2_1 a3_0 a3_1) else ((sub_Less.f k a1_0 a1_1 a2_0 a2_1).bind fun t387 => (if t387 = true then ((sub_Less.f k a2_0 a2_1 a1_0 a1_1).bind fun t388 => (if t388 = true then (medlarlaw08_SubLess.j0 k a0 t385 true a1_0 a1_1 a2_0 a2_1 a3_0 a3_1) else (if (!(a1_0 == a2_0) || (!(a1_1 == a2_1))) = true then ((sub_Less.f k a1_0 a1_1 a2_0 a2_1).bind fun t389 => (if t389 = true then (medlarlaw08_SubLess.j0 k a0 t385 false a1_0 a1_1 a2_0 a2_1 a3_0 a3_1) else ((sub_Less.f k a2_0 a2_1 a1_0 a1_1).bind fun t390 => (medlarlaw08_SubLess.j0 k a0 t385 (!t390) a1_0 a1_1 a2_0 a2_1 a3_0 a3_1)))) else (medlarlaw08_SubLess.j0 k a0 t385 false a1_0 a1_1 a2_0 a2_1 a3_0 a3_1)))) else (if (!(a1_0 == a2_0) || (!(a1_1 == a2_1))) = true then ((sub_Less.f k a1_0 a1_1 a2_0 a2_1).bind fun t391 => (if t391 = true then (medlarlaw08_SubLess.j0 k a0 t385 false a1_0 a1_1 a2_0 a2_1 a3_0 a3_1) else ((sub_Less.f k a2_0 a2_1 a1_0 a1_1).bind fun t392 => (medlarlaw08_SubLess.j0 k a0 t385 (!t392) a1_0 a1_1 a2_0 a2_1 a3_0 a3_1)))) else (medlarlaw08_SubLess.j0 k a0 t385 false a1_0 a1_1 a2_0 a2_1 a3_0 a3_1))))))
theorem medlarlaw08_SubLess.mono_l : ∀ k, (∀ y0 y1 y2 y3 y4 y5 y6 y7 y8, LeO (medlarlaw08_SubLess.j0 k y0 y1 y2 y3 y4 y5 y6 y7 y8) (medlarlaw08_SubLess.j0 (k + 1) y0 y1 y2 y3 y4 y5 y6 y7 y8)) ∧ (∀ y0 y1 y2 y3 y4, LeO (medlarlaw08_SubLess.j1 k y0 y1 y2 y3 y4) (medlarlaw08_SubLess.j1 (k + 1) y0 y1 y2 y3 y4)) ∧ (∀ y0 y1 y2 y3 y4 y5 y6 y7 y8, LeO (medlarlaw08_SubLess.l0 k y0 y1 y2 y3 y4 y5 y6 y7 y8) (medlarlaw08_SubLess.l0 (k + 1) y0 y1 y2 y3 y4 y5 y6 y7 y8))
  | 0 => ⟨fun _ _ _ _ _ _ _ _ _ r h => by simp [medlarlaw08_SubLess.j0] at h, fun _ _ _ _ _ r h => by simp [medlarlaw08_SubLess.j1] at h, fun _ _ _ _ _ _ _ _ _ r h => by simp [medlarlaw08_SubLess.l0] at h⟩
  | k + 1 => by
    obtain ⟨ih0, ih1, ih2⟩ := medlarlaw08_SubLess.mono_l k
    refine ⟨?_, ?_, ?_⟩
    · intro y0 y1 y2 y3 y4 y5 y6 y7 y8
      unfold medlarlaw08_SubLess.j0
      repeat' first
      | (with_reducible exact ih0 _ _ _ _ _ _ _ _ _)
      | (with_reducible exact ih1 _ _ _ _ _)
      | (with_reducible exact ih2 _ _ _ _ _ _ _ _ _)
      | (with_reducible exact leaf_Many.mono _ _ _)
      | (with_reducible exact medlarlaw08_live.mono _)
      | (with_reducible exact sub_Leaves.mono _ _ _ _)
      | (with_reducible exact sub_Less.mono _ _ _ _ _)
      | (with_reducible exact sub_Split.mono _ _ _ _)
      | (with_reducible exact LeO.refl _)
      | (with_reducible exact LeO.none _)
      | (with_reducible refine LeO.ite ?_ ?_)
      | (with_reducible refine LeO.bind ?_ (fun _ => ?_))
      | exact ih0 _ _ _ _ _ _ _ _ _
      | exact ih1 _ _ _ _ _
      | exact ih2 _ _ _ _ _ _ _ _ _
      | exact leaf_Many.mono _ _ _
      | exact medlarlaw08_live.mono _
      | exact sub_Leaves.mono _ _ _ _
      | exact sub_Less.mono _ _ _ _ _
      | exact sub_Split.mono _ _ _ _
      | exact LeO.none _
      | refine LeO.ite ?_ ?_
      | refine LeO.bind ?_ (fun _ => ?_)
    · intro y0 y1 y2 y3 y4
      unfold medlarlaw08_SubLess.j1
      repeat' first
      | (with_reducible exact ih0 _ _ _ _ _ _ _ _ _)
      | (with_reducible exact ih1 _ _ _ _ _)
      | (with_reducible exact ih2 _ _ _ _ _ _ _ _ _)
      | (with_reducible exact leaf_Many.mono _ _ _)
      | (with_reducible exact medlarlaw08_live.mono _)
      | (with_reducible exact sub_Leaves.mono _ _ _ _)
      | (with_reducible exact sub_Less.mono _ _ _ _ _)
      | (with_reducible exact sub_Split.mono _ _ _ _)
      | (with_reducible exact LeO.refl _)
      | (with_reducible exact LeO.none _)
      | (with_reducible refine LeO.ite ?_ ?_)
      | (with_reducible refine LeO.bind ?_ (fun _ => ?_))
      | exact ih0 _ _ _ _ _ _ _ _ _
      | exact ih1 _ _ _ _ _
      | exact ih2 _ _ _ _ _ _ _ _ _
      | exact leaf_Many.mono _ _ _
      | exact medlarlaw08_live.mono _
      | exact sub_Leaves.mono _ _ _ _
      | exact sub_Less.mono _ _ _ _ _
      | exact sub_Split.mono _ _ _ _
      | exact LeO.none _
      | refine LeO.ite ?_ ?_
      | refine LeO.bind ?_ (fun _ => ?_)
    · intro y0 y1 y2 y3 y4 y5 y6 y7 y8
      unfold medlarlaw08_SubLess.l0
      repeat' first
      | (with_reducible exact ih0 _ _ _ _ _ _ _ _ _)
      | (with_reducible exact ih1 _ _ _ _ _)
      | (with_reducible exact ih2 _ _ _ _ _ _ _ _ _)
      | (with_reducible exact leaf_Many.mono _ _ _)
      | (with_reducible exact medlarlaw08_live.mono _)
      | (with_reducible exact sub_Leaves.mono _ _ _ _)
      | (with_reducible exact sub_Less.mono _ _ _ _ _)
      | (with_reducible exact sub_Split.mono _ _ _ _)
      | (with_reducible exact LeO.refl _)
      | (with_reducible exact LeO.none _)
      | (with_reducible refine LeO.ite ?_ ?_)
      | (with_reducible refine LeO.bind ?_ (fun _ => ?_))
      | exact ih0 _ _ _ _ _ _ _ _ _
      | exact ih1 _ _ _ _ _
      | exact ih2 _ _ _ _ _ _ _ _ _
      | exact leaf_Many.mono _ _ _
      | exact medlarlaw08_live.mono _
      | exact sub_Leaves.mono _ _ _ _
      | exact sub_Less.mono _ _ _ _ _
      | exact sub_Split.mono _ _ _ _
      | exact LeO.none _
      | refine LeO.ite ?_ ?_
      | refine LeO.bind ?_ (fun _ => ?_)
theorem medlarlaw08_SubLess.mono : ∀ a0 a1 a2 a3 a4 a5 a6 k, LeO (medlarlaw08_SubLess.f k a0 a1 a2 a3 a4 a5 a6) (medlarlaw08_SubLess.f (k + 1) a0 a1 a2 a3 a4 a5 a6) := by
  intro a0 a1 a2 a3 a4 a5 a6 k
  obtain ⟨ih0, ih1, ih2⟩ := medlarlaw08_SubLess.mono_l k
  unfold medlarlaw08_SubLess.f
  repeat' first
      | (with_reducible exact ih0 _ _ _ _ _ _ _ _ _)
      | (with_reducible exact ih1 _ _ _ _ _)
      | (with_reducible exact ih2 _ _ _ _ _ _ _ _ _)
      | (with_reducible exact leaf_Many.mono _ _ _)
      | (with_reducible exact medlarlaw08_live.mono _)
      | (with_reducible exact sub_Leaves.mono _ _ _ _)
      | (with_reducible exact sub_Less.mono _ _ _ _ _)
      | (with_reducible exact sub_Split.mono _ _ _ _)
      | (with_reducible exact LeO.refl _)
      | (with_reducible exact LeO.none _)
      | (with_reducible refine LeO.ite ?_ ?_)
      | (with_reducible refine LeO.bind ?_ (fun _ => ?_))
      | exact ih0 _ _ _ _ _ _ _ _ _
      | exact ih1 _ _ _ _ _
      | exact ih2 _ _ _ _ _ _ _ _ _
      | exact leaf_Many.mono _ _ _
      | exact medlarlaw08_live.mono _
      | exact sub_Leaves.mono _ _ _ _
      | exact sub_Less.mono _ _ _ _ _
      | exact sub_Split.mono _ _ _ _
      | exact LeO.none _
      | refine LeO.ite ?_ ?_
      | refine LeO.bind ?_ (fun _ => ?_)
set_option maxHeartbeats 8000000 in
set_option maxRecDepth 100000 in
theorem medlarlaw08_SubLess.calls (k : Nat) (a0 : Int) (a1_0 : Int) (a1_1 : Int) (a2_0 : Int) (a2_1 : Int) (a3_0 : Int) (a3_1 : Int) (r : Bool) (w : World) (h : medlarlaw08_SubLess.f k a0 a1_0 a1_1 a2_0 a2_1 a3_0 a3_1 = some r) :
    Calls Try.prog 7 #[.int .i64 a0, .agg #[.int .u64 a1_0, .int .u64 a1_1], .agg #[.int .u64 a2_0, .int .u64 a2_1], .agg #[.int .u64 a3_0, .int .u64 a3_1]] w fun e w' => e = .returned (.bool r) ∧ Below w.heap.size w w' := by
  have hu24 := Try.underlying24
  have HB := Aside0.mk (Below.refl w.heap.size w)
  have H : ((medlarlaw08_live.f k).bind fun t385 => ((sub_Less.f k a1_0 a1_1 a1_0 a1_1).bind fun t386 => (if t386 = true then (medlarlaw08_SubLess.j0 k a0 t385 true a1_0 a1_1 a2_0 a2_1 a3_0 a3_1) else ((sub_Less.f k a1_0 a1_1 a2_0 a2_1).bind fun t387 => (if t387 = true then ((sub_Less.f k a2_0 a2_1 a1_0 a1_1).bind fun t388 => (if t388 = true then (medlarlaw08_SubLess.j0 k a0 t385 true a1_0 a1_1 a2_0 a2_1 a3_0 a3_1) else (if (!(a1_0 == a2_0) || (!(a1_1 == a2_1))) = true then ((sub_Less.f k a1_0 a1_1 a2_0 a2_1).bind fun t389 => (if t389 = true then (medlarlaw08_SubLess.j0 k a0 t385 false a1_0 a1_1 a2_0 a2_1 a3_0 a3_1) else ((sub_Less.f k a2_0 a2_1 a1_0 a1_1).bind fun t390 => (medlarlaw08_SubLess.j0 k a0 t385 (!t390) a1_0 a1_1 a2_0 a2_1 a3_0 a3_1)))) else (medlarlaw08_SubLess.j0 k a0 t385 false a1_0 a1_1 a2_0 a2_1 a3_0 a3_1)))) else (if (!(a1_0 == a2_0) || (!(a1_1 == a2_1))) = true then ((sub_Less.f k a1_0 a1_1 a2_0 a2_1).bind fun t391 => (if t391 = true then (medlarlaw08_SubLess.j0 k a0 t385 false a1_0 a1_1 a2_0 a2_1 a3_0 a3_1) else ((sub_Less.f k a2_0 a2_1 a1_0 a1_1).bind fun t392 => (medlarlaw08_SubLess.j0 k a0 t385 (!t392) a1_0 a1_1 a2_0 a2_1 a3_0 a3_1)))) else (medlarlaw08_SubLess.j0 k a0 t385 false a1_0 a1_1 a2_0 a2_1 a3_0 a3_1))))))) = some r := h
  clear h
  replace H := Option.bind_eq_some_iff.mp H
  obtain ⟨t385, A50, H⟩ := H
  replace H : ((sub_Less.f k a1_0 a1_1 a1_0 a1_1).bind fun t386 => (if t386 = true then (medlarlaw08_SubLess.j0 k a0 t385 true a1_0 a1_1 a2_0 a2_1 a3_0 a3_1) else ((sub_Less.f k a1_0 a1_1 a2_0 a2_1).bind fun t387 => (if t387 = true then ((sub_Less.f k a2_0 a2_1 a1_0 a1_1).bind fun t388 => (if t388 = true then (medlarlaw08_SubLess.j0 k a0 t385 true a1_0 a1_1 a2_0 a2_1 a3_0 a3_1) else (if (!(a1_0 == a2_0) || (!(a1_1 == a2_1))) = true then ((sub_Less.f k a1_0 a1_1 a2_0 a2_1).bind fun t389 => (if t389 = true then (medlarlaw08_SubLess.j0 k a0 t385 false a1_0 a1_1 a2_0 a2_1 a3_0 a3_1) else ((sub_Less.f k a2_0 a2_1 a1_0 a1_1).bind fun t390 => (medlarlaw08_SubLess.j0 k a0 t385 (!t390) a1_0 a1_1 a2_0 a2_1 a3_0 a3_1)))) else (medlarlaw08_SubLess.j0 k a0 t385 false a1_0 a1_1 a2_0 a2_1 a3_0 a3_1)))) else (if (!(a1_0 == a2_0) || (!(a1_1 == a2_1))) = true then ((sub_Less.f k a1_0 a1_1 a2_0 a2_1).bind fun t391 => (if t391 = true then (medlarlaw08_SubLess.j0 k a0 t385 false a1_0 a1_1 a2_0 a2_1 a3_0 a3_1) else ((sub_Less.f k a2_0 a2_1 a1_0 a1_1).bind fun t392 => (medlarlaw08_SubLess.j0 k a0 t385 (!t392) a1_0 a1_1 a2_0 a2_1 a3_0 a3_1)))) else (medlarlaw08_SubLess.j0 k a0 t385 false a1_0 a1_1 a2_0 a2_1 a3_0 a3_1)))))) = some r := H
  have A5 := Aside0.mk A50
  clear A50
  have HC6 := Aside0.mk H
  clear H
  go_enter Try.func7, Try.ntmps7
  go_upto_region 2 with (first | ((with_reducible refine gate_dst (N := 5) rfl ?_); refine box_event ?hg (N := 5) ?hd (cs := #[.int .u64 a1_0, .int .u64 a1_1]) (t := 24) ?hr ?_; (case hd => rfl); (case hg => rfl); (case hr => first | (go_simp; done) | (go_simp; rfl)); intro gb382 hg w7 hbox hb; have n0_ := Aside0.mk (below_step (by repeat (first | (with_reducible first | exact HB.out | apply below_alloc | apply pw_below_drewN | apply below_drew1) | exact HB.out)) hb); have n1_ := Aside0.mk (hbox); have n2_ := Aside0.mk ((by rw [hg]; exact (below_size (by repeat (first | (with_reducible first | exact HB.out | apply below_alloc | apply pw_below_drewN | apply below_drew1) | exact HB.out))) : w.heap.size ≤ gb382)); have n3_ := Aside0.mk ((by rw [hg]; exact (below_size (by repeat (first | (with_reducible first | exact HB.out | apply below_alloc | apply pw_below_drewN | apply below_drew1) | exact HB.out))) : w.heap.size ≤ gb382)); clear HB; have HB := n0_; have BK382 := n1_; have GW382 := n2_; have GE382 := n3_; clear n0_ n1_ n2_ n3_; clear hb hbox hg) | ((with_reducible refine gate_dst (N := 6) rfl ?_); refine box_event ?hg (N := 6) ?hd (cs := #[.int .u64 a2_0, .int .u64 a2_1]) (t := 24) ?hr ?_; (case hd => rfl); (case hg => rfl); (case hr => first | (go_simp; done) | (go_simp; rfl)); intro gb383 hg w8 hbox hb; have n0_ := Aside0.mk (blk_below (g := gb382) (o := .cells #[.int .u64 a1_0, .int .u64 a1_1] 24 (0, 0)) (by (with_reducible repeat (first | refine blk_drewN ?_ _ | refine blk_drew ?_ | refine blk_alloc ?_ _)); exact BK382.out) hb); have n1_ := Aside0.mk (below_step (by repeat (first | (with_reducible first | exact HB.out | apply below_alloc | apply pw_below_drewN | apply below_drew1 | refine below_set ?_ GE382.out) | exact HB.out)) hb); have n2_ := Aside0.mk (hbox); have n3_ := Aside0.mk ((by rw [hg]; exact (below_size (by repeat (first | (with_reducible first | exact HB.out | apply below_alloc | apply pw_below_drewN | apply below_drew1 | refine below_set ?_ GE382.out) | exact HB.out))) : w.heap.size ≤ gb383)); have n4_ := Aside0.mk ((by rw [hg]; exact (below_size (by repeat (first | (with_reducible first | exact HB.out | apply below_alloc | apply pw_below_drewN | apply below_drew1 | refine below_set ?_ GE382.out) | exact HB.out))) : w.heap.size ≤ gb383)); have n5_ := Aside0.mk ((by rw [hg]; exact Nat.ne_of_lt (blk_lt (g := gb382) (o := .cells #[.int .u64 a1_0, .int .u64 a1_1] 24 (0, 0)) (by (with_reducible repeat (first | refine blk_drewN ?_ _ | refine blk_drew ?_ | refine blk_alloc ?_ _)); exact BK382.out)) : gb382 ≠ gb383)); have n6_ := Aside0.mk ((by rw [hg]; exact Nat.ne_of_gt (blk_lt (g := gb382) (o := .cells #[.int .u64 a1_0, .int .u64 a1_1] 24 (0, 0)) (by (with_reducible repeat (first | refine blk_drewN ?_ _ | refine blk_drew ?_ | refine blk_alloc ?_ _)); exact BK382.out)) : gb383 ≠ gb382)); clear BK382; clear HB; have BK382 := n0_; have HB := n1_; have BK383 := n2_; have GW383 := n3_; have GE383 := n4_; have NB382_383 := n5_; have NB383_382 := n6_; clear n0_ n1_ n2_ n3_ n4_ n5_ n6_; clear hb hbox hg) | ((with_reducible refine gate_dst (N := 7) rfl ?_); refine box_event ?hg (N := 7) ?hd (cs := #[.int .u64 a3_0, .int .u64 a3_1]) (t := 24) ?hr ?_; (case hd => rfl); (case hg => rfl); (case hr => first | (go_simp; done) | (go_simp; rfl)); intro gb384 hg w9 hbox hb; have n0_ := Aside0.mk (blk_below (g := gb382) (o := .cells #[.int .u64 a1_0, .int .u64 a1_1] 24 (0, 0)) (by (with_reducible repeat (first | refine blk_drewN ?_ _ | refine blk_drew ?_ | refine blk_alloc ?_ _)); exact BK382.out) hb); have n1_ := Aside0.mk (blk_below (g := gb383) (o := .cells #[.int .u64 a2_0, .int .u64 a2_1] 24 (0, 0)) (by (with_reducible repeat (first | refine blk_drewN ?_ _ | refine blk_drew ?_ | refine blk_alloc ?_ _)); exact BK383.out) hb); have n2_ := Aside0.mk (below_step (by repeat (first | (with_reducible first | exact HB.out | apply below_alloc | apply pw_below_drewN | apply below_drew1 | refine below_set ?_ GE382.out | refine below_set ?_ GE383.out) | exact HB.out)) hb); have n3_ := Aside0.mk (hbox); have n4_ := Aside0.mk ((by rw [hg]; exact (below_size (by repeat (first | (with_reducible first | exact HB.out | apply below_alloc | apply pw_below_drewN | apply below_drew1 | refine below_set ?_ GE382.out | refine below_set ?_ GE383.out) | exact HB.out))) : w.heap.size ≤ gb384)); have n5_ := Aside0.mk ((by rw [hg]; exact (below_size (by repeat (first | (with_reducible first | exact HB.out | apply below_alloc | apply pw_below_drewN | apply below_drew1 | refine below_set ?_ GE382.out | refine below_set ?_ GE383.out) | exact HB.out))) : w.heap.size ≤ gb384)); have n6_ := Aside0.mk ((by rw [hg]; exact Nat.ne_of_lt (blk_lt (g := gb382) (o := .cells #[.int .u64 a1_0, .int .u64 a1_1] 24 (0, 0)) (by (with_reducible repeat (first | refine blk_drewN ?_ _ | refine blk_drew ?_ | refine blk_alloc ?_ _)); exact BK382.out)) : gb382 ≠ gb384)); have n7_ := Aside0.mk ((by rw [hg]; exact Nat.ne_of_gt (blk_lt (g := gb382) (o := .cells #[.int .u64 a1_0, .int .u64 a1_1] 24 (0, 0)) (by (with_reducible repeat (first | refine blk_drewN ?_ _ | refine blk_drew ?_ | refine blk_alloc ?_ _)); exact BK382.out)) : gb384 ≠ gb382)); have n8_ := Aside0.mk ((by rw [hg]; exact Nat.ne_of_lt (blk_lt (g := gb383) (o := .cells #[.int .u64 a2_0, .int .u64 a2_1] 24 (0, 0)) (by (with_reducible repeat (first | refine blk_drewN ?_ _ | refine blk_drew ?_ | refine blk_alloc ?_ _)); exact BK383.out)) : gb383 ≠ gb384)); have n9_ := Aside0.mk ((by rw [hg]; exact Nat.ne_of_gt (blk_lt (g := gb383) (o := .cells #[.int .u64 a2_0, .int .u64 a2_1] 24 (0, 0)) (by (with_reducible repeat (first | refine blk_drewN ?_ _ | refine blk_drew ?_ | refine blk_alloc ?_ _)); exact BK383.out)) : gb384 ≠ gb383)); clear BK382; clear BK383; clear HB; have BK382 := n0_; have BK383 := n1_; have HB := n2_; have BK384 := n3_; have GW384 := n4_; have GE384 := n5_; have NB382_384 := n6_; have NB384_382 := n7_; have NB383_384 := n8_; have NB384_383 := n9_; clear n0_ n1_ n2_ n3_ n4_ n5_ n6_ n7_ n8_ n9_; clear hb hbox hg) | ((with_reducible refine gate_callee (f := 14) rfl ?_); refine goesL_ (some 23) rfl rfl Try.func14 (by kernel_rfl) rfl #[] rfl (by (try simp only [List.map_toArray, List.map_cons, List.map_nil]); first | done | rfl | (simp only [List.length_drop, List.length_take]; rfl)) ?_; (with_reducible refine (medlarlaw08_live.calls k  t385 _ A5.out).mono ?_); rintro e w10 ⟨rfl, hb⟩; refine ⟨_, rfl, ?_⟩; have n0_ := Aside0.mk (blk_below (g := gb382) (o := .cells #[.int .u64 a1_0, .int .u64 a1_1] 24 (0, 0)) (by (with_reducible repeat (first | refine blk_drewN ?_ _ | refine blk_drew ?_ | refine blk_alloc ?_ _)); exact BK382.out) hb); have n1_ := Aside0.mk (blk_below (g := gb383) (o := .cells #[.int .u64 a2_0, .int .u64 a2_1] 24 (0, 0)) (by (with_reducible repeat (first | refine blk_drewN ?_ _ | refine blk_drew ?_ | refine blk_alloc ?_ _)); exact BK383.out) hb); have n2_ := Aside0.mk (blk_below (g := gb384) (o := .cells #[.int .u64 a3_0, .int .u64 a3_1] 24 (0, 0)) (by (with_reducible repeat (first | refine blk_drewN ?_ _ | refine blk_drew ?_ | refine blk_alloc ?_ _)); exact BK384.out) hb); have n3_ := Aside0.mk (below_step (by repeat (first | (with_reducible first | exact HB.out | apply below_alloc | apply pw_below_drewN | apply below_drew1 | refine below_set ?_ GE382.out | refine below_set ?_ GE383.out | refine below_set ?_ GE384.out) | exact HB.out)) hb); clear BK382; clear BK383; clear BK384; clear HB; have BK382 := n0_; have BK383 := n1_; have BK384 := n2_; have HB := n3_; clear n0_ n1_ n2_ n3_; (try clear hb); (try clear hb2); (try clear hk); (try clear hi)))
  (try simp only [Act.put, List.setIfInBounds_toArray, List.set_cons_zero, List.set_cons_succ])
  go_cut [53] (fun v53 wc => ∃ (kq : Nat) (x53_5 : Bool), v53 = .bool x53_5 ∧ Aside0 (medlarlaw08_SubLess.j0 kq a0 t385 x53_5 a1_0 a1_1 a2_0 a2_1 a3_0 a3_1 = some r) ∧ Aside0 (kq ≤ k) ∧ Aside0 (wc.heap[gb382]? = some (.cells #[.int .u64 a1_0, .int .u64 a1_1] 24 (0, 0))) ∧ Aside0 (wc.heap[gb383]? = some (.cells #[.int .u64 a2_0, .int .u64 a2_1] 24 (0, 0))) ∧ Aside0 (wc.heap[gb384]? = some (.cells #[.int .u64 a3_0, .int .u64 a3_1] 24 (0, 0))) ∧ Aside0 (Below w.heap.size w wc))
  case first =>
    have H := HC6.out
    clear HC6
    replace H := Option.bind_eq_some_iff.mp H
    obtain ⟨t386, A110, H⟩ := H
    replace H : (if t386 = true then (medlarlaw08_SubLess.j0 k a0 t385 true a1_0 a1_1 a2_0 a2_1 a3_0 a3_1) else ((sub_Less.f k a1_0 a1_1 a2_0 a2_1).bind fun t387 => (if t387 = true then ((sub_Less.f k a2_0 a2_1 a1_0 a1_1).bind fun t388 => (if t388 = true then (medlarlaw08_SubLess.j0 k a0 t385 true a1_0 a1_1 a2_0 a2_1 a3_0 a3_1) else (if (!(a1_0 == a2_0) || (!(a1_1 == a2_1))) = true then ((sub_Less.f k a1_0 a1_1 a2_0 a2_1).bind fun t389 => (if t389 = true then (medlarlaw08_SubLess.j0 k a0 t385 false a1_0 a1_1 a2_0 a2_1 a3_0 a3_1) else ((sub_Less.f k a2_0 a2_1 a1_0 a1_1).bind fun t390 => (medlarlaw08_SubLess.j0 k a0 t385 (!t390) a1_0 a1_1 a2_0 a2_1 a3_0 a3_1)))) else (medlarlaw08_SubLess.j0 k a0 t385 false a1_0 a1_1 a2_0 a2_1 a3_0 a3_1)))) else (if (!(a1_0 == a2_0) || (!(a1_1 == a2_1))) = true then ((sub_Less.f k a1_0 a1_1 a2_0 a2_1).bind fun t391 => (if t391 = true then (medlarlaw08_SubLess.j0 k a0 t385 false a1_0 a1_1 a2_0 a2_1 a3_0 a3_1) else ((sub_Less.f k a2_0 a2_1 a1_0 a1_1).bind fun t392 => (medlarlaw08_SubLess.j0 k a0 t385 (!t392) a1_0 a1_1 a2_0 a2_1 a3_0 a3_1)))) else (medlarlaw08_SubLess.j0 k a0 t385 false a1_0 a1_1 a2_0 a2_1 a3_0 a3_1))))) = some r := H
    have A11 := Aside0.mk A110
    clear A110
    by_cases c12 : t386 = true
    · subst c12
      have H1 : (medlarlaw08_SubLess.j0 k a0 t385 true a1_0 a1_1 a2_0 a2_1 a3_0 a3_1) = some r := by rw [if_pos rfl] at H; exact H
      clear H
      have H := H1
      clear H1
      have H' := Aside0.mk H
      clear H
      have hnb13 := NB382_383.out
      have hnc13 := NB383_382.out
      have hnb14 := NB382_384.out
      have hnc14 := NB384_382.out
      have hcz15_0 : w10.cell? ⟨gb382, 0, none⟩ = some (.int .u64 a1_0) := (blk_cell BK382.out 0).trans rfl
      have hcz15_1 : w10.cell? ⟨gb382, 1, none⟩ = some (.int .u64 a1_1) := (blk_cell BK382.out 1).trans rfl
      have hfz15_0 := blk_frozen BK382.out 0
      have hfz15_1 := blk_frozen BK382.out 1
      go_wp2_with (first | ((with_reducible refine gate_callee (f := 32) rfl ?_); refine goesL_ (some 26) rfl rfl Try.func32 (by kernel_rfl) rfl #[.agg #[.int .u64 a1_0, .int .u64 a1_1], .agg #[.int .u64 a1_0, .int .u64 a1_1]] rfl (by (try simp only [List.map_toArray, List.map_cons, List.map_nil]); first | done | rfl | (simp only [List.length_drop, List.length_take]; rfl)) ?_; (with_reducible refine (sub_Less.calls k a1_0 a1_1 a1_0 a1_1 true _ A11.out).mono ?_); rintro e w16 ⟨rfl, hb⟩; clear A11; refine ⟨_, rfl, ?_⟩; have n0_ := Aside0.mk (blk_below (g := gb382) (o := .cells #[.int .u64 a1_0, .int .u64 a1_1] 24 (0, 0)) (by (with_reducible repeat (first | refine blk_drewN ?_ _ | refine blk_drew ?_ | refine blk_alloc ?_ _)); exact BK382.out) hb); have n1_ := Aside0.mk (blk_below (g := gb383) (o := .cells #[.int .u64 a2_0, .int .u64 a2_1] 24 (0, 0)) (by (with_reducible repeat (first | refine blk_drewN ?_ _ | refine blk_drew ?_ | refine blk_alloc ?_ _)); exact BK383.out) hb); have n2_ := Aside0.mk (blk_below (g := gb384) (o := .cells #[.int .u64 a3_0, .int .u64 a3_1] 24 (0, 0)) (by (with_reducible repeat (first | refine blk_drewN ?_ _ | refine blk_drew ?_ | refine blk_alloc ?_ _)); exact BK384.out) hb); have n3_ := Aside0.mk (below_step (by repeat (first | (with_reducible first | exact HB.out | apply below_alloc | apply pw_below_drewN | apply below_drew1 | refine below_set ?_ GE382.out | refine below_set ?_ GE383.out | refine below_set ?_ GE384.out) | exact HB.out)) hb); clear BK382; clear BK383; clear BK384; clear HB; have BK382 := n0_; have BK383 := n1_; have BK384 := n2_; have HB := n3_; clear n0_ n1_ n2_ n3_; (try clear hb); (try clear hb2); (try clear hk); (try clear hi)))
      go_meet
      case rel => exact ⟨_, (true), (by first | rfl | (simp; done) | (simp [*]; done)), H', ⟨by first | omega | exact Nat.le_refl _⟩, ⟨by (with_reducible repeat (first | refine blk_drewN ?_ _ | refine blk_drew ?_ | refine blk_alloc ?_ _)); exact BK382.out⟩, ⟨by (with_reducible repeat (first | refine blk_drewN ?_ _ | refine blk_drew ?_ | refine blk_alloc ?_ _)); exact BK383.out⟩, ⟨by (with_reducible repeat (first | refine blk_drewN ?_ _ | refine blk_drew ?_ | refine blk_alloc ?_ _)); exact BK384.out⟩, ⟨by repeat (first | (with_reducible first | exact HB.out | apply below_alloc | apply pw_below_drewN | apply below_drew1 | refine below_set ?_ GE382.out | refine below_set ?_ GE383.out | refine below_set ?_ GE384.out) | exact HB.out)⟩⟩
    · replace c12 := Bool.eq_false_iff.mpr c12
      subst c12
      have H1 : ((sub_Less.f k a1_0 a1_1 a2_0 a2_1).bind fun t387 => (if t387 = true then ((sub_Less.f k a2_0 a2_1 a1_0 a1_1).bind fun t388 => (if t388 = true then (medlarlaw08_SubLess.j0 k a0 t385 true a1_0 a1_1 a2_0 a2_1 a3_0 a3_1) else (if (!(a1_0 == a2_0) || (!(a1_1 == a2_1))) = true then ((sub_Less.f k a1_0 a1_1 a2_0 a2_1).bind fun t389 => (if t389 = true then (medlarlaw08_SubLess.j0 k a0 t385 false a1_0 a1_1 a2_0 a2_1 a3_0 a3_1) else ((sub_Less.f k a2_0 a2_1 a1_0 a1_1).bind fun t390 => (medlarlaw08_SubLess.j0 k a0 t385 (!t390) a1_0 a1_1 a2_0 a2_1 a3_0 a3_1)))) else (medlarlaw08_SubLess.j0 k a0 t385 false a1_0 a1_1 a2_0 a2_1 a3_0 a3_1)))) else (if (!(a1_0 == a2_0) || (!(a1_1 == a2_1))) = true then ((sub_Less.f k a1_0 a1_1 a2_0 a2_1).bind fun t391 => (if t391 = true then (medlarlaw08_SubLess.j0 k a0 t385 false a1_0 a1_1 a2_0 a2_1 a3_0 a3_1) else ((sub_Less.f k a2_0 a2_1 a1_0 a1_1).bind fun t392 => (medlarlaw08_SubLess.j0 k a0 t385 (!t392) a1_0 a1_1 a2_0 a2_1 a3_0 a3_1)))) else (medlarlaw08_SubLess.j0 k a0 t385 false a1_0 a1_1 a2_0 a2_1 a3_0 a3_1)))) = some r := by rw [if_neg (show ¬ (false = true) by decide)] at H; exact H
      clear H
      have H := H1
      clear H1
      replace H := Option.bind_eq_some_iff.mp H
      obtain ⟨t387, A170, H⟩ := H
      replace H : (if t387 = true then ((sub_Less.f k a2_0 a2_1 a1_0 a1_1).bind fun t388 => (if t388 = true then (medlarlaw08_SubLess.j0 k a0 t385 true a1_0 a1_1 a2_0 a2_1 a3_0 a3_1) else (if (!(a1_0 == a2_0) || (!(a1_1 == a2_1))) = true then ((sub_Less.f k a1_0 a1_1 a2_0 a2_1).bind fun t389 => (if t389 = true then (medlarlaw08_SubLess.j0 k a0 t385 false a1_0 a1_1 a2_0 a2_1 a3_0 a3_1) else ((sub_Less.f k a2_0 a2_1 a1_0 a1_1).bind fun t390 => (medlarlaw08_SubLess.j0 k a0 t385 (!t390) a1_0 a1_1 a2_0 a2_1 a3_0 a3_1)))) else (medlarlaw08_SubLess.j0 k a0 t385 false a1_0 a1_1 a2_0 a2_1 a3_0 a3_1)))) else (if (!(a1_0 == a2_0) || (!(a1_1 == a2_1))) = true then ((sub_Less.f k a1_0 a1_1 a2_0 a2_1).bind fun t391 => (if t391 = true then (medlarlaw08_SubLess.j0 k a0 t385 false a1_0 a1_1 a2_0 a2_1 a3_0 a3_1) else ((sub_Less.f k a2_0 a2_1 a1_0 a1_1).bind fun t392 => (medlarlaw08_SubLess.j0 k a0 t385 (!t392) a1_0 a1_1 a2_0 a2_1 a3_0 a3_1)))) else (medlarlaw08_SubLess.j0 k a0 t385 false a1_0 a1_1 a2_0 a2_1 a3_0 a3_1))) = some r := H
      have A17 := Aside0.mk A170
      clear A170
      by_cases c18 : t387 = true
      · subst c18
        have H1 : ((sub_Less.f k a2_0 a2_1 a1_0 a1_1).bind fun t388 => (if t388 = true then (medlarlaw08_SubLess.j0 k a0 t385 true a1_0 a1_1 a2_0 a2_1 a3_0 a3_1) else (if (!(a1_0 == a2_0) || (!(a1_1 == a2_1))) = true then ((sub_Less.f k a1_0 a1_1 a2_0 a2_1).bind fun t389 => (if t389 = true then (medlarlaw08_SubLess.j0 k a0 t385 false a1_0 a1_1 a2_0 a2_1 a3_0 a3_1) else ((sub_Less.f k a2_0 a2_1 a1_0 a1_1).bind fun t390 => (medlarlaw08_SubLess.j0 k a0 t385 (!t390) a1_0 a1_1 a2_0 a2_1 a3_0 a3_1)))) else (medlarlaw08_SubLess.j0 k a0 t385 false a1_0 a1_1 a2_0 a2_1 a3_0 a3_1)))) = some r := by rw [if_pos rfl] at H; exact H
        clear H
        have H := H1
        clear H1
        replace H := Option.bind_eq_some_iff.mp H
        obtain ⟨t388, A190, H⟩ := H
        replace H : (if t388 = true then (medlarlaw08_SubLess.j0 k a0 t385 true a1_0 a1_1 a2_0 a2_1 a3_0 a3_1) else (if (!(a1_0 == a2_0) || (!(a1_1 == a2_1))) = true then ((sub_Less.f k a1_0 a1_1 a2_0 a2_1).bind fun t389 => (if t389 = true then (medlarlaw08_SubLess.j0 k a0 t385 false a1_0 a1_1 a2_0 a2_1 a3_0 a3_1) else ((sub_Less.f k a2_0 a2_1 a1_0 a1_1).bind fun t390 => (medlarlaw08_SubLess.j0 k a0 t385 (!t390) a1_0 a1_1 a2_0 a2_1 a3_0 a3_1)))) else (medlarlaw08_SubLess.j0 k a0 t385 false a1_0 a1_1 a2_0 a2_1 a3_0 a3_1))) = some r := H
        have A19 := Aside0.mk A190
        clear A190
        by_cases c20 : t388 = true
        · subst c20
          have H1 : (medlarlaw08_SubLess.j0 k a0 t385 true a1_0 a1_1 a2_0 a2_1 a3_0 a3_1) = some r := by rw [if_pos rfl] at H; exact H
          clear H
          have H := H1
          clear H1
          have H' := Aside0.mk H
          clear H
          have hnb21 := NB382_383.out
          have hnc21 := NB383_382.out
          have hnb22 := NB382_384.out
          have hnc22 := NB384_382.out
          have hcz23_0 : w10.cell? ⟨gb382, 0, none⟩ = some (.int .u64 a1_0) := (blk_cell BK382.out 0).trans rfl
          have hcz23_1 : w10.cell? ⟨gb382, 1, none⟩ = some (.int .u64 a1_1) := (blk_cell BK382.out 1).trans rfl
          have hfz23_0 := blk_frozen BK382.out 0
          have hfz23_1 := blk_frozen BK382.out 1
          go_wp2_with (first | ((with_reducible refine gate_callee (f := 32) rfl ?_); refine goesL_ (some 26) rfl rfl Try.func32 (by kernel_rfl) rfl #[.agg #[.int .u64 a1_0, .int .u64 a1_1], .agg #[.int .u64 a1_0, .int .u64 a1_1]] rfl (by (try simp only [List.map_toArray, List.map_cons, List.map_nil]); first | done | rfl | (simp only [List.length_drop, List.length_take]; rfl)) ?_; (with_reducible refine (sub_Less.calls k a1_0 a1_1 a1_0 a1_1 false _ A11.out).mono ?_); rintro e w24 ⟨rfl, hb⟩; clear A11; refine ⟨_, rfl, ?_⟩; have n0_ := Aside0.mk (blk_below (g := gb382) (o := .cells #[.int .u64 a1_0, .int .u64 a1_1] 24 (0, 0)) (by (with_reducible repeat (first | refine blk_drewN ?_ _ | refine blk_drew ?_ | refine blk_alloc ?_ _)); exact BK382.out) hb); have n1_ := Aside0.mk (blk_below (g := gb383) (o := .cells #[.int .u64 a2_0, .int .u64 a2_1] 24 (0, 0)) (by (with_reducible repeat (first | refine blk_drewN ?_ _ | refine blk_drew ?_ | refine blk_alloc ?_ _)); exact BK383.out) hb); have n2_ := Aside0.mk (blk_below (g := gb384) (o := .cells #[.int .u64 a3_0, .int .u64 a3_1] 24 (0, 0)) (by (with_reducible repeat (first | refine blk_drewN ?_ _ | refine blk_drew ?_ | refine blk_alloc ?_ _)); exact BK384.out) hb); have n3_ := Aside0.mk (below_step (by repeat (first | (with_reducible first | exact HB.out | apply below_alloc | apply pw_below_drewN | apply below_drew1 | refine below_set ?_ GE382.out | refine below_set ?_ GE383.out | refine below_set ?_ GE384.out) | exact HB.out)) hb); clear BK382; clear BK383; clear BK384; clear HB; have BK382 := n0_; have BK383 := n1_; have BK384 := n2_; have HB := n3_; clear n0_ n1_ n2_ n3_; (try clear hb); (try clear hb2); (try clear hk); (try clear hi); have hcz25_0 : w24.cell? ⟨gb382, 0, none⟩ = some (.int .u64 a1_0) := (blk_cell BK382.out 0).trans rfl; have hcz25_1 : w24.cell? ⟨gb382, 1, none⟩ = some (.int .u64 a1_1) := (blk_cell BK382.out 1).trans rfl; have hfz25_0 := blk_frozen BK382.out 0; have hfz25_1 := blk_frozen BK382.out 1; have hnb26 := NB383_384.out; have hnc26 := NB384_383.out; have hcz27_0 : w24.cell? ⟨gb383, 0, none⟩ = some (.int .u64 a2_0) := (blk_cell BK383.out 0).trans rfl; have hcz27_1 : w24.cell? ⟨gb383, 1, none⟩ = some (.int .u64 a2_1) := (blk_cell BK383.out 1).trans rfl; have hfz27_0 := blk_frozen BK383.out 0; have hfz27_1 := blk_frozen BK383.out 1) | (go_at_call 32; (with_reducible refine (sub_Less.calls k a1_0 a1_1 a2_0 a2_1 true _ A17.out).mono ?_); rintro e w28 ⟨rfl, hb⟩; clear A17; have n0_ := Aside0.mk (blk_below (g := gb382) (o := .cells #[.int .u64 a1_0, .int .u64 a1_1] 24 (0, 0)) (by (with_reducible repeat (first | refine blk_drewN ?_ _ | refine blk_drew ?_ | refine blk_alloc ?_ _)); exact BK382.out) hb); have n1_ := Aside0.mk (blk_below (g := gb383) (o := .cells #[.int .u64 a2_0, .int .u64 a2_1] 24 (0, 0)) (by (with_reducible repeat (first | refine blk_drewN ?_ _ | refine blk_drew ?_ | refine blk_alloc ?_ _)); exact BK383.out) hb); have n2_ := Aside0.mk (blk_below (g := gb384) (o := .cells #[.int .u64 a3_0, .int .u64 a3_1] 24 (0, 0)) (by (with_reducible repeat (first | refine blk_drewN ?_ _ | refine blk_drew ?_ | refine blk_alloc ?_ _)); exact BK384.out) hb); have n3_ := Aside0.mk (below_step (by repeat (first | (with_reducible first | exact HB.out | apply below_alloc | apply pw_below_drewN | apply below_drew1 | refine below_set ?_ GE382.out | refine below_set ?_ GE383.out | refine below_set ?_ GE384.out) | exact HB.out)) hb); clear BK382; clear BK383; clear BK384; clear HB; have BK382 := n0_; have BK383 := n1_; have BK384 := n2_; have HB := n3_; clear n0_ n1_ n2_ n3_; (try clear hb); (try clear hb2); (try clear hk); (try clear hi); have hcz29_0 : w28.cell? ⟨gb383, 0, none⟩ = some (.int .u64 a2_0) := (blk_cell BK383.out 0).trans rfl; have hcz29_1 : w28.cell? ⟨gb383, 1, none⟩ = some (.int .u64 a2_1) := (blk_cell BK383.out 1).trans rfl; have hfz29_0 := blk_frozen BK383.out 0; have hfz29_1 := blk_frozen BK383.out 1; have hcz30_0 : w28.cell? ⟨gb382, 0, none⟩ = some (.int .u64 a1_0) := (blk_cell BK382.out 0).trans rfl; have hcz30_1 : w28.cell? ⟨gb382, 1, none⟩ = some (.int .u64 a1_1) := (blk_cell BK382.out 1).trans rfl; have hfz30_0 := blk_frozen BK382.out 0; have hfz30_1 := blk_frozen BK382.out 1) | (go_at_call 32; (with_reducible refine (sub_Less.calls k a2_0 a2_1 a1_0 a1_1 true _ A19.out).mono ?_); rintro e w31 ⟨rfl, hb⟩; clear A19; have n0_ := Aside0.mk (blk_below (g := gb382) (o := .cells #[.int .u64 a1_0, .int .u64 a1_1] 24 (0, 0)) (by (with_reducible repeat (first | refine blk_drewN ?_ _ | refine blk_drew ?_ | refine blk_alloc ?_ _)); exact BK382.out) hb); have n1_ := Aside0.mk (blk_below (g := gb383) (o := .cells #[.int .u64 a2_0, .int .u64 a2_1] 24 (0, 0)) (by (with_reducible repeat (first | refine blk_drewN ?_ _ | refine blk_drew ?_ | refine blk_alloc ?_ _)); exact BK383.out) hb); have n2_ := Aside0.mk (blk_below (g := gb384) (o := .cells #[.int .u64 a3_0, .int .u64 a3_1] 24 (0, 0)) (by (with_reducible repeat (first | refine blk_drewN ?_ _ | refine blk_drew ?_ | refine blk_alloc ?_ _)); exact BK384.out) hb); have n3_ := Aside0.mk (below_step (by repeat (first | (with_reducible first | exact HB.out | apply below_alloc | apply pw_below_drewN | apply below_drew1 | refine below_set ?_ GE382.out | refine below_set ?_ GE383.out | refine below_set ?_ GE384.out) | exact HB.out)) hb); clear BK382; clear BK383; clear BK384; clear HB; have BK382 := n0_; have BK383 := n1_; have BK384 := n2_; have HB := n3_; clear n0_ n1_ n2_ n3_; (try clear hb); (try clear hb2); (try clear hk); (try clear hi)))
          go_meet
          case rel => exact ⟨_, (true), (by first | rfl | (simp; done) | (simp [*]; done)), H', ⟨by first | omega | exact Nat.le_refl _⟩, ⟨by (with_reducible repeat (first | refine blk_drewN ?_ _ | refine blk_drew ?_ | refine blk_alloc ?_ _)); exact BK382.out⟩, ⟨by (with_reducible repeat (first | refine blk_drewN ?_ _ | refine blk_drew ?_ | refine blk_alloc ?_ _)); exact BK383.out⟩, ⟨by (with_reducible repeat (first | refine blk_drewN ?_ _ | refine blk_drew ?_ | refine blk_alloc ?_ _)); exact BK384.out⟩, ⟨by repeat (first | (with_reducible first | exact HB.out | apply below_alloc | apply pw_below_drewN | apply below_drew1 | refine below_set ?_ GE382.out | refine below_set ?_ GE383.out | refine below_set ?_ GE384.out) | exact HB.out)⟩⟩
        · replace c20 := Bool.eq_false_iff.mpr c20
          subst c20
          have H1 : (if (!(a1_0 == a2_0) || (!(a1_1 == a2_1))) = true then ((sub_Less.f k a1_0 a1_1 a2_0 a2_1).bind fun t389 => (if t389 = true then (medlarlaw08_SubLess.j0 k a0 t385 false a1_0 a1_1 a2_0 a2_1 a3_0 a3_1) else ((sub_Less.f k a2_0 a2_1 a1_0 a1_1).bind fun t390 => (medlarlaw08_SubLess.j0 k a0 t385 (!t390) a1_0 a1_1 a2_0 a2_1 a3_0 a3_1)))) else (medlarlaw08_SubLess.j0 k a0 t385 false a1_0 a1_1 a2_0 a2_1 a3_0 a3_1)) = some r := by rw [if_neg (show ¬ (false = true) by decide)] at H; exact H
          clear H
          have H := H1
          clear H1
          by_cases c32 : (!(a1_0 == a2_0) || (!(a1_1 == a2_1))) = true
          · rw [if_pos c32] at H
            have c32b0 : (!(a1_0 == a2_0) || (!(a1_1 == a2_1))) = true := c32
            clear c32
            (first | rw [c32b0] | (simp only [i64_w, i32_w]; rw [c32b0]) | skip)
            replace H := Option.bind_eq_some_iff.mp H
            obtain ⟨t389, A330, H⟩ := H
            replace H : (if t389 = true then (medlarlaw08_SubLess.j0 k a0 t385 false a1_0 a1_1 a2_0 a2_1 a3_0 a3_1) else ((sub_Less.f k a2_0 a2_1 a1_0 a1_1).bind fun t390 => (medlarlaw08_SubLess.j0 k a0 t385 (!t390) a1_0 a1_1 a2_0 a2_1 a3_0 a3_1))) = some r := H
            have A33 := Aside0.mk A330
            clear A330
            by_cases c34 : t389 = true
            · subst c34
              have H1 : (medlarlaw08_SubLess.j0 k a0 t385 false a1_0 a1_1 a2_0 a2_1 a3_0 a3_1) = some r := by rw [if_pos rfl] at H; exact H
              clear H
              have H := H1
              clear H1
              have H' := Aside0.mk H
              clear H
              have hnb35 := NB382_383.out
              have hnc35 := NB383_382.out
              have hnb36 := NB382_384.out
              have hnc36 := NB384_382.out
              have hcz37_0 : w10.cell? ⟨gb382, 0, none⟩ = some (.int .u64 a1_0) := (blk_cell BK382.out 0).trans rfl
              have hcz37_1 : w10.cell? ⟨gb382, 1, none⟩ = some (.int .u64 a1_1) := (blk_cell BK382.out 1).trans rfl
              have hfz37_0 := blk_frozen BK382.out 0
              have hfz37_1 := blk_frozen BK382.out 1
              go_wp2_with (first | ((with_reducible refine gate_callee (f := 32) rfl ?_); refine goesL_ (some 26) rfl rfl Try.func32 (by kernel_rfl) rfl #[.agg #[.int .u64 a1_0, .int .u64 a1_1], .agg #[.int .u64 a1_0, .int .u64 a1_1]] rfl (by (try simp only [List.map_toArray, List.map_cons, List.map_nil]); first | done | rfl | (simp only [List.length_drop, List.length_take]; rfl)) ?_; (with_reducible refine (sub_Less.calls k a1_0 a1_1 a1_0 a1_1 false _ A11.out).mono ?_); rintro e w38 ⟨rfl, hb⟩; clear A11; refine ⟨_, rfl, ?_⟩; have n0_ := Aside0.mk (blk_below (g := gb382) (o := .cells #[.int .u64 a1_0, .int .u64 a1_1] 24 (0, 0)) (by (with_reducible repeat (first | refine blk_drewN ?_ _ | refine blk_drew ?_ | refine blk_alloc ?_ _)); exact BK382.out) hb); have n1_ := Aside0.mk (blk_below (g := gb383) (o := .cells #[.int .u64 a2_0, .int .u64 a2_1] 24 (0, 0)) (by (with_reducible repeat (first | refine blk_drewN ?_ _ | refine blk_drew ?_ | refine blk_alloc ?_ _)); exact BK383.out) hb); have n2_ := Aside0.mk (blk_below (g := gb384) (o := .cells #[.int .u64 a3_0, .int .u64 a3_1] 24 (0, 0)) (by (with_reducible repeat (first | refine blk_drewN ?_ _ | refine blk_drew ?_ | refine blk_alloc ?_ _)); exact BK384.out) hb); have n3_ := Aside0.mk (below_step (by repeat (first | (with_reducible first | exact HB.out | apply below_alloc | apply pw_below_drewN | apply below_drew1 | refine below_set ?_ GE382.out | refine below_set ?_ GE383.out | refine below_set ?_ GE384.out) | exact HB.out)) hb); clear BK382; clear BK383; clear BK384; clear HB; have BK382 := n0_; have BK383 := n1_; have BK384 := n2_; have HB := n3_; clear n0_ n1_ n2_ n3_; (try clear hb); (try clear hb2); (try clear hk); (try clear hi); have hcz39_0 : w38.cell? ⟨gb382, 0, none⟩ = some (.int .u64 a1_0) := (blk_cell BK382.out 0).trans rfl; have hcz39_1 : w38.cell? ⟨gb382, 1, none⟩ = some (.int .u64 a1_1) := (blk_cell BK382.out 1).trans rfl; have hfz39_0 := blk_frozen BK382.out 0; have hfz39_1 := blk_frozen BK382.out 1; have hnb40 := NB383_384.out; have hnc40 := NB384_383.out; have hcz41_0 : w38.cell? ⟨gb383, 0, none⟩ = some (.int .u64 a2_0) := (blk_cell BK383.out 0).trans rfl; have hcz41_1 : w38.cell? ⟨gb383, 1, none⟩ = some (.int .u64 a2_1) := (blk_cell BK383.out 1).trans rfl; have hfz41_0 := blk_frozen BK383.out 0; have hfz41_1 := blk_frozen BK383.out 1) | (go_at_call 32; (with_reducible refine (sub_Less.calls k a1_0 a1_1 a2_0 a2_1 true _ A17.out).mono ?_); rintro e w42 ⟨rfl, hb⟩; clear A17; have n0_ := Aside0.mk (blk_below (g := gb382) (o := .cells #[.int .u64 a1_0, .int .u64 a1_1] 24 (0, 0)) (by (with_reducible repeat (first | refine blk_drewN ?_ _ | refine blk_drew ?_ | refine blk_alloc ?_ _)); exact BK382.out) hb); have n1_ := Aside0.mk (blk_below (g := gb383) (o := .cells #[.int .u64 a2_0, .int .u64 a2_1] 24 (0, 0)) (by (with_reducible repeat (first | refine blk_drewN ?_ _ | refine blk_drew ?_ | refine blk_alloc ?_ _)); exact BK383.out) hb); have n2_ := Aside0.mk (blk_below (g := gb384) (o := .cells #[.int .u64 a3_0, .int .u64 a3_1] 24 (0, 0)) (by (with_reducible repeat (first | refine blk_drewN ?_ _ | refine blk_drew ?_ | refine blk_alloc ?_ _)); exact BK384.out) hb); have n3_ := Aside0.mk (below_step (by repeat (first | (with_reducible first | exact HB.out | apply below_alloc | apply pw_below_drewN | apply below_drew1 | refine below_set ?_ GE382.out | refine below_set ?_ GE383.out | refine below_set ?_ GE384.out) | exact HB.out)) hb); clear BK382; clear BK383; clear BK384; clear HB; have BK382 := n0_; have BK383 := n1_; have BK384 := n2_; have HB := n3_; clear n0_ n1_ n2_ n3_; (try clear hb); (try clear hb2); (try clear hk); (try clear hi); have hcz43_0 : w42.cell? ⟨gb383, 0, none⟩ = some (.int .u64 a2_0) := (blk_cell BK383.out 0).trans rfl; have hcz43_1 : w42.cell? ⟨gb383, 1, none⟩ = some (.int .u64 a2_1) := (blk_cell BK383.out 1).trans rfl; have hfz43_0 := blk_frozen BK383.out 0; have hfz43_1 := blk_frozen BK383.out 1; have hcz44_0 : w42.cell? ⟨gb382, 0, none⟩ = some (.int .u64 a1_0) := (blk_cell BK382.out 0).trans rfl; have hcz44_1 : w42.cell? ⟨gb382, 1, none⟩ = some (.int .u64 a1_1) := (blk_cell BK382.out 1).trans rfl; have hfz44_0 := blk_frozen BK382.out 0; have hfz44_1 := blk_frozen BK382.out 1) | (go_at_call 32; (with_reducible refine (sub_Less.calls k a2_0 a2_1 a1_0 a1_1 false _ A19.out).mono ?_); rintro e w45 ⟨rfl, hb⟩; clear A19; have n0_ := Aside0.mk (blk_below (g := gb382) (o := .cells #[.int .u64 a1_0, .int .u64 a1_1] 24 (0, 0)) (by (with_reducible repeat (first | refine blk_drewN ?_ _ | refine blk_drew ?_ | refine blk_alloc ?_ _)); exact BK382.out) hb); have n1_ := Aside0.mk (blk_below (g := gb383) (o := .cells #[.int .u64 a2_0, .int .u64 a2_1] 24 (0, 0)) (by (with_reducible repeat (first | refine blk_drewN ?_ _ | refine blk_drew ?_ | refine blk_alloc ?_ _)); exact BK383.out) hb); have n2_ := Aside0.mk (blk_below (g := gb384) (o := .cells #[.int .u64 a3_0, .int .u64 a3_1] 24 (0, 0)) (by (with_reducible repeat (first | refine blk_drewN ?_ _ | refine blk_drew ?_ | refine blk_alloc ?_ _)); exact BK384.out) hb); have n3_ := Aside0.mk (below_step (by repeat (first | (with_reducible first | exact HB.out | apply below_alloc | apply pw_below_drewN | apply below_drew1 | refine below_set ?_ GE382.out | refine below_set ?_ GE383.out | refine below_set ?_ GE384.out) | exact HB.out)) hb); clear BK382; clear BK383; clear BK384; clear HB; have BK382 := n0_; have BK383 := n1_; have BK384 := n2_; have HB := n3_; clear n0_ n1_ n2_ n3_; (try clear hb); (try clear hb2); (try clear hk); (try clear hi); have hcz46_0 : w45.cell? ⟨gb382, 0, none⟩ = some (.int .u64 a1_0) := (blk_cell BK382.out 0).trans rfl; have hcz46_1 : w45.cell? ⟨gb382, 1, none⟩ = some (.int .u64 a1_1) := (blk_cell BK382.out 1).trans rfl; have hfz46_0 := blk_frozen BK382.out 0; have hfz46_1 := blk_frozen BK382.out 1; have hcz47_0 : w45.cell? ⟨gb383, 0, none⟩ = some (.int .u64 a2_0) := (blk_cell BK383.out 0).trans rfl; have hcz47_1 : w45.cell? ⟨gb383, 1, none⟩ = some (.int .u64 a2_1) := (blk_cell BK383.out 1).trans rfl; have hfz47_0 := blk_frozen BK383.out 0; have hfz47_1 := blk_frozen BK383.out 1) | (go_at_call 32; (with_reducible refine (sub_Less.calls k a1_0 a1_1 a2_0 a2_1 true _ A33.out).mono ?_); rintro e w48 ⟨rfl, hb⟩; clear A33; have n0_ := Aside0.mk (blk_below (g := gb382) (o := .cells #[.int .u64 a1_0, .int .u64 a1_1] 24 (0, 0)) (by (with_reducible repeat (first | refine blk_drewN ?_ _ | refine blk_drew ?_ | refine blk_alloc ?_ _)); exact BK382.out) hb); have n1_ := Aside0.mk (blk_below (g := gb383) (o := .cells #[.int .u64 a2_0, .int .u64 a2_1] 24 (0, 0)) (by (with_reducible repeat (first | refine blk_drewN ?_ _ | refine blk_drew ?_ | refine blk_alloc ?_ _)); exact BK383.out) hb); have n2_ := Aside0.mk (blk_below (g := gb384) (o := .cells #[.int .u64 a3_0, .int .u64 a3_1] 24 (0, 0)) (by (with_reducible repeat (first | refine blk_drewN ?_ _ | refine blk_drew ?_ | refine blk_alloc ?_ _)); exact BK384.out) hb); have n3_ := Aside0.mk (below_step (by repeat (first | (with_reducible first | exact HB.out | apply below_alloc | apply pw_below_drewN | apply below_drew1 | refine below_set ?_ GE382.out | refine below_set ?_ GE383.out | refine below_set ?_ GE384.out) | exact HB.out)) hb); clear BK382; clear BK383; clear BK384; clear HB; have BK382 := n0_; have BK383 := n1_; have BK384 := n2_; have HB := n3_; clear n0_ n1_ n2_ n3_; (try clear hb); (try clear hb2); (try clear hk); (try clear hi)))
              go_meet
              case rel => exact ⟨_, (false), (by first | rfl | (simp; done) | (simp [*]; done)), H', ⟨by first | omega | exact Nat.le_refl _⟩, ⟨by (with_reducible repeat (first | refine blk_drewN ?_ _ | refine blk_drew ?_ | refine blk_alloc ?_ _)); exact BK382.out⟩, ⟨by (with_reducible repeat (first | refine blk_drewN ?_ _ | refine blk_drew ?_ | refine blk_alloc ?_ _)); exact BK383.out⟩, ⟨by (with_reducible repeat (first | refine blk_drewN ?_ _ | refine blk_drew ?_ | refine blk_alloc ?_ _)); exact BK384.out⟩, ⟨by repeat (first | (with_reducible first | exact HB.out | apply below_alloc | apply pw_below_drewN | apply below_drew1 | refine below_set ?_ GE382.out | refine below_set ?_ GE383.out | refine below_set ?_ GE384.out) | exact HB.out)⟩⟩
            · replace c34 := Bool.eq_false_iff.mpr c34
              subst c34
              have H1 : ((sub_Less.f k a2_0 a2_1 a1_0 a1_1).bind fun t390 => (medlarlaw08_SubLess.j0 k a0 t385 (!t390) a1_0 a1_1 a2_0 a2_1 a3_0 a3_1)) = some r := by rw [if_neg (show ¬ (false = true) by decide)] at H; exact H
              clear H
              have H := H1
              clear H1
              replace H := Option.bind_eq_some_iff.mp H
              obtain ⟨t390, A490, H⟩ := H
              replace H : (medlarlaw08_SubLess.j0 k a0 t385 (!t390) a1_0 a1_1 a2_0 a2_1 a3_0 a3_1) = some r := H
              have A49 := Aside0.mk A490
              clear A490
              have H' := Aside0.mk H
              clear H
              have hnb50 := NB382_383.out
              have hnc50 := NB383_382.out
              have hnb51 := NB382_384.out
              have hnc51 := NB384_382.out
              have hcz52_0 : w10.cell? ⟨gb382, 0, none⟩ = some (.int .u64 a1_0) := (blk_cell BK382.out 0).trans rfl
              have hcz52_1 : w10.cell? ⟨gb382, 1, none⟩ = some (.int .u64 a1_1) := (blk_cell BK382.out 1).trans rfl
              have hfz52_0 := blk_frozen BK382.out 0
              have hfz52_1 := blk_frozen BK382.out 1
              go_wp2_with (first | ((with_reducible refine gate_callee (f := 32) rfl ?_); refine goesL_ (some 26) rfl rfl Try.func32 (by kernel_rfl) rfl #[.agg #[.int .u64 a1_0, .int .u64 a1_1], .agg #[.int .u64 a1_0, .int .u64 a1_1]] rfl (by (try simp only [List.map_toArray, List.map_cons, List.map_nil]); first | done | rfl | (simp only [List.length_drop, List.length_take]; rfl)) ?_; (with_reducible refine (sub_Less.calls k a1_0 a1_1 a1_0 a1_1 false _ A11.out).mono ?_); rintro e w53 ⟨rfl, hb⟩; clear A11; refine ⟨_, rfl, ?_⟩; have n0_ := Aside0.mk (blk_below (g := gb382) (o := .cells #[.int .u64 a1_0, .int .u64 a1_1] 24 (0, 0)) (by (with_reducible repeat (first | refine blk_drewN ?_ _ | refine blk_drew ?_ | refine blk_alloc ?_ _)); exact BK382.out) hb); have n1_ := Aside0.mk (blk_below (g := gb383) (o := .cells #[.int .u64 a2_0, .int .u64 a2_1] 24 (0, 0)) (by (with_reducible repeat (first | refine blk_drewN ?_ _ | refine blk_drew ?_ | refine blk_alloc ?_ _)); exact BK383.out) hb); have n2_ := Aside0.mk (blk_below (g := gb384) (o := .cells #[.int .u64 a3_0, .int .u64 a3_1] 24 (0, 0)) (by (with_reducible repeat (first | refine blk_drewN ?_ _ | refine blk_drew ?_ | refine blk_alloc ?_ _)); exact BK384.out) hb); have n3_ := Aside0.mk (below_step (by repeat (first | (with_reducible first | exact HB.out | apply below_alloc | apply pw_below_drewN | apply below_drew1 | refine below_set ?_ GE382.out | refine below_set ?_ GE383.out | refine below_set ?_ GE384.out) | exact HB.out)) hb); clear BK382; clear BK383; clear BK384; clear HB; have BK382 := n0_; have BK383 := n1_; have BK384 := n2_; have HB := n3_; clear n0_ n1_ n2_ n3_; (try clear hb); (try clear hb2); (try clear hk); (try clear hi); have hcz54_0 : w53.cell? ⟨gb382, 0, none⟩ = some (.int .u64 a1_0) := (blk_cell BK382.out 0).trans rfl; have hcz54_1 : w53.cell? ⟨gb382, 1, none⟩ = some (.int .u64 a1_1) := (blk_cell BK382.out 1).trans rfl; have hfz54_0 := blk_frozen BK382.out 0; have hfz54_1 := blk_frozen BK382.out 1; have hnb55 := NB383_384.out; have hnc55 := NB384_383.out; have hcz56_0 : w53.cell? ⟨gb383, 0, none⟩ = some (.int .u64 a2_0) := (blk_cell BK383.out 0).trans rfl; have hcz56_1 : w53.cell? ⟨gb383, 1, none⟩ = some (.int .u64 a2_1) := (blk_cell BK383.out 1).trans rfl; have hfz56_0 := blk_frozen BK383.out 0; have hfz56_1 := blk_frozen BK383.out 1) | (go_at_call 32; (with_reducible refine (sub_Less.calls k a1_0 a1_1 a2_0 a2_1 true _ A17.out).mono ?_); rintro e w57 ⟨rfl, hb⟩; clear A17; have n0_ := Aside0.mk (blk_below (g := gb382) (o := .cells #[.int .u64 a1_0, .int .u64 a1_1] 24 (0, 0)) (by (with_reducible repeat (first | refine blk_drewN ?_ _ | refine blk_drew ?_ | refine blk_alloc ?_ _)); exact BK382.out) hb); have n1_ := Aside0.mk (blk_below (g := gb383) (o := .cells #[.int .u64 a2_0, .int .u64 a2_1] 24 (0, 0)) (by (with_reducible repeat (first | refine blk_drewN ?_ _ | refine blk_drew ?_ | refine blk_alloc ?_ _)); exact BK383.out) hb); have n2_ := Aside0.mk (blk_below (g := gb384) (o := .cells #[.int .u64 a3_0, .int .u64 a3_1] 24 (0, 0)) (by (with_reducible repeat (first | refine blk_drewN ?_ _ | refine blk_drew ?_ | refine blk_alloc ?_ _)); exact BK384.out) hb); have n3_ := Aside0.mk (below_step (by repeat (first | (with_reducible first | exact HB.out | apply below_alloc | apply pw_below_drewN | apply below_drew1 | refine below_set ?_ GE382.out | refine below_set ?_ GE383.out | refine below_set ?_ GE384.out) | exact HB.out)) hb); clear BK382; clear BK383; clear BK384; clear HB; have BK382 := n0_; have BK383 := n1_; have BK384 := n2_; have HB := n3_; clear n0_ n1_ n2_ n3_; (try clear hb); (try clear hb2); (try clear hk); (try clear hi); have hcz58_0 : w57.cell? ⟨gb383, 0, none⟩ = some (.int .u64 a2_0) := (blk_cell BK383.out 0).trans rfl; have hcz58_1 : w57.cell? ⟨gb383, 1, none⟩ = some (.int .u64 a2_1) := (blk_cell BK383.out 1).trans rfl; have hfz58_0 := blk_frozen BK383.out 0; have hfz58_1 := blk_frozen BK383.out 1; have hcz59_0 : w57.cell? ⟨gb382, 0, none⟩ = some (.int .u64 a1_0) := (blk_cell BK382.out 0).trans rfl; have hcz59_1 : w57.cell? ⟨gb382, 1, none⟩ = some (.int .u64 a1_1) := (blk_cell BK382.out 1).trans rfl; have hfz59_0 := blk_frozen BK382.out 0; have hfz59_1 := blk_frozen BK382.out 1) | (go_at_call 32; (with_reducible refine (sub_Less.calls k a2_0 a2_1 a1_0 a1_1 false _ A19.out).mono ?_); rintro e w60 ⟨rfl, hb⟩; clear A19; have n0_ := Aside0.mk (blk_below (g := gb382) (o := .cells #[.int .u64 a1_0, .int .u64 a1_1] 24 (0, 0)) (by (with_reducible repeat (first | refine blk_drewN ?_ _ | refine blk_drew ?_ | refine blk_alloc ?_ _)); exact BK382.out) hb); have n1_ := Aside0.mk (blk_below (g := gb383) (o := .cells #[.int .u64 a2_0, .int .u64 a2_1] 24 (0, 0)) (by (with_reducible repeat (first | refine blk_drewN ?_ _ | refine blk_drew ?_ | refine blk_alloc ?_ _)); exact BK383.out) hb); have n2_ := Aside0.mk (blk_below (g := gb384) (o := .cells #[.int .u64 a3_0, .int .u64 a3_1] 24 (0, 0)) (by (with_reducible repeat (first | refine blk_drewN ?_ _ | refine blk_drew ?_ | refine blk_alloc ?_ _)); exact BK384.out) hb); have n3_ := Aside0.mk (below_step (by repeat (first | (with_reducible first | exact HB.out | apply below_alloc | apply pw_below_drewN | apply below_drew1 | refine below_set ?_ GE382.out | refine below_set ?_ GE383.out | refine below_set ?_ GE384.out) | exact HB.out)) hb); clear BK382; clear BK383; clear BK384; clear HB; have BK382 := n0_; have BK383 := n1_; have BK384 := n2_; have HB := n3_; clear n0_ n1_ n2_ n3_; (try clear hb); (try clear hb2); (try clear hk); (try clear hi); have hcz61_0 : w60.cell? ⟨gb382, 0, none⟩ = some (.int .u64 a1_0) := (blk_cell BK382.out 0).trans rfl; have hcz61_1 : w60.cell? ⟨gb382, 1, none⟩ = some (.int .u64 a1_1) := (blk_cell BK382.out 1).trans rfl; have hfz61_0 := blk_frozen BK382.out 0; have hfz61_1 := blk_frozen BK382.out 1; have hcz62_0 : w60.cell? ⟨gb383, 0, none⟩ = some (.int .u64 a2_0) := (blk_cell BK383.out 0).trans rfl; have hcz62_1 : w60.cell? ⟨gb383, 1, none⟩ = some (.int .u64 a2_1) := (blk_cell BK383.out 1).trans rfl; have hfz62_0 := blk_frozen BK383.out 0; have hfz62_1 := blk_frozen BK383.out 1) | (go_at_call 32; (with_reducible refine (sub_Less.calls k a1_0 a1_1 a2_0 a2_1 false _ A33.out).mono ?_); rintro e w63 ⟨rfl, hb⟩; clear A33; have n0_ := Aside0.mk (blk_below (g := gb382) (o := .cells #[.int .u64 a1_0, .int .u64 a1_1] 24 (0, 0)) (by (with_reducible repeat (first | refine blk_drewN ?_ _ | refine blk_drew ?_ | refine blk_alloc ?_ _)); exact BK382.out) hb); have n1_ := Aside0.mk (blk_below (g := gb383) (o := .cells #[.int .u64 a2_0, .int .u64 a2_1] 24 (0, 0)) (by (with_reducible repeat (first | refine blk_drewN ?_ _ | refine blk_drew ?_ | refine blk_alloc ?_ _)); exact BK383.out) hb); have n2_ := Aside0.mk (blk_below (g := gb384) (o := .cells #[.int .u64 a3_0, .int .u64 a3_1] 24 (0, 0)) (by (with_reducible repeat (first | refine blk_drewN ?_ _ | refine blk_drew ?_ | refine blk_alloc ?_ _)); exact BK384.out) hb); have n3_ := Aside0.mk (below_step (by repeat (first | (with_reducible first | exact HB.out | apply below_alloc | apply pw_below_drewN | apply below_drew1 | refine below_set ?_ GE382.out | refine below_set ?_ GE383.out | refine below_set ?_ GE384.out) | exact HB.out)) hb); clear BK382; clear BK383; clear BK384; clear HB; have BK382 := n0_; have BK383 := n1_; have BK384 := n2_; have HB := n3_; clear n0_ n1_ n2_ n3_; (try clear hb); (try clear hb2); (try clear hk); (try clear hi); have hcz64_0 : w63.cell? ⟨gb383, 0, none⟩ = some (.int .u64 a2_0) := (blk_cell BK383.out 0).trans rfl; have hcz64_1 : w63.cell? ⟨gb383, 1, none⟩ = some (.int .u64 a2_1) := (blk_cell BK383.out 1).trans rfl; have hfz64_0 := blk_frozen BK383.out 0; have hfz64_1 := blk_frozen BK383.out 1; have hcz65_0 : w63.cell? ⟨gb382, 0, none⟩ = some (.int .u64 a1_0) := (blk_cell BK382.out 0).trans rfl; have hcz65_1 : w63.cell? ⟨gb382, 1, none⟩ = some (.int .u64 a1_1) := (blk_cell BK382.out 1).trans rfl; have hfz65_0 := blk_frozen BK382.out 0; have hfz65_1 := blk_frozen BK382.out 1) | (go_at_call 32; (with_reducible refine (sub_Less.calls k a2_0 a2_1 a1_0 a1_1 t390 _ A49.out).mono ?_); rintro e w66 ⟨rfl, hb⟩; clear A49; have n0_ := Aside0.mk (blk_below (g := gb382) (o := .cells #[.int .u64 a1_0, .int .u64 a1_1] 24 (0, 0)) (by (with_reducible repeat (first | refine blk_drewN ?_ _ | refine blk_drew ?_ | refine blk_alloc ?_ _)); exact BK382.out) hb); have n1_ := Aside0.mk (blk_below (g := gb383) (o := .cells #[.int .u64 a2_0, .int .u64 a2_1] 24 (0, 0)) (by (with_reducible repeat (first | refine blk_drewN ?_ _ | refine blk_drew ?_ | refine blk_alloc ?_ _)); exact BK383.out) hb); have n2_ := Aside0.mk (blk_below (g := gb384) (o := .cells #[.int .u64 a3_0, .int .u64 a3_1] 24 (0, 0)) (by (with_reducible repeat (first | refine blk_drewN ?_ _ | refine blk_drew ?_ | refine blk_alloc ?_ _)); exact BK384.out) hb); have n3_ := Aside0.mk (below_step (by repeat (first | (with_reducible first | exact HB.out | apply below_alloc | apply pw_below_drewN | apply below_drew1 | refine below_set ?_ GE382.out | refine below_set ?_ GE383.out | refine below_set ?_ GE384.out) | exact HB.out)) hb); clear BK382; clear BK383; clear BK384; clear HB; have BK382 := n0_; have BK383 := n1_; have BK384 := n2_; have HB := n3_; clear n0_ n1_ n2_ n3_; (try clear hb); (try clear hb2); (try clear hk); (try clear hi)))
              go_meet
              case rel => exact ⟨_, (!t390), (by first | rfl | (simp; done) | (simp [*]; done)), H', ⟨by first | omega | exact Nat.le_refl _⟩, ⟨by (with_reducible repeat (first | refine blk_drewN ?_ _ | refine blk_drew ?_ | refine blk_alloc ?_ _)); exact BK382.out⟩, ⟨by (with_reducible repeat (first | refine blk_drewN ?_ _ | refine blk_drew ?_ | refine blk_alloc ?_ _)); exact BK383.out⟩, ⟨by (with_reducible repeat (first | refine blk_drewN ?_ _ | refine blk_drew ?_ | refine blk_alloc ?_ _)); exact BK384.out⟩, ⟨by repeat (first | (with_reducible first | exact HB.out | apply below_alloc | apply pw_below_drewN | apply below_drew1 | refine below_set ?_ GE382.out | refine below_set ?_ GE383.out | refine below_set ?_ GE384.out) | exact HB.out)⟩⟩
          · rw [if_neg c32] at H
            have c32b0 : (!(a1_0 == a2_0) || (!(a1_1 == a2_1))) = false := by simpa using c32
            clear c32
            (first | rw [c32b0] | (simp only [i64_w, i32_w]; rw [c32b0]) | skip)
            have H' := Aside0.mk H
            clear H
            have hnb67 := NB382_383.out
            have hnc67 := NB383_382.out
            have hnb68 := NB382_384.out
            have hnc68 := NB384_382.out
            have hcz69_0 : w10.cell? ⟨gb382, 0, none⟩ = some (.int .u64 a1_0) := (blk_cell BK382.out 0).trans rfl
            have hcz69_1 : w10.cell? ⟨gb382, 1, none⟩ = some (.int .u64 a1_1) := (blk_cell BK382.out 1).trans rfl
            have hfz69_0 := blk_frozen BK382.out 0
            have hfz69_1 := blk_frozen BK382.out 1
            go_wp2_with (first | ((with_reducible refine gate_callee (f := 32) rfl ?_); refine goesL_ (some 26) rfl rfl Try.func32 (by kernel_rfl) rfl #[.agg #[.int .u64 a1_0, .int .u64 a1_1], .agg #[.int .u64 a1_0, .int .u64 a1_1]] rfl (by (try simp only [List.map_toArray, List.map_cons, List.map_nil]); first | done | rfl | (simp only [List.length_drop, List.length_take]; rfl)) ?_; (with_reducible refine (sub_Less.calls k a1_0 a1_1 a1_0 a1_1 false _ A11.out).mono ?_); rintro e w70 ⟨rfl, hb⟩; clear A11; refine ⟨_, rfl, ?_⟩; have n0_ := Aside0.mk (blk_below (g := gb382) (o := .cells #[.int .u64 a1_0, .int .u64 a1_1] 24 (0, 0)) (by (with_reducible repeat (first | refine blk_drewN ?_ _ | refine blk_drew ?_ | refine blk_alloc ?_ _)); exact BK382.out) hb); have n1_ := Aside0.mk (blk_below (g := gb383) (o := .cells #[.int .u64 a2_0, .int .u64 a2_1] 24 (0, 0)) (by (with_reducible repeat (first | refine blk_drewN ?_ _ | refine blk_drew ?_ | refine blk_alloc ?_ _)); exact BK383.out) hb); have n2_ := Aside0.mk (blk_below (g := gb384) (o := .cells #[.int .u64 a3_0, .int .u64 a3_1] 24 (0, 0)) (by (with_reducible repeat (first | refine blk_drewN ?_ _ | refine blk_drew ?_ | refine blk_alloc ?_ _)); exact BK384.out) hb); have n3_ := Aside0.mk (below_step (by repeat (first | (with_reducible first | exact HB.out | apply below_alloc | apply pw_below_drewN | apply below_drew1 | refine below_set ?_ GE382.out | refine below_set ?_ GE383.out | refine below_set ?_ GE384.out) | exact HB.out)) hb); clear BK382; clear BK383; clear BK384; clear HB; have BK382 := n0_; have BK383 := n1_; have BK384 := n2_; have HB := n3_; clear n0_ n1_ n2_ n3_; (try clear hb); (try clear hb2); (try clear hk); (try clear hi); have hcz71_0 : w70.cell? ⟨gb382, 0, none⟩ = some (.int .u64 a1_0) := (blk_cell BK382.out 0).trans rfl; have hcz71_1 : w70.cell? ⟨gb382, 1, none⟩ = some (.int .u64 a1_1) := (blk_cell BK382.out 1).trans rfl; have hfz71_0 := blk_frozen BK382.out 0; have hfz71_1 := blk_frozen BK382.out 1; have hnb72 := NB383_384.out; have hnc72 := NB384_383.out; have hcz73_0 : w70.cell? ⟨gb383, 0, none⟩ = some (.int .u64 a2_0) := (blk_cell BK383.out 0).trans rfl; have hcz73_1 : w70.cell? ⟨gb383, 1, none⟩ = some (.int .u64 a2_1) := (blk_cell BK383.out 1).trans rfl; have hfz73_0 := blk_frozen BK383.out 0; have hfz73_1 := blk_frozen BK383.out 1) | (go_at_call 32; (with_reducible refine (sub_Less.calls k a1_0 a1_1 a2_0 a2_1 true _ A17.out).mono ?_); rintro e w74 ⟨rfl, hb⟩; clear A17; have n0_ := Aside0.mk (blk_below (g := gb382) (o := .cells #[.int .u64 a1_0, .int .u64 a1_1] 24 (0, 0)) (by (with_reducible repeat (first | refine blk_drewN ?_ _ | refine blk_drew ?_ | refine blk_alloc ?_ _)); exact BK382.out) hb); have n1_ := Aside0.mk (blk_below (g := gb383) (o := .cells #[.int .u64 a2_0, .int .u64 a2_1] 24 (0, 0)) (by (with_reducible repeat (first | refine blk_drewN ?_ _ | refine blk_drew ?_ | refine blk_alloc ?_ _)); exact BK383.out) hb); have n2_ := Aside0.mk (blk_below (g := gb384) (o := .cells #[.int .u64 a3_0, .int .u64 a3_1] 24 (0, 0)) (by (with_reducible repeat (first | refine blk_drewN ?_ _ | refine blk_drew ?_ | refine blk_alloc ?_ _)); exact BK384.out) hb); have n3_ := Aside0.mk (below_step (by repeat (first | (with_reducible first | exact HB.out | apply below_alloc | apply pw_below_drewN | apply below_drew1 | refine below_set ?_ GE382.out | refine below_set ?_ GE383.out | refine below_set ?_ GE384.out) | exact HB.out)) hb); clear BK382; clear BK383; clear BK384; clear HB; have BK382 := n0_; have BK383 := n1_; have BK384 := n2_; have HB := n3_; clear n0_ n1_ n2_ n3_; (try clear hb); (try clear hb2); (try clear hk); (try clear hi); have hcz75_0 : w74.cell? ⟨gb383, 0, none⟩ = some (.int .u64 a2_0) := (blk_cell BK383.out 0).trans rfl; have hcz75_1 : w74.cell? ⟨gb383, 1, none⟩ = some (.int .u64 a2_1) := (blk_cell BK383.out 1).trans rfl; have hfz75_0 := blk_frozen BK383.out 0; have hfz75_1 := blk_frozen BK383.out 1; have hcz76_0 : w74.cell? ⟨gb382, 0, none⟩ = some (.int .u64 a1_0) := (blk_cell BK382.out 0).trans rfl; have hcz76_1 : w74.cell? ⟨gb382, 1, none⟩ = some (.int .u64 a1_1) := (blk_cell BK382.out 1).trans rfl; have hfz76_0 := blk_frozen BK382.out 0; have hfz76_1 := blk_frozen BK382.out 1) | (go_at_call 32; (with_reducible refine (sub_Less.calls k a2_0 a2_1 a1_0 a1_1 false _ A19.out).mono ?_); rintro e w77 ⟨rfl, hb⟩; clear A19; have n0_ := Aside0.mk (blk_below (g := gb382) (o := .cells #[.int .u64 a1_0, .int .u64 a1_1] 24 (0, 0)) (by (with_reducible repeat (first | refine blk_drewN ?_ _ | refine blk_drew ?_ | refine blk_alloc ?_ _)); exact BK382.out) hb); have n1_ := Aside0.mk (blk_below (g := gb383) (o := .cells #[.int .u64 a2_0, .int .u64 a2_1] 24 (0, 0)) (by (with_reducible repeat (first | refine blk_drewN ?_ _ | refine blk_drew ?_ | refine blk_alloc ?_ _)); exact BK383.out) hb); have n2_ := Aside0.mk (blk_below (g := gb384) (o := .cells #[.int .u64 a3_0, .int .u64 a3_1] 24 (0, 0)) (by (with_reducible repeat (first | refine blk_drewN ?_ _ | refine blk_drew ?_ | refine blk_alloc ?_ _)); exact BK384.out) hb); have n3_ := Aside0.mk (below_step (by repeat (first | (with_reducible first | exact HB.out | apply below_alloc | apply pw_below_drewN | apply below_drew1 | refine below_set ?_ GE382.out | refine below_set ?_ GE383.out | refine below_set ?_ GE384.out) | exact HB.out)) hb); clear BK382; clear BK383; clear BK384; clear HB; have BK382 := n0_; have BK383 := n1_; have BK384 := n2_; have HB := n3_; clear n0_ n1_ n2_ n3_; (try clear hb); (try clear hb2); (try clear hk); (try clear hi); have hcz78_0 : w77.cell? ⟨gb382, 0, none⟩ = some (.int .u64 a1_0) := (blk_cell BK382.out 0).trans rfl; have hcz78_1 : w77.cell? ⟨gb382, 1, none⟩ = some (.int .u64 a1_1) := (blk_cell BK382.out 1).trans rfl; have hfz78_0 := blk_frozen BK382.out 0; have hfz78_1 := blk_frozen BK382.out 1; have hcz79_0 : w77.cell? ⟨gb383, 0, none⟩ = some (.int .u64 a2_0) := (blk_cell BK383.out 0).trans rfl; have hcz79_1 : w77.cell? ⟨gb383, 1, none⟩ = some (.int .u64 a2_1) := (blk_cell BK383.out 1).trans rfl; have hfz79_0 := blk_frozen BK383.out 0; have hfz79_1 := blk_frozen BK383.out 1))
            go_meet
            case rel => exact ⟨_, (false), (by first | rfl | (simp; done) | (simp [*]; done)), H', ⟨by first | omega | exact Nat.le_refl _⟩, ⟨by (with_reducible repeat (first | refine blk_drewN ?_ _ | refine blk_drew ?_ | refine blk_alloc ?_ _)); exact BK382.out⟩, ⟨by (with_reducible repeat (first | refine blk_drewN ?_ _ | refine blk_drew ?_ | refine blk_alloc ?_ _)); exact BK383.out⟩, ⟨by (with_reducible repeat (first | refine blk_drewN ?_ _ | refine blk_drew ?_ | refine blk_alloc ?_ _)); exact BK384.out⟩, ⟨by repeat (first | (with_reducible first | exact HB.out | apply below_alloc | apply pw_below_drewN | apply below_drew1 | refine below_set ?_ GE382.out | refine below_set ?_ GE383.out | refine below_set ?_ GE384.out) | exact HB.out)⟩⟩
      · replace c18 := Bool.eq_false_iff.mpr c18
        subst c18
        have H1 : (if (!(a1_0 == a2_0) || (!(a1_1 == a2_1))) = true then ((sub_Less.f k a1_0 a1_1 a2_0 a2_1).bind fun t391 => (if t391 = true then (medlarlaw08_SubLess.j0 k a0 t385 false a1_0 a1_1 a2_0 a2_1 a3_0 a3_1) else ((sub_Less.f k a2_0 a2_1 a1_0 a1_1).bind fun t392 => (medlarlaw08_SubLess.j0 k a0 t385 (!t392) a1_0 a1_1 a2_0 a2_1 a3_0 a3_1)))) else (medlarlaw08_SubLess.j0 k a0 t385 false a1_0 a1_1 a2_0 a2_1 a3_0 a3_1)) = some r := by rw [if_neg (show ¬ (false = true) by decide)] at H; exact H
        clear H
        have H := H1
        clear H1
        by_cases c80 : (!(a1_0 == a2_0) || (!(a1_1 == a2_1))) = true
        · rw [if_pos c80] at H
          have c80b0 : (!(a1_0 == a2_0) || (!(a1_1 == a2_1))) = true := c80
          clear c80
          replace H := Option.bind_eq_some_iff.mp H
          obtain ⟨t391, A810, H⟩ := H
          replace H : (if t391 = true then (medlarlaw08_SubLess.j0 k a0 t385 false a1_0 a1_1 a2_0 a2_1 a3_0 a3_1) else ((sub_Less.f k a2_0 a2_1 a1_0 a1_1).bind fun t392 => (medlarlaw08_SubLess.j0 k a0 t385 (!t392) a1_0 a1_1 a2_0 a2_1 a3_0 a3_1))) = some r := H
          have A81 := Aside0.mk A810
          clear A810
          by_cases c82 : t391 = true
          · subst c82
            have H1 : (medlarlaw08_SubLess.j0 k a0 t385 false a1_0 a1_1 a2_0 a2_1 a3_0 a3_1) = some r := by rw [if_pos rfl] at H; exact H
            clear H
            have H := H1
            clear H1
            have H' := Aside0.mk H
            clear H
            have hnb83 := NB382_383.out
            have hnc83 := NB383_382.out
            have hnb84 := NB382_384.out
            have hnc84 := NB384_382.out
            have hcz85_0 : w10.cell? ⟨gb382, 0, none⟩ = some (.int .u64 a1_0) := (blk_cell BK382.out 0).trans rfl
            have hcz85_1 : w10.cell? ⟨gb382, 1, none⟩ = some (.int .u64 a1_1) := (blk_cell BK382.out 1).trans rfl
            have hfz85_0 := blk_frozen BK382.out 0
            have hfz85_1 := blk_frozen BK382.out 1
            go_wp2_with (first | ((with_reducible refine gate_callee (f := 32) rfl ?_); refine goesL_ (some 26) rfl rfl Try.func32 (by kernel_rfl) rfl #[.agg #[.int .u64 a1_0, .int .u64 a1_1], .agg #[.int .u64 a1_0, .int .u64 a1_1]] rfl (by (try simp only [List.map_toArray, List.map_cons, List.map_nil]); first | done | rfl | (simp only [List.length_drop, List.length_take]; rfl)) ?_; (with_reducible refine (sub_Less.calls k a1_0 a1_1 a1_0 a1_1 false _ A11.out).mono ?_); rintro e w86 ⟨rfl, hb⟩; clear A11; refine ⟨_, rfl, ?_⟩; have n0_ := Aside0.mk (blk_below (g := gb382) (o := .cells #[.int .u64 a1_0, .int .u64 a1_1] 24 (0, 0)) (by (with_reducible repeat (first | refine blk_drewN ?_ _ | refine blk_drew ?_ | refine blk_alloc ?_ _)); exact BK382.out) hb); have n1_ := Aside0.mk (blk_below (g := gb383) (o := .cells #[.int .u64 a2_0, .int .u64 a2_1] 24 (0, 0)) (by (with_reducible repeat (first | refine blk_drewN ?_ _ | refine blk_drew ?_ | refine blk_alloc ?_ _)); exact BK383.out) hb); have n2_ := Aside0.mk (blk_below (g := gb384) (o := .cells #[.int .u64 a3_0, .int .u64 a3_1] 24 (0, 0)) (by (with_reducible repeat (first | refine blk_drewN ?_ _ | refine blk_drew ?_ | refine blk_alloc ?_ _)); exact BK384.out) hb); have n3_ := Aside0.mk (below_step (by repeat (first | (with_reducible first | exact HB.out | apply below_alloc | apply pw_below_drewN | apply below_drew1 | refine below_set ?_ GE382.out | refine below_set ?_ GE383.out | refine below_set ?_ GE384.out) | exact HB.out)) hb); clear BK382; clear BK383; clear BK384; clear HB; have BK382 := n0_; have BK383 := n1_; have BK384 := n2_; have HB := n3_; clear n0_ n1_ n2_ n3_; (try clear hb); (try clear hb2); (try clear hk); (try clear hi); have hcz87_0 : w86.cell? ⟨gb382, 0, none⟩ = some (.int .u64 a1_0) := (blk_cell BK382.out 0).trans rfl; have hcz87_1 : w86.cell? ⟨gb382, 1, none⟩ = some (.int .u64 a1_1) := (blk_cell BK382.out 1).trans rfl; have hfz87_0 := blk_frozen BK382.out 0; have hfz87_1 := blk_frozen BK382.out 1; have hnb88 := NB383_384.out; have hnc88 := NB384_383.out; have hcz89_0 : w86.cell? ⟨gb383, 0, none⟩ = some (.int .u64 a2_0) := (blk_cell BK383.out 0).trans rfl; have hcz89_1 : w86.cell? ⟨gb383, 1, none⟩ = some (.int .u64 a2_1) := (blk_cell BK383.out 1).trans rfl; have hfz89_0 := blk_frozen BK383.out 0; have hfz89_1 := blk_frozen BK383.out 1) | (go_at_call 32; (with_reducible refine (sub_Less.calls k a1_0 a1_1 a2_0 a2_1 false _ A17.out).mono ?_); rintro e w90 ⟨rfl, hb⟩; clear A17; have n0_ := Aside0.mk (blk_below (g := gb382) (o := .cells #[.int .u64 a1_0, .int .u64 a1_1] 24 (0, 0)) (by (with_reducible repeat (first | refine blk_drewN ?_ _ | refine blk_drew ?_ | refine blk_alloc ?_ _)); exact BK382.out) hb); have n1_ := Aside0.mk (blk_below (g := gb383) (o := .cells #[.int .u64 a2_0, .int .u64 a2_1] 24 (0, 0)) (by (with_reducible repeat (first | refine blk_drewN ?_ _ | refine blk_drew ?_ | refine blk_alloc ?_ _)); exact BK383.out) hb); have n2_ := Aside0.mk (blk_below (g := gb384) (o := .cells #[.int .u64 a3_0, .int .u64 a3_1] 24 (0, 0)) (by (with_reducible repeat (first | refine blk_drewN ?_ _ | refine blk_drew ?_ | refine blk_alloc ?_ _)); exact BK384.out) hb); have n3_ := Aside0.mk (below_step (by repeat (first | (with_reducible first | exact HB.out | apply below_alloc | apply pw_below_drewN | apply below_drew1 | refine below_set ?_ GE382.out | refine below_set ?_ GE383.out | refine below_set ?_ GE384.out) | exact HB.out)) hb); clear BK382; clear BK383; clear BK384; clear HB; have BK382 := n0_; have BK383 := n1_; have BK384 := n2_; have HB := n3_; clear n0_ n1_ n2_ n3_; (try clear hb); (try clear hb2); (try clear hk); (try clear hi); have hcz91_0 : w90.cell? ⟨gb382, 0, none⟩ = some (.int .u64 a1_0) := (blk_cell BK382.out 0).trans rfl; have hcz91_1 : w90.cell? ⟨gb382, 1, none⟩ = some (.int .u64 a1_1) := (blk_cell BK382.out 1).trans rfl; have hfz91_0 := blk_frozen BK382.out 0; have hfz91_1 := blk_frozen BK382.out 1; have hcz92_0 : w90.cell? ⟨gb383, 0, none⟩ = some (.int .u64 a2_0) := (blk_cell BK383.out 0).trans rfl; have hcz92_1 : w90.cell? ⟨gb383, 1, none⟩ = some (.int .u64 a2_1) := (blk_cell BK383.out 1).trans rfl; have hfz92_0 := blk_frozen BK383.out 0; have hfz92_1 := blk_frozen BK383.out 1) | (go_at_call 32; (with_reducible refine (sub_Less.calls k a1_0 a1_1 a2_0 a2_1 true _ A81.out).mono ?_); rintro e w93 ⟨rfl, hb⟩; clear A81; have n0_ := Aside0.mk (blk_below (g := gb382) (o := .cells #[.int .u64 a1_0, .int .u64 a1_1] 24 (0, 0)) (by (with_reducible repeat (first | refine blk_drewN ?_ _ | refine blk_drew ?_ | refine blk_alloc ?_ _)); exact BK382.out) hb); have n1_ := Aside0.mk (blk_below (g := gb383) (o := .cells #[.int .u64 a2_0, .int .u64 a2_1] 24 (0, 0)) (by (with_reducible repeat (first | refine blk_drewN ?_ _ | refine blk_drew ?_ | refine blk_alloc ?_ _)); exact BK383.out) hb); have n2_ := Aside0.mk (blk_below (g := gb384) (o := .cells #[.int .u64 a3_0, .int .u64 a3_1] 24 (0, 0)) (by (with_reducible repeat (first | refine blk_drewN ?_ _ | refine blk_drew ?_ | refine blk_alloc ?_ _)); exact BK384.out) hb); have n3_ := Aside0.mk (below_step (by repeat (first | (with_reducible first | exact HB.out | apply below_alloc | apply pw_below_drewN | apply below_drew1 | refine below_set ?_ GE382.out | refine below_set ?_ GE383.out | refine below_set ?_ GE384.out) | exact HB.out)) hb); clear BK382; clear BK383; clear BK384; clear HB; have BK382 := n0_; have BK383 := n1_; have BK384 := n2_; have HB := n3_; clear n0_ n1_ n2_ n3_; (try clear hb); (try clear hb2); (try clear hk); (try clear hi)))
            go_meet
            case rel => exact ⟨_, (false), (by first | rfl | (simp; done) | (simp [*]; done)), H', ⟨by first | omega | exact Nat.le_refl _⟩, ⟨by (with_reducible repeat (first | refine blk_drewN ?_ _ | refine blk_drew ?_ | refine blk_alloc ?_ _)); exact BK382.out⟩, ⟨by (with_reducible repeat (first | refine blk_drewN ?_ _ | refine blk_drew ?_ | refine blk_alloc ?_ _)); exact BK383.out⟩, ⟨by (with_reducible repeat (first | refine blk_drewN ?_ _ | refine blk_drew ?_ | refine blk_alloc ?_ _)); exact BK384.out⟩, ⟨by repeat (first | (with_reducible first | exact HB.out | apply below_alloc | apply pw_below_drewN | apply below_drew1 | refine below_set ?_ GE382.out | refine below_set ?_ GE383.out | refine below_set ?_ GE384.out) | exact HB.out)⟩⟩
          · replace c82 := Bool.eq_false_iff.mpr c82
            subst c82
            have H1 : ((sub_Less.f k a2_0 a2_1 a1_0 a1_1).bind fun t392 => (medlarlaw08_SubLess.j0 k a0 t385 (!t392) a1_0 a1_1 a2_0 a2_1 a3_0 a3_1)) = some r := by rw [if_neg (show ¬ (false = true) by decide)] at H; exact H
            clear H
            have H := H1
            clear H1
            replace H := Option.bind_eq_some_iff.mp H
            obtain ⟨t392, A940, H⟩ := H
            replace H : (medlarlaw08_SubLess.j0 k a0 t385 (!t392) a1_0 a1_1 a2_0 a2_1 a3_0 a3_1) = some r := H
            have A94 := Aside0.mk A940
            clear A940
            have H' := Aside0.mk H
            clear H
            have hnb95 := NB382_383.out
            have hnc95 := NB383_382.out
            have hnb96 := NB382_384.out
            have hnc96 := NB384_382.out
            have hcz97_0 : w10.cell? ⟨gb382, 0, none⟩ = some (.int .u64 a1_0) := (blk_cell BK382.out 0).trans rfl
            have hcz97_1 : w10.cell? ⟨gb382, 1, none⟩ = some (.int .u64 a1_1) := (blk_cell BK382.out 1).trans rfl
            have hfz97_0 := blk_frozen BK382.out 0
            have hfz97_1 := blk_frozen BK382.out 1
            go_wp2_with (first | ((with_reducible refine gate_callee (f := 32) rfl ?_); refine goesL_ (some 26) rfl rfl Try.func32 (by kernel_rfl) rfl #[.agg #[.int .u64 a1_0, .int .u64 a1_1], .agg #[.int .u64 a1_0, .int .u64 a1_1]] rfl (by (try simp only [List.map_toArray, List.map_cons, List.map_nil]); first | done | rfl | (simp only [List.length_drop, List.length_take]; rfl)) ?_; (with_reducible refine (sub_Less.calls k a1_0 a1_1 a1_0 a1_1 false _ A11.out).mono ?_); rintro e w98 ⟨rfl, hb⟩; clear A11; refine ⟨_, rfl, ?_⟩; have n0_ := Aside0.mk (blk_below (g := gb382) (o := .cells #[.int .u64 a1_0, .int .u64 a1_1] 24 (0, 0)) (by (with_reducible repeat (first | refine blk_drewN ?_ _ | refine blk_drew ?_ | refine blk_alloc ?_ _)); exact BK382.out) hb); have n1_ := Aside0.mk (blk_below (g := gb383) (o := .cells #[.int .u64 a2_0, .int .u64 a2_1] 24 (0, 0)) (by (with_reducible repeat (first | refine blk_drewN ?_ _ | refine blk_drew ?_ | refine blk_alloc ?_ _)); exact BK383.out) hb); have n2_ := Aside0.mk (blk_below (g := gb384) (o := .cells #[.int .u64 a3_0, .int .u64 a3_1] 24 (0, 0)) (by (with_reducible repeat (first | refine blk_drewN ?_ _ | refine blk_drew ?_ | refine blk_alloc ?_ _)); exact BK384.out) hb); have n3_ := Aside0.mk (below_step (by repeat (first | (with_reducible first | exact HB.out | apply below_alloc | apply pw_below_drewN | apply below_drew1 | refine below_set ?_ GE382.out | refine below_set ?_ GE383.out | refine below_set ?_ GE384.out) | exact HB.out)) hb); clear BK382; clear BK383; clear BK384; clear HB; have BK382 := n0_; have BK383 := n1_; have BK384 := n2_; have HB := n3_; clear n0_ n1_ n2_ n3_; (try clear hb); (try clear hb2); (try clear hk); (try clear hi); have hcz99_0 : w98.cell? ⟨gb382, 0, none⟩ = some (.int .u64 a1_0) := (blk_cell BK382.out 0).trans rfl; have hcz99_1 : w98.cell? ⟨gb382, 1, none⟩ = some (.int .u64 a1_1) := (blk_cell BK382.out 1).trans rfl; have hfz99_0 := blk_frozen BK382.out 0; have hfz99_1 := blk_frozen BK382.out 1; have hnb100 := NB383_384.out; have hnc100 := NB384_383.out; have hcz101_0 : w98.cell? ⟨gb383, 0, none⟩ = some (.int .u64 a2_0) := (blk_cell BK383.out 0).trans rfl; have hcz101_1 : w98.cell? ⟨gb383, 1, none⟩ = some (.int .u64 a2_1) := (blk_cell BK383.out 1).trans rfl; have hfz101_0 := blk_frozen BK383.out 0; have hfz101_1 := blk_frozen BK383.out 1) | (go_at_call 32; (with_reducible refine (sub_Less.calls k a1_0 a1_1 a2_0 a2_1 false _ A17.out).mono ?_); rintro e w102 ⟨rfl, hb⟩; clear A17; have n0_ := Aside0.mk (blk_below (g := gb382) (o := .cells #[.int .u64 a1_0, .int .u64 a1_1] 24 (0, 0)) (by (with_reducible repeat (first | refine blk_drewN ?_ _ | refine blk_drew ?_ | refine blk_alloc ?_ _)); exact BK382.out) hb); have n1_ := Aside0.mk (blk_below (g := gb383) (o := .cells #[.int .u64 a2_0, .int .u64 a2_1] 24 (0, 0)) (by (with_reducible repeat (first | refine blk_drewN ?_ _ | refine blk_drew ?_ | refine blk_alloc ?_ _)); exact BK383.out) hb); have n2_ := Aside0.mk (blk_below (g := gb384) (o := .cells #[.int .u64 a3_0, .int .u64 a3_1] 24 (0, 0)) (by (with_reducible repeat (first | refine blk_drewN ?_ _ | refine blk_drew ?_ | refine blk_alloc ?_ _)); exact BK384.out) hb); have n3_ := Aside0.mk (below_step (by repeat (first | (with_reducible first | exact HB.out | apply below_alloc | apply pw_below_drewN | apply below_drew1 | refine below_set ?_ GE382.out | refine below_set ?_ GE383.out | refine below_set ?_ GE384.out) | exact HB.out)) hb); clear BK382; clear BK383; clear BK384; clear HB; have BK382 := n0_; have BK383 := n1_; have BK384 := n2_; have HB := n3_; clear n0_ n1_ n2_ n3_; (try clear hb); (try clear hb2); (try clear hk); (try clear hi); have hcz103_0 : w102.cell? ⟨gb382, 0, none⟩ = some (.int .u64 a1_0) := (blk_cell BK382.out 0).trans rfl; have hcz103_1 : w102.cell? ⟨gb382, 1, none⟩ = some (.int .u64 a1_1) := (blk_cell BK382.out 1).trans rfl; have hfz103_0 := blk_frozen BK382.out 0; have hfz103_1 := blk_frozen BK382.out 1; have hcz104_0 : w102.cell? ⟨gb383, 0, none⟩ = some (.int .u64 a2_0) := (blk_cell BK383.out 0).trans rfl; have hcz104_1 : w102.cell? ⟨gb383, 1, none⟩ = some (.int .u64 a2_1) := (blk_cell BK383.out 1).trans rfl; have hfz104_0 := blk_frozen BK383.out 0; have hfz104_1 := blk_frozen BK383.out 1) | (go_at_call 32; (with_reducible refine (sub_Less.calls k a1_0 a1_1 a2_0 a2_1 false _ A81.out).mono ?_); rintro e w105 ⟨rfl, hb⟩; clear A81; have n0_ := Aside0.mk (blk_below (g := gb382) (o := .cells #[.int .u64 a1_0, .int .u64 a1_1] 24 (0, 0)) (by (with_reducible repeat (first | refine blk_drewN ?_ _ | refine blk_drew ?_ | refine blk_alloc ?_ _)); exact BK382.out) hb); have n1_ := Aside0.mk (blk_below (g := gb383) (o := .cells #[.int .u64 a2_0, .int .u64 a2_1] 24 (0, 0)) (by (with_reducible repeat (first | refine blk_drewN ?_ _ | refine blk_drew ?_ | refine blk_alloc ?_ _)); exact BK383.out) hb); have n2_ := Aside0.mk (blk_below (g := gb384) (o := .cells #[.int .u64 a3_0, .int .u64 a3_1] 24 (0, 0)) (by (with_reducible repeat (first | refine blk_drewN ?_ _ | refine blk_drew ?_ | refine blk_alloc ?_ _)); exact BK384.out) hb); have n3_ := Aside0.mk (below_step (by repeat (first | (with_reducible first | exact HB.out | apply below_alloc | apply pw_below_drewN | apply below_drew1 | refine below_set ?_ GE382.out | refine below_set ?_ GE383.out | refine below_set ?_ GE384.out) | exact HB.out)) hb); clear BK382; clear BK383; clear BK384; clear HB; have BK382 := n0_; have BK383 := n1_; have BK384 := n2_; have HB := n3_; clear n0_ n1_ n2_ n3_; (try clear hb); (try clear hb2); (try clear hk); (try clear hi); have hcz106_0 : w105.cell? ⟨gb383, 0, none⟩ = some (.int .u64 a2_0) := (blk_cell BK383.out 0).trans rfl; have hcz106_1 : w105.cell? ⟨gb383, 1, none⟩ = some (.int .u64 a2_1) := (blk_cell BK383.out 1).trans rfl; have hfz106_0 := blk_frozen BK383.out 0; have hfz106_1 := blk_frozen BK383.out 1; have hcz107_0 : w105.cell? ⟨gb382, 0, none⟩ = some (.int .u64 a1_0) := (blk_cell BK382.out 0).trans rfl; have hcz107_1 : w105.cell? ⟨gb382, 1, none⟩ = some (.int .u64 a1_1) := (blk_cell BK382.out 1).trans rfl; have hfz107_0 := blk_frozen BK382.out 0; have hfz107_1 := blk_frozen BK382.out 1) | (go_at_call 32; (with_reducible refine (sub_Less.calls k a2_0 a2_1 a1_0 a1_1 t392 _ A94.out).mono ?_); rintro e w108 ⟨rfl, hb⟩; clear A94; have n0_ := Aside0.mk (blk_below (g := gb382) (o := .cells #[.int .u64 a1_0, .int .u64 a1_1] 24 (0, 0)) (by (with_reducible repeat (first | refine blk_drewN ?_ _ | refine blk_drew ?_ | refine blk_alloc ?_ _)); exact BK382.out) hb); have n1_ := Aside0.mk (blk_below (g := gb383) (o := .cells #[.int .u64 a2_0, .int .u64 a2_1] 24 (0, 0)) (by (with_reducible repeat (first | refine blk_drewN ?_ _ | refine blk_drew ?_ | refine blk_alloc ?_ _)); exact BK383.out) hb); have n2_ := Aside0.mk (blk_below (g := gb384) (o := .cells #[.int .u64 a3_0, .int .u64 a3_1] 24 (0, 0)) (by (with_reducible repeat (first | refine blk_drewN ?_ _ | refine blk_drew ?_ | refine blk_alloc ?_ _)); exact BK384.out) hb); have n3_ := Aside0.mk (below_step (by repeat (first | (with_reducible first | exact HB.out | apply below_alloc | apply pw_below_drewN | apply below_drew1 | refine below_set ?_ GE382.out | refine below_set ?_ GE383.out | refine below_set ?_ GE384.out) | exact HB.out)) hb); clear BK382; clear BK383; clear BK384; clear HB; have BK382 := n0_; have BK383 := n1_; have BK384 := n2_; have HB := n3_; clear n0_ n1_ n2_ n3_; (try clear hb); (try clear hb2); (try clear hk); (try clear hi)))
            go_meet
            case rel => exact ⟨_, (!t392), (by first | rfl | (simp; done) | (simp [*]; done)), H', ⟨by first | omega | exact Nat.le_refl _⟩, ⟨by (with_reducible repeat (first | refine blk_drewN ?_ _ | refine blk_drew ?_ | refine blk_alloc ?_ _)); exact BK382.out⟩, ⟨by (with_reducible repeat (first | refine blk_drewN ?_ _ | refine blk_drew ?_ | refine blk_alloc ?_ _)); exact BK383.out⟩, ⟨by (with_reducible repeat (first | refine blk_drewN ?_ _ | refine blk_drew ?_ | refine blk_alloc ?_ _)); exact BK384.out⟩, ⟨by repeat (first | (with_reducible first | exact HB.out | apply below_alloc | apply pw_below_drewN | apply below_drew1 | refine below_set ?_ GE382.out | refine below_set ?_ GE383.out | refine below_set ?_ GE384.out) | exact HB.out)⟩⟩
        · rw [if_neg c80] at H
          have c80b0 : (!(a1_0 == a2_0) || (!(a1_1 == a2_1))) = false := by simpa using c80
          clear c80
          have H' := Aside0.mk H
          clear H
          have hnb109 := NB382_383.out
          have hnc109 := NB383_382.out
          have hnb110 := NB382_384.out
          have hnc110 := NB384_382.out
          have hcz111_0 : w10.cell? ⟨gb382, 0, none⟩ = some (.int .u64 a1_0) := (blk_cell BK382.out 0).trans rfl
          have hcz111_1 : w10.cell? ⟨gb382, 1, none⟩ = some (.int .u64 a1_1) := (blk_cell BK382.out 1).trans rfl
          have hfz111_0 := blk_frozen BK382.out 0
          have hfz111_1 := blk_frozen BK382.out 1
          go_wp2_with (first | ((with_reducible refine gate_callee (f := 32) rfl ?_); refine goesL_ (some 26) rfl rfl Try.func32 (by kernel_rfl) rfl #[.agg #[.int .u64 a1_0, .int .u64 a1_1], .agg #[.int .u64 a1_0, .int .u64 a1_1]] rfl (by (try simp only [List.map_toArray, List.map_cons, List.map_nil]); first | done | rfl | (simp only [List.length_drop, List.length_take]; rfl)) ?_; (with_reducible refine (sub_Less.calls k a1_0 a1_1 a1_0 a1_1 false _ A11.out).mono ?_); rintro e w112 ⟨rfl, hb⟩; clear A11; refine ⟨_, rfl, ?_⟩; have n0_ := Aside0.mk (blk_below (g := gb382) (o := .cells #[.int .u64 a1_0, .int .u64 a1_1] 24 (0, 0)) (by (with_reducible repeat (first | refine blk_drewN ?_ _ | refine blk_drew ?_ | refine blk_alloc ?_ _)); exact BK382.out) hb); have n1_ := Aside0.mk (blk_below (g := gb383) (o := .cells #[.int .u64 a2_0, .int .u64 a2_1] 24 (0, 0)) (by (with_reducible repeat (first | refine blk_drewN ?_ _ | refine blk_drew ?_ | refine blk_alloc ?_ _)); exact BK383.out) hb); have n2_ := Aside0.mk (blk_below (g := gb384) (o := .cells #[.int .u64 a3_0, .int .u64 a3_1] 24 (0, 0)) (by (with_reducible repeat (first | refine blk_drewN ?_ _ | refine blk_drew ?_ | refine blk_alloc ?_ _)); exact BK384.out) hb); have n3_ := Aside0.mk (below_step (by repeat (first | (with_reducible first | exact HB.out | apply below_alloc | apply pw_below_drewN | apply below_drew1 | refine below_set ?_ GE382.out | refine below_set ?_ GE383.out | refine below_set ?_ GE384.out) | exact HB.out)) hb); clear BK382; clear BK383; clear BK384; clear HB; have BK382 := n0_; have BK383 := n1_; have BK384 := n2_; have HB := n3_; clear n0_ n1_ n2_ n3_; (try clear hb); (try clear hb2); (try clear hk); (try clear hi); have hcz113_0 : w112.cell? ⟨gb382, 0, none⟩ = some (.int .u64 a1_0) := (blk_cell BK382.out 0).trans rfl; have hcz113_1 : w112.cell? ⟨gb382, 1, none⟩ = some (.int .u64 a1_1) := (blk_cell BK382.out 1).trans rfl; have hfz113_0 := blk_frozen BK382.out 0; have hfz113_1 := blk_frozen BK382.out 1; have hnb114 := NB383_384.out; have hnc114 := NB384_383.out; have hcz115_0 : w112.cell? ⟨gb383, 0, none⟩ = some (.int .u64 a2_0) := (blk_cell BK383.out 0).trans rfl; have hcz115_1 : w112.cell? ⟨gb383, 1, none⟩ = some (.int .u64 a2_1) := (blk_cell BK383.out 1).trans rfl; have hfz115_0 := blk_frozen BK383.out 0; have hfz115_1 := blk_frozen BK383.out 1) | (go_at_call 32; (with_reducible refine (sub_Less.calls k a1_0 a1_1 a2_0 a2_1 false _ A17.out).mono ?_); rintro e w116 ⟨rfl, hb⟩; clear A17; have n0_ := Aside0.mk (blk_below (g := gb382) (o := .cells #[.int .u64 a1_0, .int .u64 a1_1] 24 (0, 0)) (by (with_reducible repeat (first | refine blk_drewN ?_ _ | refine blk_drew ?_ | refine blk_alloc ?_ _)); exact BK382.out) hb); have n1_ := Aside0.mk (blk_below (g := gb383) (o := .cells #[.int .u64 a2_0, .int .u64 a2_1] 24 (0, 0)) (by (with_reducible repeat (first | refine blk_drewN ?_ _ | refine blk_drew ?_ | refine blk_alloc ?_ _)); exact BK383.out) hb); have n2_ := Aside0.mk (blk_below (g := gb384) (o := .cells #[.int .u64 a3_0, .int .u64 a3_1] 24 (0, 0)) (by (with_reducible repeat (first | refine blk_drewN ?_ _ | refine blk_drew ?_ | refine blk_alloc ?_ _)); exact BK384.out) hb); have n3_ := Aside0.mk (below_step (by repeat (first | (with_reducible first | exact HB.out | apply below_alloc | apply pw_below_drewN | apply below_drew1 | refine below_set ?_ GE382.out | refine below_set ?_ GE383.out | refine below_set ?_ GE384.out) | exact HB.out)) hb); clear BK382; clear BK383; clear BK384; clear HB; have BK382 := n0_; have BK383 := n1_; have BK384 := n2_; have HB := n3_; clear n0_ n1_ n2_ n3_; (try clear hb); (try clear hb2); (try clear hk); (try clear hi); have hcz117_0 : w116.cell? ⟨gb382, 0, none⟩ = some (.int .u64 a1_0) := (blk_cell BK382.out 0).trans rfl; have hcz117_1 : w116.cell? ⟨gb382, 1, none⟩ = some (.int .u64 a1_1) := (blk_cell BK382.out 1).trans rfl; have hfz117_0 := blk_frozen BK382.out 0; have hfz117_1 := blk_frozen BK382.out 1; have hcz118_0 : w116.cell? ⟨gb383, 0, none⟩ = some (.int .u64 a2_0) := (blk_cell BK383.out 0).trans rfl; have hcz118_1 : w116.cell? ⟨gb383, 1, none⟩ = some (.int .u64 a2_1) := (blk_cell BK383.out 1).trans rfl; have hfz118_0 := blk_frozen BK383.out 0; have hfz118_1 := blk_frozen BK383.out 1))
          go_meet
          case rel => exact ⟨_, (false), (by first | rfl | (simp; done) | (simp [*]; done)), H', ⟨by first | omega | exact Nat.le_refl _⟩, ⟨by (with_reducible repeat (first | refine blk_drewN ?_ _ | refine blk_drew ?_ | refine blk_alloc ?_ _)); exact BK382.out⟩, ⟨by (with_reducible repeat (first | refine blk_drewN ?_ _ | refine blk_drew ?_ | refine blk_alloc ?_ _)); exact BK383.out⟩, ⟨by (with_reducible repeat (first | refine blk_drewN ?_ _ | refine blk_drew ?_ | refine blk_alloc ?_ _)); exact BK384.out⟩, ⟨by repeat (first | (with_reducible first | exact HB.out | apply below_alloc | apply pw_below_drewN | apply below_drew1 | refine below_set ?_ GE382.out | refine below_set ?_ GE383.out | refine below_set ?_ GE384.out) | exact HB.out)⟩⟩
  case rest =>
    clear HC6
    try clear c1
    try clear c2
    try clear p2
    try clear c3
    try clear c4
    try clear c5
    try clear c6
    try clear c7
    try clear c8
    try clear c9
    try clear c10
    try clear c11
    try clear c12
    try clear c13
    try clear c14
    try clear c18
    try clear c20
    try clear c21
    try clear c22
    try clear c26
    try clear c32
    try clear c32b0
    try clear c34
    try clear c35
    try clear c36
    try clear c40
    try clear c50
    try clear c51
    try clear c55
    try clear c67
    try clear c68
    try clear c72
    try clear c80
    try clear c80b0
    try clear c82
    try clear c83
    try clear c84
    try clear c88
    try clear c95
    try clear c96
    try clear c100
    try clear c109
    try clear c110
    try clear c114
    try clear hcz101_0
    try clear hcz101_1
    try clear hcz103_0
    try clear hcz103_1
    try clear hcz104_0
    try clear hcz104_1
    try clear hcz106_0
    try clear hcz106_1
    try clear hcz107_0
    try clear hcz107_1
    try clear hcz111_0
    try clear hcz111_1
    try clear hcz113_0
    try clear hcz113_1
    try clear hcz115_0
    try clear hcz115_1
    try clear hcz117_0
    try clear hcz117_1
    try clear hcz118_0
    try clear hcz118_1
    try clear hcz15_0
    try clear hcz15_1
    try clear hcz23_0
    try clear hcz23_1
    try clear hcz25_0
    try clear hcz25_1
    try clear hcz27_0
    try clear hcz27_1
    try clear hcz29_0
    try clear hcz29_1
    try clear hcz30_0
    try clear hcz30_1
    try clear hcz37_0
    try clear hcz37_1
    try clear hcz39_0
    try clear hcz39_1
    try clear hcz41_0
    try clear hcz41_1
    try clear hcz43_0
    try clear hcz43_1
    try clear hcz44_0
    try clear hcz44_1
    try clear hcz46_0
    try clear hcz46_1
    try clear hcz47_0
    try clear hcz47_1
    try clear hcz52_0
    try clear hcz52_1
    try clear hcz54_0
    try clear hcz54_1
    try clear hcz56_0
    try clear hcz56_1
    try clear hcz58_0
    try clear hcz58_1
    try clear hcz59_0
    try clear hcz59_1
    try clear hcz61_0
    try clear hcz61_1
    try clear hcz62_0
    try clear hcz62_1
    try clear hcz64_0
    try clear hcz64_1
    try clear hcz65_0
    try clear hcz65_1
    try clear hcz69_0
    try clear hcz69_1
    try clear hcz71_0
    try clear hcz71_1
    try clear hcz73_0
    try clear hcz73_1
    try clear hcz75_0
    try clear hcz75_1
    try clear hcz76_0
    try clear hcz76_1
    try clear hcz78_0
    try clear hcz78_1
    try clear hcz79_0
    try clear hcz79_1
    try clear hcz85_0
    try clear hcz85_1
    try clear hcz87_0
    try clear hcz87_1
    try clear hcz89_0
    try clear hcz89_1
    try clear hcz91_0
    try clear hcz91_1
    try clear hcz92_0
    try clear hcz92_1
    try clear hcz97_0
    try clear hcz97_1
    try clear hcz99_0
    try clear hcz99_1
    try clear hfz101_0
    try clear hfz101_1
    try clear hfz103_0
    try clear hfz103_1
    try clear hfz104_0
    try clear hfz104_1
    try clear hfz106_0
    try clear hfz106_1
    try clear hfz107_0
    try clear hfz107_1
    try clear hfz111_0
    try clear hfz111_1
    try clear hfz113_0
    try clear hfz113_1
    try clear hfz115_0
    try clear hfz115_1
    try clear hfz117_0
    try clear hfz117_1
    try clear hfz118_0
    try clear hfz118_1
    try clear hfz15_0
    try clear hfz15_1
    try clear hfz23_0
    try clear hfz23_1
    try clear hfz25_0
    try clear hfz25_1
    try clear hfz27_0
    try clear hfz27_1
    try clear hfz29_0
    try clear hfz29_1
    try clear hfz30_0
    try clear hfz30_1
    try clear hfz37_0
    try clear hfz37_1
    try clear hfz39_0
    try clear hfz39_1
    try clear hfz41_0
    try clear hfz41_1
    try clear hfz43_0
    try clear hfz43_1
    try clear hfz44_0
    try clear hfz44_1
    try clear hfz46_0
    try clear hfz46_1
    try clear hfz47_0
    try clear hfz47_1
    try clear hfz52_0
    try clear hfz52_1
    try clear hfz54_0
    try clear hfz54_1
    try clear hfz56_0
    try clear hfz56_1
    try clear hfz58_0
    try clear hfz58_1
    try clear hfz59_0
    try clear hfz59_1
    try clear hfz61_0
    try clear hfz61_1
    try clear hfz62_0
    try clear hfz62_1
    try clear hfz64_0
    try clear hfz64_1
    try clear hfz65_0
    try clear hfz65_1
    try clear hfz69_0
    try clear hfz69_1
    try clear hfz71_0
    try clear hfz71_1
    try clear hfz73_0
    try clear hfz73_1
    try clear hfz75_0
    try clear hfz75_1
    try clear hfz76_0
    try clear hfz76_1
    try clear hfz78_0
    try clear hfz78_1
    try clear hfz79_0
    try clear hfz79_1
    try clear hfz85_0
    try clear hfz85_1
    try clear hfz87_0
    try clear hfz87_1
    try clear hfz89_0
    try clear hfz89_1
    try clear hfz91_0
    try clear hfz91_1
    try clear hfz92_0
    try clear hfz92_1
    try clear hfz97_0
    try clear hfz97_1
    try clear hfz99_0
    try clear hfz99_1
    obtain ⟨kq, x53_5, rfl, HA, HJ5, BK382, BK383, BK384, HB⟩ := hcut
    cases kq with
    | zero => exact absurd HA.out (by simp [medlarlaw08_SubLess.j0])
    | succ kj5 =>
      have H := HA.out
      clear HA
      simp only [medlarlaw08_SubLess.j0] at H
      by_cases c119 : x53_5 = true
      · subst c119
        have H1 : (some false) = some r := by rw [if_pos rfl] at H; exact H
        clear H
        have H := H1
        clear H1
        obtain rfl := Option.some.inj H
        go_wp2
        go_ret
        exact ⟨by first | rfl | (simp [errW_none, errW_some] <;> rfl) | (simp [*, errW_none, errW_some] <;> rfl), by repeat (first | (with_reducible first | exact HB.out | apply below_alloc | apply pw_below_drewN | apply below_drew1 | refine below_set ?_ GE382.out | refine below_set ?_ GE383.out | refine below_set ?_ GE384.out) | exact HB.out)⟩
      · replace c119 := Bool.eq_false_iff.mpr c119
        subst c119
        have H1 : ((sub_Less.f kj5 a1_0 a1_1 a2_0 a2_1).bind fun t393 => (if t393 = true then ((sub_Less.f kj5 a2_0 a2_1 a3_0 a3_1).bind fun t394 => (if t394 = true then ((sub_Less.f kj5 a1_0 a1_1 a3_0 a3_1).bind fun t395 => (medlarlaw08_SubLess.j1 kj5 a0 t385 (!t395) a1_0 a1_1)) else (medlarlaw08_SubLess.j1 kj5 a0 t385 false a1_0 a1_1))) else (medlarlaw08_SubLess.j1 kj5 a0 t385 false a1_0 a1_1))) = some r := by rw [if_neg (show ¬ (false = true) by decide)] at H; exact H
        clear H
        have H := H1
        clear H1
        have HC120 := Aside0.mk H
        clear H
        go_upto_region 4 with (fail)
        go_cut [67] (fun v67 wc => ∃ (kq : Nat) (x67_119 : Bool), v67 = .bool x67_119 ∧ Aside0 (medlarlaw08_SubLess.j1 kq a0 t385 x67_119 a1_0 a1_1 = some r) ∧ Aside0 (kq ≤ kj5) ∧ Aside0 (wc.heap[gb382]? = some (.cells #[.int .u64 a1_0, .int .u64 a1_1] 24 (0, 0))) ∧ Aside0 (wc.heap[gb383]? = some (.cells #[.int .u64 a2_0, .int .u64 a2_1] 24 (0, 0))) ∧ Aside0 (wc.heap[gb384]? = some (.cells #[.int .u64 a3_0, .int .u64 a3_1] 24 (0, 0))) ∧ Aside0 (Below w.heap.size w wc))
        case first =>
          have H := HC120.out
          clear HC120
          replace H := Option.bind_eq_some_iff.mp H
          obtain ⟨t393, A1210, H⟩ := H
          replace H : (if t393 = true then ((sub_Less.f kj5 a2_0 a2_1 a3_0 a3_1).bind fun t394 => (if t394 = true then ((sub_Less.f kj5 a1_0 a1_1 a3_0 a3_1).bind fun t395 => (medlarlaw08_SubLess.j1 kj5 a0 t385 (!t395) a1_0 a1_1)) else (medlarlaw08_SubLess.j1 kj5 a0 t385 false a1_0 a1_1))) else (medlarlaw08_SubLess.j1 kj5 a0 t385 false a1_0 a1_1)) = some r := H
          have A121 := Aside0.mk A1210
          clear A1210
          by_cases c122 : t393 = true
          · subst c122
            have H1 : ((sub_Less.f kj5 a2_0 a2_1 a3_0 a3_1).bind fun t394 => (if t394 = true then ((sub_Less.f kj5 a1_0 a1_1 a3_0 a3_1).bind fun t395 => (medlarlaw08_SubLess.j1 kj5 a0 t385 (!t395) a1_0 a1_1)) else (medlarlaw08_SubLess.j1 kj5 a0 t385 false a1_0 a1_1))) = some r := by rw [if_pos rfl] at H; exact H
            clear H
            have H := H1
            clear H1
            replace H := Option.bind_eq_some_iff.mp H
            obtain ⟨t394, A1230, H⟩ := H
            replace H : (if t394 = true then ((sub_Less.f kj5 a1_0 a1_1 a3_0 a3_1).bind fun t395 => (medlarlaw08_SubLess.j1 kj5 a0 t385 (!t395) a1_0 a1_1)) else (medlarlaw08_SubLess.j1 kj5 a0 t385 false a1_0 a1_1)) = some r := H
            have A123 := Aside0.mk A1230
            clear A1230
            by_cases c124 : t394 = true
            · subst c124
              have H1 : ((sub_Less.f kj5 a1_0 a1_1 a3_0 a3_1).bind fun t395 => (medlarlaw08_SubLess.j1 kj5 a0 t385 (!t395) a1_0 a1_1)) = some r := by rw [if_pos rfl] at H; exact H
              clear H
              have H := H1
              clear H1
              replace H := Option.bind_eq_some_iff.mp H
              obtain ⟨t395, A1250, H⟩ := H
              replace H : (medlarlaw08_SubLess.j1 kj5 a0 t385 (!t395) a1_0 a1_1) = some r := H
              have A125 := Aside0.mk A1250
              clear A1250
              have H' := Aside0.mk H
              clear H
              have hnb126 := NB382_383.out
              have hnc126 := NB383_382.out
              have hnb127 := NB382_384.out
              have hnc127 := NB384_382.out
              have hcz128_0 : wc.cell? ⟨gb382, 0, none⟩ = some (.int .u64 a1_0) := (blk_cell BK382.out 0).trans rfl
              have hcz128_1 : wc.cell? ⟨gb382, 1, none⟩ = some (.int .u64 a1_1) := (blk_cell BK382.out 1).trans rfl
              have hfz128_0 := blk_frozen BK382.out 0
              have hfz128_1 := blk_frozen BK382.out 1
              have hnb129 := NB383_384.out
              have hnc129 := NB384_383.out
              have hcz130_0 : wc.cell? ⟨gb383, 0, none⟩ = some (.int .u64 a2_0) := (blk_cell BK383.out 0).trans rfl
              have hcz130_1 : wc.cell? ⟨gb383, 1, none⟩ = some (.int .u64 a2_1) := (blk_cell BK383.out 1).trans rfl
              have hfz130_0 := blk_frozen BK383.out 0
              have hfz130_1 := blk_frozen BK383.out 1
              go_wp2_with (first | ((with_reducible refine gate_callee (f := 32) rfl ?_); refine goesL_ (some 56) rfl rfl Try.func32 (by kernel_rfl) rfl #[.agg #[.int .u64 a1_0, .int .u64 a1_1], .agg #[.int .u64 a2_0, .int .u64 a2_1]] rfl (by (try simp only [List.map_toArray, List.map_cons, List.map_nil]); first | done | rfl | (simp only [List.length_drop, List.length_take]; rfl)) ?_; (with_reducible refine (sub_Less.calls kj5 a1_0 a1_1 a2_0 a2_1 true _ A121.out).mono ?_); rintro e w131 ⟨rfl, hb⟩; clear A121; refine ⟨_, rfl, ?_⟩; have n0_ := Aside0.mk (blk_below (g := gb382) (o := .cells #[.int .u64 a1_0, .int .u64 a1_1] 24 (0, 0)) (by (with_reducible repeat (first | refine blk_drewN ?_ _ | refine blk_drew ?_ | refine blk_alloc ?_ _)); exact BK382.out) hb); have n1_ := Aside0.mk (blk_below (g := gb383) (o := .cells #[.int .u64 a2_0, .int .u64 a2_1] 24 (0, 0)) (by (with_reducible repeat (first | refine blk_drewN ?_ _ | refine blk_drew ?_ | refine blk_alloc ?_ _)); exact BK383.out) hb); have n2_ := Aside0.mk (blk_below (g := gb384) (o := .cells #[.int .u64 a3_0, .int .u64 a3_1] 24 (0, 0)) (by (with_reducible repeat (first | refine blk_drewN ?_ _ | refine blk_drew ?_ | refine blk_alloc ?_ _)); exact BK384.out) hb); have n3_ := Aside0.mk (below_step (by repeat (first | (with_reducible first | exact HB.out | apply below_alloc | apply pw_below_drewN | apply below_drew1 | refine below_set ?_ GE382.out | refine below_set ?_ GE383.out | refine below_set ?_ GE384.out) | exact HB.out)) hb); clear BK382; clear BK383; clear BK384; clear HB; have BK382 := n0_; have BK383 := n1_; have BK384 := n2_; have HB := n3_; clear n0_ n1_ n2_ n3_; (try clear hb); (try clear hb2); (try clear hk); (try clear hi); have hcz132_0 : w131.cell? ⟨gb383, 0, none⟩ = some (.int .u64 a2_0) := (blk_cell BK383.out 0).trans rfl; have hcz132_1 : w131.cell? ⟨gb383, 1, none⟩ = some (.int .u64 a2_1) := (blk_cell BK383.out 1).trans rfl; have hfz132_0 := blk_frozen BK383.out 0; have hfz132_1 := blk_frozen BK383.out 1; have hcz133_0 : w131.cell? ⟨gb384, 0, none⟩ = some (.int .u64 a3_0) := (blk_cell BK384.out 0).trans rfl; have hcz133_1 : w131.cell? ⟨gb384, 1, none⟩ = some (.int .u64 a3_1) := (blk_cell BK384.out 1).trans rfl; have hfz133_0 := blk_frozen BK384.out 0; have hfz133_1 := blk_frozen BK384.out 1) | (go_at_call 32; (with_reducible refine (sub_Less.calls kj5 a2_0 a2_1 a3_0 a3_1 true _ A123.out).mono ?_); rintro e w134 ⟨rfl, hb⟩; clear A123; have n0_ := Aside0.mk (blk_below (g := gb382) (o := .cells #[.int .u64 a1_0, .int .u64 a1_1] 24 (0, 0)) (by (with_reducible repeat (first | refine blk_drewN ?_ _ | refine blk_drew ?_ | refine blk_alloc ?_ _)); exact BK382.out) hb); have n1_ := Aside0.mk (blk_below (g := gb383) (o := .cells #[.int .u64 a2_0, .int .u64 a2_1] 24 (0, 0)) (by (with_reducible repeat (first | refine blk_drewN ?_ _ | refine blk_drew ?_ | refine blk_alloc ?_ _)); exact BK383.out) hb); have n2_ := Aside0.mk (blk_below (g := gb384) (o := .cells #[.int .u64 a3_0, .int .u64 a3_1] 24 (0, 0)) (by (with_reducible repeat (first | refine blk_drewN ?_ _ | refine blk_drew ?_ | refine blk_alloc ?_ _)); exact BK384.out) hb); have n3_ := Aside0.mk (below_step (by repeat (first | (with_reducible first | exact HB.out | apply below_alloc | apply pw_below_drewN | apply below_drew1 | refine below_set ?_ GE382.out | refine below_set ?_ GE383.out | refine below_set ?_ GE384.out) | exact HB.out)) hb); clear BK382; clear BK383; clear BK384; clear HB; have BK382 := n0_; have BK383 := n1_; have BK384 := n2_; have HB := n3_; clear n0_ n1_ n2_ n3_; (try clear hb); (try clear hb2); (try clear hk); (try clear hi); have hcz135_0 : w134.cell? ⟨gb382, 0, none⟩ = some (.int .u64 a1_0) := (blk_cell BK382.out 0).trans rfl; have hcz135_1 : w134.cell? ⟨gb382, 1, none⟩ = some (.int .u64 a1_1) := (blk_cell BK382.out 1).trans rfl; have hfz135_0 := blk_frozen BK382.out 0; have hfz135_1 := blk_frozen BK382.out 1; have hcz136_0 : w134.cell? ⟨gb384, 0, none⟩ = some (.int .u64 a3_0) := (blk_cell BK384.out 0).trans rfl; have hcz136_1 : w134.cell? ⟨gb384, 1, none⟩ = some (.int .u64 a3_1) := (blk_cell BK384.out 1).trans rfl; have hfz136_0 := blk_frozen BK384.out 0; have hfz136_1 := blk_frozen BK384.out 1) | (go_at_call 32; (with_reducible refine (sub_Less.calls kj5 a1_0 a1_1 a3_0 a3_1 t395 _ A125.out).mono ?_); rintro e w137 ⟨rfl, hb⟩; clear A125; have n0_ := Aside0.mk (blk_below (g := gb382) (o := .cells #[.int .u64 a1_0, .int .u64 a1_1] 24 (0, 0)) (by (with_reducible repeat (first | refine blk_drewN ?_ _ | refine blk_drew ?_ | refine blk_alloc ?_ _)); exact BK382.out) hb); have n1_ := Aside0.mk (blk_below (g := gb383) (o := .cells #[.int .u64 a2_0, .int .u64 a2_1] 24 (0, 0)) (by (with_reducible repeat (first | refine blk_drewN ?_ _ | refine blk_drew ?_ | refine blk_alloc ?_ _)); exact BK383.out) hb); have n2_ := Aside0.mk (blk_below (g := gb384) (o := .cells #[.int .u64 a3_0, .int .u64 a3_1] 24 (0, 0)) (by (with_reducible repeat (first | refine blk_drewN ?_ _ | refine blk_drew ?_ | refine blk_alloc ?_ _)); exact BK384.out) hb); have n3_ := Aside0.mk (below_step (by repeat (first | (with_reducible first | exact HB.out | apply below_alloc | apply pw_below_drewN | apply below_drew1 | refine below_set ?_ GE382.out | refine below_set ?_ GE383.out | refine below_set ?_ GE384.out) | exact HB.out)) hb); clear BK382; clear BK383; clear BK384; clear HB; have BK382 := n0_; have BK383 := n1_; have BK384 := n2_; have HB := n3_; clear n0_ n1_ n2_ n3_; (try clear hb); (try clear hb2); (try clear hk); (try clear hi)))
              go_meet
              case rel => exact ⟨_, (!t395), (by first | rfl | (simp; done) | (simp [*]; done)), H', ⟨by have := HJ5.out; first | omega | exact Nat.le_refl _⟩, ⟨by (with_reducible repeat (first | refine blk_drewN ?_ _ | refine blk_drew ?_ | refine blk_alloc ?_ _)); exact BK382.out⟩, ⟨by (with_reducible repeat (first | refine blk_drewN ?_ _ | refine blk_drew ?_ | refine blk_alloc ?_ _)); exact BK383.out⟩, ⟨by (with_reducible repeat (first | refine blk_drewN ?_ _ | refine blk_drew ?_ | refine blk_alloc ?_ _)); exact BK384.out⟩, ⟨by repeat (first | (with_reducible first | exact HB.out | apply below_alloc | apply pw_below_drewN | apply below_drew1 | refine below_set ?_ GE382.out | refine below_set ?_ GE383.out | refine below_set ?_ GE384.out) | exact HB.out)⟩⟩
            · replace c124 := Bool.eq_false_iff.mpr c124
              subst c124
              have H1 : (medlarlaw08_SubLess.j1 kj5 a0 t385 false a1_0 a1_1) = some r := by rw [if_neg (show ¬ (false = true) by decide)] at H; exact H
              clear H
              have H := H1
              clear H1
              have H' := Aside0.mk H
              clear H
              have hnb138 := NB382_383.out
              have hnc138 := NB383_382.out
              have hnb139 := NB382_384.out
              have hnc139 := NB384_382.out
              have hcz140_0 : wc.cell? ⟨gb382, 0, none⟩ = some (.int .u64 a1_0) := (blk_cell BK382.out 0).trans rfl
              have hcz140_1 : wc.cell? ⟨gb382, 1, none⟩ = some (.int .u64 a1_1) := (blk_cell BK382.out 1).trans rfl
              have hfz140_0 := blk_frozen BK382.out 0
              have hfz140_1 := blk_frozen BK382.out 1
              have hnb141 := NB383_384.out
              have hnc141 := NB384_383.out
              have hcz142_0 : wc.cell? ⟨gb383, 0, none⟩ = some (.int .u64 a2_0) := (blk_cell BK383.out 0).trans rfl
              have hcz142_1 : wc.cell? ⟨gb383, 1, none⟩ = some (.int .u64 a2_1) := (blk_cell BK383.out 1).trans rfl
              have hfz142_0 := blk_frozen BK383.out 0
              have hfz142_1 := blk_frozen BK383.out 1
              go_wp2_with (first | ((with_reducible refine gate_callee (f := 32) rfl ?_); refine goesL_ (some 56) rfl rfl Try.func32 (by kernel_rfl) rfl #[.agg #[.int .u64 a1_0, .int .u64 a1_1], .agg #[.int .u64 a2_0, .int .u64 a2_1]] rfl (by (try simp only [List.map_toArray, List.map_cons, List.map_nil]); first | done | rfl | (simp only [List.length_drop, List.length_take]; rfl)) ?_; (with_reducible refine (sub_Less.calls kj5 a1_0 a1_1 a2_0 a2_1 true _ A121.out).mono ?_); rintro e w143 ⟨rfl, hb⟩; clear A121; refine ⟨_, rfl, ?_⟩; have n0_ := Aside0.mk (blk_below (g := gb382) (o := .cells #[.int .u64 a1_0, .int .u64 a1_1] 24 (0, 0)) (by (with_reducible repeat (first | refine blk_drewN ?_ _ | refine blk_drew ?_ | refine blk_alloc ?_ _)); exact BK382.out) hb); have n1_ := Aside0.mk (blk_below (g := gb383) (o := .cells #[.int .u64 a2_0, .int .u64 a2_1] 24 (0, 0)) (by (with_reducible repeat (first | refine blk_drewN ?_ _ | refine blk_drew ?_ | refine blk_alloc ?_ _)); exact BK383.out) hb); have n2_ := Aside0.mk (blk_below (g := gb384) (o := .cells #[.int .u64 a3_0, .int .u64 a3_1] 24 (0, 0)) (by (with_reducible repeat (first | refine blk_drewN ?_ _ | refine blk_drew ?_ | refine blk_alloc ?_ _)); exact BK384.out) hb); have n3_ := Aside0.mk (below_step (by repeat (first | (with_reducible first | exact HB.out | apply below_alloc | apply pw_below_drewN | apply below_drew1 | refine below_set ?_ GE382.out | refine below_set ?_ GE383.out | refine below_set ?_ GE384.out) | exact HB.out)) hb); clear BK382; clear BK383; clear BK384; clear HB; have BK382 := n0_; have BK383 := n1_; have BK384 := n2_; have HB := n3_; clear n0_ n1_ n2_ n3_; (try clear hb); (try clear hb2); (try clear hk); (try clear hi); have hcz144_0 : w143.cell? ⟨gb383, 0, none⟩ = some (.int .u64 a2_0) := (blk_cell BK383.out 0).trans rfl; have hcz144_1 : w143.cell? ⟨gb383, 1, none⟩ = some (.int .u64 a2_1) := (blk_cell BK383.out 1).trans rfl; have hfz144_0 := blk_frozen BK383.out 0; have hfz144_1 := blk_frozen BK383.out 1; have hcz145_0 : w143.cell? ⟨gb384, 0, none⟩ = some (.int .u64 a3_0) := (blk_cell BK384.out 0).trans rfl; have hcz145_1 : w143.cell? ⟨gb384, 1, none⟩ = some (.int .u64 a3_1) := (blk_cell BK384.out 1).trans rfl; have hfz145_0 := blk_frozen BK384.out 0; have hfz145_1 := blk_frozen BK384.out 1) | (go_at_call 32; (with_reducible refine (sub_Less.calls kj5 a2_0 a2_1 a3_0 a3_1 false _ A123.out).mono ?_); rintro e w146 ⟨rfl, hb⟩; clear A123; have n0_ := Aside0.mk (blk_below (g := gb382) (o := .cells #[.int .u64 a1_0, .int .u64 a1_1] 24 (0, 0)) (by (with_reducible repeat (first | refine blk_drewN ?_ _ | refine blk_drew ?_ | refine blk_alloc ?_ _)); exact BK382.out) hb); have n1_ := Aside0.mk (blk_below (g := gb383) (o := .cells #[.int .u64 a2_0, .int .u64 a2_1] 24 (0, 0)) (by (with_reducible repeat (first | refine blk_drewN ?_ _ | refine blk_drew ?_ | refine blk_alloc ?_ _)); exact BK383.out) hb); have n2_ := Aside0.mk (blk_below (g := gb384) (o := .cells #[.int .u64 a3_0, .int .u64 a3_1] 24 (0, 0)) (by (with_reducible repeat (first | refine blk_drewN ?_ _ | refine blk_drew ?_ | refine blk_alloc ?_ _)); exact BK384.out) hb); have n3_ := Aside0.mk (below_step (by repeat (first | (with_reducible first | exact HB.out | apply below_alloc | apply pw_below_drewN | apply below_drew1 | refine below_set ?_ GE382.out | refine below_set ?_ GE383.out | refine below_set ?_ GE384.out) | exact HB.out)) hb); clear BK382; clear BK383; clear BK384; clear HB; have BK382 := n0_; have BK383 := n1_; have BK384 := n2_; have HB := n3_; clear n0_ n1_ n2_ n3_; (try clear hb); (try clear hb2); (try clear hk); (try clear hi)))
              go_meet
              case rel => exact ⟨_, (false), (by first | rfl | (simp; done) | (simp [*]; done)), H', ⟨by have := HJ5.out; first | omega | exact Nat.le_refl _⟩, ⟨by (with_reducible repeat (first | refine blk_drewN ?_ _ | refine blk_drew ?_ | refine blk_alloc ?_ _)); exact BK382.out⟩, ⟨by (with_reducible repeat (first | refine blk_drewN ?_ _ | refine blk_drew ?_ | refine blk_alloc ?_ _)); exact BK383.out⟩, ⟨by (with_reducible repeat (first | refine blk_drewN ?_ _ | refine blk_drew ?_ | refine blk_alloc ?_ _)); exact BK384.out⟩, ⟨by repeat (first | (with_reducible first | exact HB.out | apply below_alloc | apply pw_below_drewN | apply below_drew1 | refine below_set ?_ GE382.out | refine below_set ?_ GE383.out | refine below_set ?_ GE384.out) | exact HB.out)⟩⟩
          · replace c122 := Bool.eq_false_iff.mpr c122
            subst c122
            have H1 : (medlarlaw08_SubLess.j1 kj5 a0 t385 false a1_0 a1_1) = some r := by rw [if_neg (show ¬ (false = true) by decide)] at H; exact H
            clear H
            have H := H1
            clear H1
            have H' := Aside0.mk H
            clear H
            have hnb147 := NB382_383.out
            have hnc147 := NB383_382.out
            have hnb148 := NB382_384.out
            have hnc148 := NB384_382.out
            have hcz149_0 : wc.cell? ⟨gb382, 0, none⟩ = some (.int .u64 a1_0) := (blk_cell BK382.out 0).trans rfl
            have hcz149_1 : wc.cell? ⟨gb382, 1, none⟩ = some (.int .u64 a1_1) := (blk_cell BK382.out 1).trans rfl
            have hfz149_0 := blk_frozen BK382.out 0
            have hfz149_1 := blk_frozen BK382.out 1
            have hnb150 := NB383_384.out
            have hnc150 := NB384_383.out
            have hcz151_0 : wc.cell? ⟨gb383, 0, none⟩ = some (.int .u64 a2_0) := (blk_cell BK383.out 0).trans rfl
            have hcz151_1 : wc.cell? ⟨gb383, 1, none⟩ = some (.int .u64 a2_1) := (blk_cell BK383.out 1).trans rfl
            have hfz151_0 := blk_frozen BK383.out 0
            have hfz151_1 := blk_frozen BK383.out 1
            go_wp2_with (first | ((with_reducible refine gate_callee (f := 32) rfl ?_); refine goesL_ (some 56) rfl rfl Try.func32 (by kernel_rfl) rfl #[.agg #[.int .u64 a1_0, .int .u64 a1_1], .agg #[.int .u64 a2_0, .int .u64 a2_1]] rfl (by (try simp only [List.map_toArray, List.map_cons, List.map_nil]); first | done | rfl | (simp only [List.length_drop, List.length_take]; rfl)) ?_; (with_reducible refine (sub_Less.calls kj5 a1_0 a1_1 a2_0 a2_1 false _ A121.out).mono ?_); rintro e w152 ⟨rfl, hb⟩; clear A121; refine ⟨_, rfl, ?_⟩; have n0_ := Aside0.mk (blk_below (g := gb382) (o := .cells #[.int .u64 a1_0, .int .u64 a1_1] 24 (0, 0)) (by (with_reducible repeat (first | refine blk_drewN ?_ _ | refine blk_drew ?_ | refine blk_alloc ?_ _)); exact BK382.out) hb); have n1_ := Aside0.mk (blk_below (g := gb383) (o := .cells #[.int .u64 a2_0, .int .u64 a2_1] 24 (0, 0)) (by (with_reducible repeat (first | refine blk_drewN ?_ _ | refine blk_drew ?_ | refine blk_alloc ?_ _)); exact BK383.out) hb); have n2_ := Aside0.mk (blk_below (g := gb384) (o := .cells #[.int .u64 a3_0, .int .u64 a3_1] 24 (0, 0)) (by (with_reducible repeat (first | refine blk_drewN ?_ _ | refine blk_drew ?_ | refine blk_alloc ?_ _)); exact BK384.out) hb); have n3_ := Aside0.mk (below_step (by repeat (first | (with_reducible first | exact HB.out | apply below_alloc | apply pw_below_drewN | apply below_drew1 | refine below_set ?_ GE382.out | refine below_set ?_ GE383.out | refine below_set ?_ GE384.out) | exact HB.out)) hb); clear BK382; clear BK383; clear BK384; clear HB; have BK382 := n0_; have BK383 := n1_; have BK384 := n2_; have HB := n3_; clear n0_ n1_ n2_ n3_; (try clear hb); (try clear hb2); (try clear hk); (try clear hi)))
            go_meet
            case rel => exact ⟨_, (false), (by first | rfl | (simp; done) | (simp [*]; done)), H', ⟨by have := HJ5.out; first | omega | exact Nat.le_refl _⟩, ⟨by (with_reducible repeat (first | refine blk_drewN ?_ _ | refine blk_drew ?_ | refine blk_alloc ?_ _)); exact BK382.out⟩, ⟨by (with_reducible repeat (first | refine blk_drewN ?_ _ | refine blk_drew ?_ | refine blk_alloc ?_ _)); exact BK383.out⟩, ⟨by (with_reducible repeat (first | refine blk_drewN ?_ _ | refine blk_drew ?_ | refine blk_alloc ?_ _)); exact BK384.out⟩, ⟨by repeat (first | (with_reducible first | exact HB.out | apply below_alloc | apply pw_below_drewN | apply below_drew1 | refine below_set ?_ GE382.out | refine below_set ?_ GE383.out | refine below_set ?_ GE384.out) | exact HB.out)⟩⟩
        case rest =>
          clear HC120
          try clear c1
          try clear c2
          try clear p2
          try clear c3
          try clear c4
          try clear c5
          try clear c6
          try clear c7
          try clear c8
          try clear c9
          try clear c10
          try clear c11
          try clear c12
          try clear c13
          try clear c14
          try clear c15
          try clear c18
          try clear c20
          try clear c21
          try clear c22
          try clear c26
          try clear c32
          try clear c32b0
          try clear c34
          try clear c35
          try clear c36
          try clear c40
          try clear c50
          try clear c51
          try clear c55
          try clear c67
          try clear c68
          try clear c72
          try clear c80
          try clear c80b0
          try clear c82
          try clear c83
          try clear c84
          try clear c88
          try clear c95
          try clear c96
          try clear c100
          try clear c109
          try clear c110
          try clear c114
          try clear c119
          try clear c122
          try clear c124
          try clear c126
          try clear c127
          try clear c129
          try clear c138
          try clear c139
          try clear c141
          try clear c147
          try clear c148
          try clear c150
          try clear hcz101_0
          try clear hcz101_1
          try clear hcz103_0
          try clear hcz103_1
          try clear hcz104_0
          try clear hcz104_1
          try clear hcz106_0
          try clear hcz106_1
          try clear hcz107_0
          try clear hcz107_1
          try clear hcz111_0
          try clear hcz111_1
          try clear hcz113_0
          try clear hcz113_1
          try clear hcz115_0
          try clear hcz115_1
          try clear hcz117_0
          try clear hcz117_1
          try clear hcz118_0
          try clear hcz118_1
          try clear hcz128_0
          try clear hcz128_1
          try clear hcz130_0
          try clear hcz130_1
          try clear hcz132_0
          try clear hcz132_1
          try clear hcz133_0
          try clear hcz133_1
          try clear hcz135_0
          try clear hcz135_1
          try clear hcz136_0
          try clear hcz136_1
          try clear hcz140_0
          try clear hcz140_1
          try clear hcz142_0
          try clear hcz142_1
          try clear hcz144_0
          try clear hcz144_1
          try clear hcz145_0
          try clear hcz145_1
          try clear hcz149_0
          try clear hcz149_1
          try clear hcz151_0
          try clear hcz151_1
          try clear hcz15_0
          try clear hcz15_1
          try clear hcz23_0
          try clear hcz23_1
          try clear hcz25_0
          try clear hcz25_1
          try clear hcz27_0
          try clear hcz27_1
          try clear hcz29_0
          try clear hcz29_1
          try clear hcz30_0
          try clear hcz30_1
          try clear hcz37_0
          try clear hcz37_1
          try clear hcz39_0
          try clear hcz39_1
          try clear hcz41_0
          try clear hcz41_1
          try clear hcz43_0
          try clear hcz43_1
          try clear hcz44_0
          try clear hcz44_1
          try clear hcz46_0
          try clear hcz46_1
          try clear hcz47_0
          try clear hcz47_1
          try clear hcz52_0
          try clear hcz52_1
          try clear hcz54_0
          try clear hcz54_1
          try clear hcz56_0
          try clear hcz56_1
          try clear hcz58_0
          try clear hcz58_1
          try clear hcz59_0
          try clear hcz59_1
          try clear hcz61_0
          try clear hcz61_1
          try clear hcz62_0
          try clear hcz62_1
          try clear hcz64_0
          try clear hcz64_1
          try clear hcz65_0
          try clear hcz65_1
          try clear hcz69_0
          try clear hcz69_1
          try clear hcz71_0
          try clear hcz71_1
          try clear hcz73_0
          try clear hcz73_1
          try clear hcz75_0
          try clear hcz75_1
          try clear hcz76_0
          try clear hcz76_1
          try clear hcz78_0
          try clear hcz78_1
          try clear hcz79_0
          try clear hcz79_1
          try clear hcz85_0
          try clear hcz85_1
          try clear hcz87_0
          try clear hcz87_1
          try clear hcz89_0
          try clear hcz89_1
          try clear hcz91_0
          try clear hcz91_1
          try clear hcz92_0
          try clear hcz92_1
          try clear hcz97_0
          try clear hcz97_1
          try clear hcz99_0
          try clear hcz99_1
          try clear hfz101_0
          try clear hfz101_1
          try clear hfz103_0
          try clear hfz103_1
          try clear hfz104_0
          try clear hfz104_1
          try clear hfz106_0
          try clear hfz106_1
          try clear hfz107_0
          try clear hfz107_1
          try clear hfz111_0
          try clear hfz111_1
          try clear hfz113_0
          try clear hfz113_1
          try clear hfz115_0
          try clear hfz115_1
          try clear hfz117_0
          try clear hfz117_1
          try clear hfz118_0
          try clear hfz118_1
          try clear hfz128_0
          try clear hfz128_1
          try clear hfz130_0
          try clear hfz130_1
          try clear hfz132_0
          try clear hfz132_1
          try clear hfz133_0
          try clear hfz133_1
          try clear hfz135_0
          try clear hfz135_1
          try clear hfz136_0
          try clear hfz136_1
          try clear hfz140_0
          try clear hfz140_1
          try clear hfz142_0
          try clear hfz142_1
          try clear hfz144_0
          try clear hfz144_1
          try clear hfz145_0
          try clear hfz145_1
          try clear hfz149_0
          try clear hfz149_1
          try clear hfz151_0
          try clear hfz151_1
          try clear hfz15_0
          try clear hfz15_1
          try clear hfz23_0
          try clear hfz23_1
          try clear hfz25_0
          try clear hfz25_1
          try clear hfz27_0
          try clear hfz27_1
          try clear hfz29_0
          try clear hfz29_1
          try clear hfz30_0
          try clear hfz30_1
          try clear hfz37_0
          try clear hfz37_1
          try clear hfz39_0
          try clear hfz39_1
          try clear hfz41_0
          try clear hfz41_1
          try clear hfz43_0
          try clear hfz43_1
          try clear hfz44_0
          try clear hfz44_1
          try clear hfz46_0
          try clear hfz46_1
          try clear hfz47_0
          try clear hfz47_1
          try clear hfz52_0
          try clear hfz52_1
          try clear hfz54_0
          try clear hfz54_1
          try clear hfz56_0
          try clear hfz56_1
          try clear hfz58_0
          try clear hfz58_1
          try clear hfz59_0
          try clear hfz59_1
          try clear hfz61_0
          try clear hfz61_1
          try clear hfz62_0
          try clear hfz62_1
          try clear hfz64_0
          try clear hfz64_1
          try clear hfz65_0
          try clear hfz65_1
          try clear hfz69_0
          try clear hfz69_1
          try clear hfz71_0
          try clear hfz71_1
          try clear hfz73_0
          try clear hfz73_1
          try clear hfz75_0
          try clear hfz75_1
          try clear hfz76_0
          try clear hfz76_1
          try clear hfz78_0
          try clear hfz78_1
          try clear hfz79_0
          try clear hfz79_1
          try clear hfz85_0
          try clear hfz85_1
          try clear hfz87_0
          try clear hfz87_1
          try clear hfz89_0
          try clear hfz89_1
          try clear hfz91_0
          try clear hfz91_1
          try clear hfz92_0
          try clear hfz92_1
          try clear hfz97_0
          try clear hfz97_1
          try clear hfz99_0
          try clear hfz99_1
          try clear p2
          obtain ⟨kq, x67_119, rfl, HA, HJ119, BK382, BK383, BK384, HB⟩ := hcut
          cases kq with
          | zero => exact absurd HA.out (by simp [medlarlaw08_SubLess.j1])
          | succ kj119 =>
            have H := HA.out
            clear HA
            simp only [medlarlaw08_SubLess.j1] at H
            by_cases c153 : x67_119 = true
            · subst c153
              have H1 : (some false) = some r := by rw [if_pos rfl] at H; exact H
              clear H
              have H := H1
              clear H1
              obtain rfl := Option.some.inj H
              go_wp2
              go_ret
              exact ⟨by first | rfl | (simp [errW_none, errW_some] <;> rfl) | (simp [*, errW_none, errW_some] <;> rfl), by repeat (first | (with_reducible first | exact HB.out | apply below_alloc | apply pw_below_drewN | apply below_drew1 | refine below_set ?_ GE382.out | refine below_set ?_ GE383.out | refine below_set ?_ GE384.out) | exact HB.out)⟩
            · replace c153 := Bool.eq_false_iff.mpr c153
              subst c153
              have H1 : ((sub_Split.f kj119 a0 a1_0 a1_1).bind fun bt396 => (if bt396.2 = 0 then ((sub_Leaves.f kj119 a0 a1_0 a1_1).bind fun bt400 => ((leaf_Many.f kj119 a0 bt400.1).bind fun bt404 => (medlarlaw08_SubLess.l0 kj119 a0 t385 bt400.2 bt404.1 bt404.2 0 bt396.1 (bt396.1.length : Int) 0))) else (some t385))) = some r := by rw [if_neg (show ¬ (false = true) by decide)] at H; exact H
              clear H
              have H := H1
              clear H1
              replace H := Option.bind_eq_some_iff.mp H
              obtain ⟨⟨t396, t399⟩, A1540, H⟩ := H
              replace H : (if t399 = 0 then ((sub_Leaves.f kj119 a0 a1_0 a1_1).bind fun bt400 => ((leaf_Many.f kj119 a0 bt400.1).bind fun bt404 => (medlarlaw08_SubLess.l0 kj119 a0 t385 bt400.2 bt404.1 bt404.2 0 t396 (t396.length : Int) 0))) else (some t385)) = some r := H
              have A154 := Aside0.mk A1540
              clear A1540
              by_cases c155 : t399 = 0
              · rw [if_pos c155] at H
                have c155b0 : (t399 == 0) = true := beq_iff_eq.mpr c155
                have c155b1 : (t399 != 0) = false := bne_eq_false_iff_eq.mpr c155
                clear c155
                replace H := Option.bind_eq_some_iff.mp H
                obtain ⟨⟨t400, t403⟩, A1560, H⟩ := H
                replace H : ((leaf_Many.f kj119 a0 t400).bind fun bt404 => (medlarlaw08_SubLess.l0 kj119 a0 t385 t403 bt404.1 bt404.2 0 t396 (t396.length : Int) 0)) = some r := H
                have A156 := Aside0.mk A1560
                clear A1560
                replace H := Option.bind_eq_some_iff.mp H
                obtain ⟨⟨t404, t405⟩, A1570, H⟩ := H
                replace H : (medlarlaw08_SubLess.l0 kj119 a0 t385 t403 t404 t405 0 t396 (t396.length : Int) 0) = some r := H
                have A157 := Aside0.mk A1570
                clear A1570
                have H' := Aside0.mk H
                clear H
                have hnb158 := NB382_383.out
                have hnc158 := NB383_382.out
                have hnb159 := NB382_384.out
                have hnc159 := NB384_382.out
                have hcz160_0 : wc.cell? ⟨gb382, 0, none⟩ = some (.int .u64 a1_0) := (blk_cell BK382.out 0).trans rfl
                have hcz160_1 : wc.cell? ⟨gb382, 1, none⟩ = some (.int .u64 a1_1) := (blk_cell BK382.out 1).trans rfl
                have hfz160_0 := blk_frozen BK382.out 0
                have hfz160_1 := blk_frozen BK382.out 1
                go_wp2_with (first | ((with_reducible refine gate_callee (f := 19) rfl ?_); refine goesL_ (some 71) rfl rfl Try.func19 (by kernel_rfl) rfl #[.int .i64 a0, .agg #[.int .u64 a1_0, .int .u64 a1_1]] rfl (by (try simp only [List.map_toArray, List.map_cons, List.map_nil]); first | done | rfl | (simp only [List.length_drop, List.length_take]; rfl)) ?_; (with_reducible refine (sub_Split.calls kj119 a0 a1_0 a1_1 t396 t399 _ A154.out).mono ?_); rintro e w161 ⟨v397, rfl, ho0, hb⟩; refine ⟨_, rfl, ?_⟩; have n0_ := Aside0.mk (Kd.R_lower (Kd.R_newB (Kd.R_newB (Kd.R_newB ho0 (g := gb382) (o := .cells #[.int .u64 a1_0, .int .u64 a1_1] 24 (0, 0)) (by (with_reducible repeat (first | refine blk_drewN ?_ _ | refine blk_drew ?_ | refine blk_alloc ?_ _)); exact BK382.out)) (g := gb383) (o := .cells #[.int .u64 a2_0, .int .u64 a2_1] 24 (0, 0)) (by (with_reducible repeat (first | refine blk_drewN ?_ _ | refine blk_drew ?_ | refine blk_alloc ?_ _)); exact BK383.out)) (g := gb384) (o := .cells #[.int .u64 a3_0, .int .u64 a3_1] 24 (0, 0)) (by (with_reducible repeat (first | refine blk_drewN ?_ _ | refine blk_drew ?_ | refine blk_alloc ?_ _)); exact BK384.out)) (below_size (by repeat (first | (with_reducible first | exact HB.out | apply below_alloc | apply pw_below_drewN | apply below_drew1 | refine below_set ?_ GE382.out | refine below_set ?_ GE383.out | refine below_set ?_ GE384.out) | exact HB.out)))); have n1_ := Aside0.mk (blk_below (g := gb382) (o := .cells #[.int .u64 a1_0, .int .u64 a1_1] 24 (0, 0)) (by (with_reducible repeat (first | refine blk_drewN ?_ _ | refine blk_drew ?_ | refine blk_alloc ?_ _)); exact BK382.out) hb); have n2_ := Aside0.mk (blk_below (g := gb383) (o := .cells #[.int .u64 a2_0, .int .u64 a2_1] 24 (0, 0)) (by (with_reducible repeat (first | refine blk_drewN ?_ _ | refine blk_drew ?_ | refine blk_alloc ?_ _)); exact BK383.out) hb); have n3_ := Aside0.mk (blk_below (g := gb384) (o := .cells #[.int .u64 a3_0, .int .u64 a3_1] 24 (0, 0)) (by (with_reducible repeat (first | refine blk_drewN ?_ _ | refine blk_drew ?_ | refine blk_alloc ?_ _)); exact BK384.out) hb); have n4_ := Aside0.mk (below_step (by repeat (first | (with_reducible first | exact HB.out | apply below_alloc | apply pw_below_drewN | apply below_drew1 | refine below_set ?_ GE382.out | refine below_set ?_ GE383.out | refine below_set ?_ GE384.out) | exact HB.out)) hb); clear BK382; clear BK383; clear BK384; clear HB; have HO398 := n0_; have BK382 := n1_; have BK383 := n2_; have BK384 := n3_; have HB := n4_; clear n0_ n1_ n2_ n3_ n4_; (try clear hb); (try clear hb2); (try clear hk); (try clear hi); (try clear ho0); have hcz162_0 : w161.cell? ⟨gb382, 0, none⟩ = some (.int .u64 a1_0) := (blk_cell BK382.out 0).trans rfl; have hcz162_1 : w161.cell? ⟨gb382, 1, none⟩ = some (.int .u64 a1_1) := (blk_cell BK382.out 1).trans rfl; have hfz162_0 := blk_frozen BK382.out 0; have hfz162_1 := blk_frozen BK382.out 1) | ((with_reducible refine gate_callee (f := 29) rfl ?_); refine goesL_ (some 80) rfl rfl Try.func29 (by kernel_rfl) rfl #[.int .i64 a0, .agg #[.int .u64 a1_0, .int .u64 a1_1]] rfl (by (try simp only [List.map_toArray, List.map_cons, List.map_nil]); first | done | rfl | (simp only [List.length_drop, List.length_take]; rfl)) ?_; (with_reducible refine (sub_Leaves.calls kj119 a0 a1_0 a1_1 t400 t403 _ A156.out).mono ?_); rintro e w163 ⟨v401, rfl, ho0, hb⟩; refine ⟨_, rfl, ?_⟩; have n0_ := Aside0.mk (Kd.R_below (by (with_reducible repeat (first | apply Kd.R_alloc | apply Kd.R_drewN | apply Kd.R_drew)); exact HO398.out) hb); have n1_ := Aside0.mk (Kd.R_lower ho0 (below_size (by repeat (first | (with_reducible first | exact HB.out | apply below_alloc | apply pw_below_drewN | apply below_drew1 | refine below_set ?_ GE382.out | refine below_set ?_ GE383.out | refine below_set ?_ GE384.out) | exact HB.out)))); have n2_ := Aside0.mk (blk_below (g := gb382) (o := .cells #[.int .u64 a1_0, .int .u64 a1_1] 24 (0, 0)) (by (with_reducible repeat (first | refine blk_drewN ?_ _ | refine blk_drew ?_ | refine blk_alloc ?_ _)); exact BK382.out) hb); have n3_ := Aside0.mk (blk_below (g := gb383) (o := .cells #[.int .u64 a2_0, .int .u64 a2_1] 24 (0, 0)) (by (with_reducible repeat (first | refine blk_drewN ?_ _ | refine blk_drew ?_ | refine blk_alloc ?_ _)); exact BK383.out) hb); have n4_ := Aside0.mk (blk_below (g := gb384) (o := .cells #[.int .u64 a3_0, .int .u64 a3_1] 24 (0, 0)) (by (with_reducible repeat (first | refine blk_drewN ?_ _ | refine blk_drew ?_ | refine blk_alloc ?_ _)); exact BK384.out) hb); have n5_ := Aside0.mk (below_step (by repeat (first | (with_reducible first | exact HB.out | apply below_alloc | apply pw_below_drewN | apply below_drew1 | refine below_set ?_ GE382.out | refine below_set ?_ GE383.out | refine below_set ?_ GE384.out) | exact HB.out)) hb); clear HO398; clear BK382; clear BK383; clear BK384; clear HB; have HO398 := n0_; have HO402 := n1_; have BK382 := n2_; have BK383 := n3_; have BK384 := n4_; have HB := n5_; clear n0_ n1_ n2_ n3_ n4_ n5_; (try clear hb); (try clear hb2); (try clear hk); (try clear hi); (try clear ho0); obtain ⟨Ao164, co164, eo164⟩ := Kd.R_slice HO402.out; subst eo164) | ((with_reducible refine gate_callee (f := 30) rfl ?_); refine goesL_ (some 86) rfl rfl Try.func30 (by kernel_rfl) rfl #[.int .i64 a0, .slice Ao164 t400.length co164] rfl (by (try simp only [List.map_toArray, List.map_cons, List.map_nil]); first | done | rfl | (simp only [List.length_drop, List.length_take]; rfl)) ?_; (with_reducible refine (leaf_Many.calls kj119 a0 _ _ t400 t404 t405 _ ?side1 ?side2 A157.out).mono ?_); (case side1 => repeat (first | exact (Kd.R_reads' HO402.out).2.2 | (with_reducible refine Kd.C_alloc ?_ _) | (with_reducible refine Kd.C_drewN ?_ _) | (with_reducible refine Kd.C_drew ?_))); (case side2 => exact (Kd.R_reads' HO402.out).2.1); rintro e w165 ⟨rfl, hb⟩; refine ⟨_, rfl, ?_⟩; have n0_ := Aside0.mk (Kd.R_below (by (with_reducible repeat (first | apply Kd.R_alloc | apply Kd.R_drewN | apply Kd.R_drew)); exact HO398.out) hb); have n1_ := Aside0.mk (Kd.R_below (by (with_reducible repeat (first | apply Kd.R_alloc | apply Kd.R_drewN | apply Kd.R_drew)); exact HO402.out) hb); have n2_ := Aside0.mk (blk_below (g := gb382) (o := .cells #[.int .u64 a1_0, .int .u64 a1_1] 24 (0, 0)) (by (with_reducible repeat (first | refine blk_drewN ?_ _ | refine blk_drew ?_ | refine blk_alloc ?_ _)); exact BK382.out) hb); have n3_ := Aside0.mk (blk_below (g := gb383) (o := .cells #[.int .u64 a2_0, .int .u64 a2_1] 24 (0, 0)) (by (with_reducible repeat (first | refine blk_drewN ?_ _ | refine blk_drew ?_ | refine blk_alloc ?_ _)); exact BK383.out) hb); have n4_ := Aside0.mk (blk_below (g := gb384) (o := .cells #[.int .u64 a3_0, .int .u64 a3_1] 24 (0, 0)) (by (with_reducible repeat (first | refine blk_drewN ?_ _ | refine blk_drew ?_ | refine blk_alloc ?_ _)); exact BK384.out) hb); have n5_ := Aside0.mk (below_step (by repeat (first | (with_reducible first | exact HB.out | apply below_alloc | apply pw_below_drewN | apply below_drew1 | refine below_set ?_ GE382.out | refine below_set ?_ GE383.out | refine below_set ?_ GE384.out) | exact HB.out)) hb); clear HO398; clear HO402; clear BK382; clear BK383; clear BK384; clear HB; have HO398 := n0_; have HO402 := n1_; have BK382 := n2_; have BK383 := n3_; have BK384 := n4_; have HB := n5_; clear n0_ n1_ n2_ n3_ n4_ n5_; (try clear hb); (try clear hb2); (try clear hk); (try clear hi); obtain ⟨Ao166, co166, eo166⟩ := Kd.R_slice HO398.out; subst eo166))
                go_loopg [16, 91] kj119 (fun kq v16 v91 w' => ∃ (x16_3 : Int) (x91_3 : Int), v16 = .int .u64 x16_3 ∧ v91 = .int .i64 x91_3 ∧ Aside0 (medlarlaw08_SubLess.l0 kq a0 t385 t403 t404 t405 x16_3 t396 (t396.length : Int) x91_3 = some r) ∧ Aside0 (kq ≤ kj119) ∧ Aside0 (Kd.R k24 24 w' w.heap.size (fun k_ => k_ ≠ gb382 ∧ k_ ≠ gb383 ∧ k_ ≠ gb384) (.slice Ao166 t396.length co166) t396) ∧ Aside0 (w'.heap[gb382]? = some (.cells #[.int .u64 a1_0, .int .u64 a1_1] 24 (0, 0))) ∧ Aside0 (w'.heap[gb383]? = some (.cells #[.int .u64 a2_0, .int .u64 a2_1] 24 (0, 0))) ∧ Aside0 (w'.heap[gb384]? = some (.cells #[.int .u64 a3_0, .int .u64 a3_1] 24 (0, 0))) ∧ Aside0 (Below w.heap.size w w'))
                case atStart => exact ⟨(0), (0), (by first | rfl | (simp; done) | (simp [*]; done)), (by first | rfl | (simp; done) | (simp [*]; done)), H', ⟨Nat.le_refl _⟩, ⟨by (with_reducible repeat (first | apply Kd.R_alloc | apply Kd.R_drewN | apply Kd.R_drew)); exact Kd.R_mono HO398.out (fun _ hk => ⟨hk.1.1.2, ⟨hk.1.2, hk.2⟩⟩)⟩, ⟨by (with_reducible repeat (first | refine blk_drewN ?_ _ | refine blk_drew ?_ | refine blk_alloc ?_ _)); exact BK382.out⟩, ⟨by (with_reducible repeat (first | refine blk_drewN ?_ _ | refine blk_drew ?_ | refine blk_alloc ?_ _)); exact BK383.out⟩, ⟨by (with_reducible repeat (first | refine blk_drewN ?_ _ | refine blk_drew ?_ | refine blk_alloc ?_ _)); exact BK384.out⟩, ⟨by repeat (first | (with_reducible first | exact HB.out | apply below_alloc | apply pw_below_drewN | apply below_drew1 | refine below_set ?_ GE382.out | refine below_set ?_ GE383.out | refine below_set ?_ GE384.out) | exact HB.out)⟩⟩
                case round =>
                  clear H'
                  try clear c1
                  try clear c2
                  try clear p2
                  try clear c3
                  try clear c4
                  try clear c5
                  try clear c6
                  try clear c7
                  try clear c8
                  try clear c9
                  try clear c10
                  try clear c11
                  try clear c12
                  try clear c13
                  try clear c14
                  try clear c15
                  try clear c18
                  try clear c19
                  try clear c20
                  try clear c21
                  try clear c22
                  try clear c26
                  try clear c29
                  try clear c30
                  try clear c32
                  try clear c32b0
                  try clear c34
                  try clear c35
                  try clear c36
                  try clear c40
                  try clear c50
                  try clear c51
                  try clear c55
                  try clear c67
                  try clear c68
                  try clear c72
                  try clear c80
                  try clear c80b0
                  try clear c82
                  try clear c83
                  try clear c84
                  try clear c88
                  try clear c95
                  try clear c96
                  try clear c100
                  try clear c109
                  try clear c110
                  try clear c114
                  try clear c119
                  try clear c122
                  try clear c124
                  try clear c126
                  try clear c127
                  try clear c129
                  try clear c138
                  try clear c139
                  try clear c141
                  try clear c147
                  try clear c148
                  try clear c150
                  try clear c153
                  try clear c155
                  try clear c155b0
                  try clear c155b1
                  try clear c158
                  try clear c159
                  try clear hcz101_0
                  try clear hcz101_1
                  try clear hcz103_0
                  try clear hcz103_1
                  try clear hcz104_0
                  try clear hcz104_1
                  try clear hcz106_0
                  try clear hcz106_1
                  try clear hcz107_0
                  try clear hcz107_1
                  try clear hcz111_0
                  try clear hcz111_1
                  try clear hcz113_0
                  try clear hcz113_1
                  try clear hcz115_0
                  try clear hcz115_1
                  try clear hcz117_0
                  try clear hcz117_1
                  try clear hcz118_0
                  try clear hcz118_1
                  try clear hcz128_0
                  try clear hcz128_1
                  try clear hcz130_0
                  try clear hcz130_1
                  try clear hcz132_0
                  try clear hcz132_1
                  try clear hcz133_0
                  try clear hcz133_1
                  try clear hcz135_0
                  try clear hcz135_1
                  try clear hcz136_0
                  try clear hcz136_1
                  try clear hcz140_0
                  try clear hcz140_1
                  try clear hcz142_0
                  try clear hcz142_1
                  try clear hcz144_0
                  try clear hcz144_1
                  try clear hcz145_0
                  try clear hcz145_1
                  try clear hcz149_0
                  try clear hcz149_1
                  try clear hcz151_0
                  try clear hcz151_1
                  try clear hcz15_0
                  try clear hcz15_1
                  try clear hcz160_0
                  try clear hcz160_1
                  try clear hcz162_0
                  try clear hcz162_1
                  try clear hcz23_0
                  try clear hcz23_1
                  try clear hcz25_0
                  try clear hcz25_1
                  try clear hcz27_0
                  try clear hcz27_1
                  try clear hcz29_0
                  try clear hcz29_1
                  try clear hcz30_0
                  try clear hcz30_1
                  try clear hcz37_0
                  try clear hcz37_1
                  try clear hcz39_0
                  try clear hcz39_1
                  try clear hcz41_0
                  try clear hcz41_1
                  try clear hcz43_0
                  try clear hcz43_1
                  try clear hcz44_0
                  try clear hcz44_1
                  try clear hcz46_0
                  try clear hcz46_1
                  try clear hcz47_0
                  try clear hcz47_1
                  try clear hcz52_0
                  try clear hcz52_1
                  try clear hcz54_0
                  try clear hcz54_1
                  try clear hcz56_0
                  try clear hcz56_1
                  try clear hcz58_0
                  try clear hcz58_1
                  try clear hcz59_0
                  try clear hcz59_1
                  try clear hcz61_0
                  try clear hcz61_1
                  try clear hcz62_0
                  try clear hcz62_1
                  try clear hcz64_0
                  try clear hcz64_1
                  try clear hcz65_0
                  try clear hcz65_1
                  try clear hcz69_0
                  try clear hcz69_1
                  try clear hcz71_0
                  try clear hcz71_1
                  try clear hcz73_0
                  try clear hcz73_1
                  try clear hcz75_0
                  try clear hcz75_1
                  try clear hcz76_0
                  try clear hcz76_1
                  try clear hcz78_0
                  try clear hcz78_1
                  try clear hcz79_0
                  try clear hcz79_1
                  try clear hcz85_0
                  try clear hcz85_1
                  try clear hcz87_0
                  try clear hcz87_1
                  try clear hcz89_0
                  try clear hcz89_1
                  try clear hcz91_0
                  try clear hcz91_1
                  try clear hcz92_0
                  try clear hcz92_1
                  try clear hcz97_0
                  try clear hcz97_1
                  try clear hcz99_0
                  try clear hcz99_1
                  try clear hfz101_0
                  try clear hfz101_1
                  try clear hfz103_0
                  try clear hfz103_1
                  try clear hfz104_0
                  try clear hfz104_1
                  try clear hfz106_0
                  try clear hfz106_1
                  try clear hfz107_0
                  try clear hfz107_1
                  try clear hfz111_0
                  try clear hfz111_1
                  try clear hfz113_0
                  try clear hfz113_1
                  try clear hfz115_0
                  try clear hfz115_1
                  try clear hfz117_0
                  try clear hfz117_1
                  try clear hfz118_0
                  try clear hfz118_1
                  try clear hfz128_0
                  try clear hfz128_1
                  try clear hfz130_0
                  try clear hfz130_1
                  try clear hfz132_0
                  try clear hfz132_1
                  try clear hfz133_0
                  try clear hfz133_1
                  try clear hfz135_0
                  try clear hfz135_1
                  try clear hfz136_0
                  try clear hfz136_1
                  try clear hfz140_0
                  try clear hfz140_1
                  try clear hfz142_0
                  try clear hfz142_1
                  try clear hfz144_0
                  try clear hfz144_1
                  try clear hfz145_0
                  try clear hfz145_1
                  try clear hfz149_0
                  try clear hfz149_1
                  try clear hfz151_0
                  try clear hfz151_1
                  try clear hfz15_0
                  try clear hfz15_1
                  try clear hfz160_0
                  try clear hfz160_1
                  try clear hfz162_0
                  try clear hfz162_1
                  try clear hfz23_0
                  try clear hfz23_1
                  try clear hfz25_0
                  try clear hfz25_1
                  try clear hfz27_0
                  try clear hfz27_1
                  try clear hfz29_0
                  try clear hfz29_1
                  try clear hfz30_0
                  try clear hfz30_1
                  try clear hfz37_0
                  try clear hfz37_1
                  try clear hfz39_0
                  try clear hfz39_1
                  try clear hfz41_0
                  try clear hfz41_1
                  try clear hfz43_0
                  try clear hfz43_1
                  try clear hfz44_0
                  try clear hfz44_1
                  try clear hfz46_0
                  try clear hfz46_1
                  try clear hfz47_0
                  try clear hfz47_1
                  try clear hfz52_0
                  try clear hfz52_1
                  try clear hfz54_0
                  try clear hfz54_1
                  try clear hfz56_0
                  try clear hfz56_1
                  try clear hfz58_0
                  try clear hfz58_1
                  try clear hfz59_0
                  try clear hfz59_1
                  try clear hfz61_0
                  try clear hfz61_1
                  try clear hfz62_0
                  try clear hfz62_1
                  try clear hfz64_0
                  try clear hfz64_1
                  try clear hfz65_0
                  try clear hfz65_1
                  try clear hfz69_0
                  try clear hfz69_1
                  try clear hfz71_0
                  try clear hfz71_1
                  try clear hfz73_0
                  try clear hfz73_1
                  try clear hfz75_0
                  try clear hfz75_1
                  try clear hfz76_0
                  try clear hfz76_1
                  try clear hfz78_0
                  try clear hfz78_1
                  try clear hfz79_0
                  try clear hfz79_1
                  try clear hfz85_0
                  try clear hfz85_1
                  try clear hfz87_0
                  try clear hfz87_1
                  try clear hfz89_0
                  try clear hfz89_1
                  try clear hfz91_0
                  try clear hfz91_1
                  try clear hfz92_0
                  try clear hfz92_1
                  try clear hfz97_0
                  try clear hfz97_1
                  try clear hfz99_0
                  try clear hfz99_1
                  try clear p2
                  obtain ⟨x16_3, x91_3, rfl, rfl, HA, HK3, HO_89, BK382, BK383, BK384, HB⟩ := hrel
                  cases gk with
                  | zero => exact absurd HA.out (by simp [medlarlaw08_SubLess.l0])
                  | succ k3 =>
                    have H := HA.out
                    clear HA
                    simp only [medlarlaw08_SubLess.l0] at H
                    by_cases c167 : x91_3 < (t396.length : Int)
                    · rw [if_pos c167] at H
                      have c167b0 : decide (x91_3 < (t396.length : Int)) = true := decide_eq_true c167
                      clear c167
                      by_cases c168 : 0 ≤ x91_3
                      · rw [if_pos c168] at H
                        have c168b0 : decide (0 ≤ x91_3) = true := decide_eq_true c168
                        clear c168
                        by_cases c169 : x91_3 < (t396.length : Int)
                        · rw [if_pos c169] at H
                          have c169b0 : decide (x91_3 < (t396.length : Int)) = true := decide_eq_true c169
                          clear c169
                          replace H := Option.bind_eq_some_iff.mp H
                          obtain ⟨⟨t408, t411⟩, A1700, H⟩ := H
                          replace H : ((leaf_Many.f k3 a0 t408).bind fun bt412 => (if t411 = 0 then (if bt412.2 = 0 then (medlarlaw08_SubLess.l0 k3 a0 t385 t403 t404 t405 (IntKind.u64.wrap (x16_3 + bt412.1)) t396 (t396.length : Int) (wrap64 (x91_3 + 1))) else (some false)) else (some false))) = some r := H
                          have A170 := Aside0.mk A1700
                          clear A1700
                          replace H := Option.bind_eq_some_iff.mp H
                          obtain ⟨⟨t412, t413⟩, A1710, H⟩ := H
                          replace H : (if t411 = 0 then (if t413 = 0 then (medlarlaw08_SubLess.l0 k3 a0 t385 t403 t404 t405 (IntKind.u64.wrap (x16_3 + t412)) t396 (t396.length : Int) (wrap64 (x91_3 + 1))) else (some false)) else (some false)) = some r := H
                          have A171 := Aside0.mk A1710
                          clear A1710
                          by_cases c172 : t411 = 0
                          · rw [if_pos c172] at H
                            have c172b0 : (t411 == 0) = true := beq_iff_eq.mpr c172
                            have c172b1 : (t411 != 0) = false := bne_eq_false_iff_eq.mpr c172
                            clear c172
                            by_cases c173 : t413 = 0
                            · rw [if_pos c173] at H
                              have c173b0 : (t413 == 0) = true := beq_iff_eq.mpr c173
                              have c173b1 : (t413 != 0) = false := bne_eq_false_iff_eq.mpr c173
                              clear c173
                              have H' := Aside0.mk H
                              clear H
                              have p406 : 0 ≤ (x91_3 : Int) := of_decide_eq_true (by first | (with_reducible assumption) | assumption)
                              have q406 : x91_3 < (t396.length : Int) := of_decide_eq_true (by first | (with_reducible assumption) | assumption)
                              obtain ⟨ad406, e406, hx406_0, hx406_1⟩ := at_T24 (Kd.R_reads' HO_89.out).2.2 x91_3 p406 q406
                              cases e406
                              replace p406 := eq_true p406
                              replace q406 := eq_true q406
                              go_wp2_with (first | ((with_reducible refine gate_dst (N := 18) rfl ?_); refine box_event ?hg (N := 18) ?hd (cs := #[.int .u64 0, .int .u64 0]) (t := 24) ?hr ?_; (case hd => rfl); (case hg => rfl); (case hr => first | (go_simp; done) | (go_simp; rfl)); intro gb407 hg w174 hbox hb; have n0_ := Aside0.mk (Kd.R_below (Kd.R_elderB (by (with_reducible repeat (first | apply Kd.R_alloc | apply Kd.R_drewN | apply Kd.R_drew)); exact HO_89.out) gb407 (Nat.le_of_eq hg.symm)) hb); have n1_ := Aside0.mk (blk_below (g := gb382) (o := .cells #[.int .u64 a1_0, .int .u64 a1_1] 24 (0, 0)) (by (with_reducible repeat (first | refine blk_drewN ?_ _ | refine blk_drew ?_ | refine blk_alloc ?_ _)); exact BK382.out) hb); have n2_ := Aside0.mk (blk_below (g := gb383) (o := .cells #[.int .u64 a2_0, .int .u64 a2_1] 24 (0, 0)) (by (with_reducible repeat (first | refine blk_drewN ?_ _ | refine blk_drew ?_ | refine blk_alloc ?_ _)); exact BK383.out) hb); have n3_ := Aside0.mk (blk_below (g := gb384) (o := .cells #[.int .u64 a3_0, .int .u64 a3_1] 24 (0, 0)) (by (with_reducible repeat (first | refine blk_drewN ?_ _ | refine blk_drew ?_ | refine blk_alloc ?_ _)); exact BK384.out) hb); have n4_ := Aside0.mk (below_step (by repeat (first | (with_reducible first | exact HB.out | apply below_alloc | apply pw_below_drewN | apply below_drew1 | refine below_set ?_ GE382.out | refine below_set ?_ GE383.out | refine below_set ?_ GE384.out) | exact HB.out)) hb); have n5_ := Aside0.mk (hbox); have n6_ := Aside0.mk ((by rw [hg]; exact (below_size (by repeat (first | (with_reducible first | exact HB.out | apply below_alloc | apply pw_below_drewN | apply below_drew1 | refine below_set ?_ GE382.out | refine below_set ?_ GE383.out | refine below_set ?_ GE384.out) | exact HB.out))) : w.heap.size ≤ gb407)); have n7_ := Aside0.mk ((by rw [hg]; exact (below_size (by repeat (first | (with_reducible first | exact HB.out | apply below_alloc | apply pw_below_drewN | apply below_drew1 | refine below_set ?_ GE382.out | refine below_set ?_ GE383.out | refine below_set ?_ GE384.out) | exact HB.out))) : w.heap.size ≤ gb407)); have n8_ := Aside0.mk ((by rw [hg]; exact Nat.ne_of_lt (blk_lt (g := gb382) (o := .cells #[.int .u64 a1_0, .int .u64 a1_1] 24 (0, 0)) (by (with_reducible repeat (first | refine blk_drewN ?_ _ | refine blk_drew ?_ | refine blk_alloc ?_ _)); exact BK382.out)) : gb382 ≠ gb407)); have n9_ := Aside0.mk ((by rw [hg]; exact Nat.ne_of_gt (blk_lt (g := gb382) (o := .cells #[.int .u64 a1_0, .int .u64 a1_1] 24 (0, 0)) (by (with_reducible repeat (first | refine blk_drewN ?_ _ | refine blk_drew ?_ | refine blk_alloc ?_ _)); exact BK382.out)) : gb407 ≠ gb382)); have n10_ := Aside0.mk ((by rw [hg]; exact Nat.ne_of_lt (blk_lt (g := gb383) (o := .cells #[.int .u64 a2_0, .int .u64 a2_1] 24 (0, 0)) (by (with_reducible repeat (first | refine blk_drewN ?_ _ | refine blk_drew ?_ | refine blk_alloc ?_ _)); exact BK383.out)) : gb383 ≠ gb407)); have n11_ := Aside0.mk ((by rw [hg]; exact Nat.ne_of_gt (blk_lt (g := gb383) (o := .cells #[.int .u64 a2_0, .int .u64 a2_1] 24 (0, 0)) (by (with_reducible repeat (first | refine blk_drewN ?_ _ | refine blk_drew ?_ | refine blk_alloc ?_ _)); exact BK383.out)) : gb407 ≠ gb383)); have n12_ := Aside0.mk ((by rw [hg]; exact Nat.ne_of_lt (blk_lt (g := gb384) (o := .cells #[.int .u64 a3_0, .int .u64 a3_1] 24 (0, 0)) (by (with_reducible repeat (first | refine blk_drewN ?_ _ | refine blk_drew ?_ | refine blk_alloc ?_ _)); exact BK384.out)) : gb384 ≠ gb407)); have n13_ := Aside0.mk ((by rw [hg]; exact Nat.ne_of_gt (blk_lt (g := gb384) (o := .cells #[.int .u64 a3_0, .int .u64 a3_1] 24 (0, 0)) (by (with_reducible repeat (first | refine blk_drewN ?_ _ | refine blk_drew ?_ | refine blk_alloc ?_ _)); exact BK384.out)) : gb407 ≠ gb384)); clear HO_89; clear BK382; clear BK383; clear BK384; clear HB; have HO_89 := n0_; have BK382 := n1_; have BK383 := n2_; have BK384 := n3_; have HB := n4_; have BK407 := n5_; have GW407 := n6_; have GE407 := n7_; have NB382_407 := n8_; have NB407_382 := n9_; have NB383_407 := n10_; have NB407_383 := n11_; have NB384_407 := n12_; have NB407_384 := n13_; clear n0_ n1_ n2_ n3_ n4_ n5_ n6_ n7_ n8_ n9_ n10_ n11_ n12_ n13_; clear hb hbox hg; have hnb175 := NB407_382.out; have hnc175 := NB382_407.out; have hnb176 := NB407_383.out; have hnc176 := NB383_407.out; have hnb177 := NB407_384.out; have hnc177 := NB384_407.out; have hcz178_0 : w174.cell? ⟨gb407, 0, none⟩ = some (.int .u64 0) := (blk_cell BK407.out 0).trans rfl; have hcz178_1 : w174.cell? ⟨gb407, 1, none⟩ = some (.int .u64 0) := (blk_cell BK407.out 1).trans rfl; have hfz178_0 := blk_frozen BK407.out 0; have hfz178_1 := blk_frozen BK407.out 1) | ((with_reducible refine gate_callee (f := 29) rfl ?_); refine goesL_ (some 98) rfl rfl Try.func29 (by kernel_rfl) rfl #[.int .i64 a0, .agg #[.int .u64 ((rd_T24 t396 x91_3).f0), .int .u64 ((rd_T24 t396 x91_3).f1)]] rfl (by (try simp only [List.map_toArray, List.map_cons, List.map_nil]); first | done | rfl | (simp only [List.length_drop, List.length_take]; rfl)) ?_; (with_reducible refine (sub_Leaves.calls k3 a0 ((rd_T24 t396 x91_3).f0) ((rd_T24 t396 x91_3).f1) t408 t411 _ A170.out).mono ?_); rintro e w179 ⟨v409, rfl, ho0, hb⟩; refine ⟨_, rfl, ?_⟩; have n0_ := Aside0.mk (Kd.R_below (by (with_reducible repeat (first | apply Kd.R_alloc | apply Kd.R_drewN | apply Kd.R_drew)); exact (Kd.R_mono (Kd.R_far (p := ⟨gb407, 1, none⟩) (Kd.R_far (p := ⟨gb407, 0, none⟩) (Kd.R_mono HO_89.out (fun k_ hk => (⟨hk, hk.2⟩ : _ ∧ k_ ≠ gb407))) (fun _ hk => hk.2) (.int .u64 ((rd_T24 t396 x91_3).f0))) (fun _ hk => hk.2) (.int .u64 ((rd_T24 t396 x91_3).f1))) (fun _ h_ => h_.1))) hb); have n1_ := Aside0.mk (Kd.R_lower ho0 (below_size (by repeat (first | (with_reducible first | exact HB.out | apply below_alloc | apply pw_below_drewN | apply below_drew1 | refine below_set ?_ GE382.out | refine below_set ?_ GE383.out | refine below_set ?_ GE384.out | refine below_set ?_ GE407.out) | exact HB.out)))); have n2_ := Aside0.mk (blk_below (g := gb382) (o := .cells #[.int .u64 a1_0, .int .u64 a1_1] 24 (0, 0)) (by (with_reducible repeat (first | refine blk_drewN ?_ _ | refine blk_drew ?_ | refine blk_alloc ?_ _)); refine blk_far ?_ NB382_407.out _; (with_reducible repeat (first | refine blk_drewN ?_ _ | refine blk_drew ?_ | refine blk_alloc ?_ _)); refine blk_far ?_ NB382_407.out _; (with_reducible repeat (first | refine blk_drewN ?_ _ | refine blk_drew ?_ | refine blk_alloc ?_ _)); exact BK382.out) hb); have n3_ := Aside0.mk (blk_below (g := gb383) (o := .cells #[.int .u64 a2_0, .int .u64 a2_1] 24 (0, 0)) (by (with_reducible repeat (first | refine blk_drewN ?_ _ | refine blk_drew ?_ | refine blk_alloc ?_ _)); refine blk_far ?_ NB383_407.out _; (with_reducible repeat (first | refine blk_drewN ?_ _ | refine blk_drew ?_ | refine blk_alloc ?_ _)); refine blk_far ?_ NB383_407.out _; (with_reducible repeat (first | refine blk_drewN ?_ _ | refine blk_drew ?_ | refine blk_alloc ?_ _)); exact BK383.out) hb); have n4_ := Aside0.mk (blk_below (g := gb384) (o := .cells #[.int .u64 a3_0, .int .u64 a3_1] 24 (0, 0)) (by (with_reducible repeat (first | refine blk_drewN ?_ _ | refine blk_drew ?_ | refine blk_alloc ?_ _)); refine blk_far ?_ NB384_407.out _; (with_reducible repeat (first | refine blk_drewN ?_ _ | refine blk_drew ?_ | refine blk_alloc ?_ _)); refine blk_far ?_ NB384_407.out _; (with_reducible repeat (first | refine blk_drewN ?_ _ | refine blk_drew ?_ | refine blk_alloc ?_ _)); exact BK384.out) hb); have n5_ := Aside0.mk (blk_below (g := gb407) (o := .cells #[.int .u64 ((rd_T24 t396 x91_3).f0), .int .u64 ((rd_T24 t396 x91_3).f1)] 24 (0, 0)) (by (with_reducible repeat (first | refine blk_drewN ?_ _ | refine blk_drew ?_ | refine blk_alloc ?_ _)); refine blk_put (cs := #[.int .u64 ((rd_T24 t396 x91_3).f0), .int .u64 0]) ?_ 1 _ rfl; (with_reducible repeat (first | refine blk_drewN ?_ _ | refine blk_drew ?_ | refine blk_alloc ?_ _)); refine blk_put (cs := #[.int .u64 0, .int .u64 0]) ?_ 0 _ rfl; (with_reducible repeat (first | refine blk_drewN ?_ _ | refine blk_drew ?_ | refine blk_alloc ?_ _)); exact BK407.out) hb); have n6_ := Aside0.mk (below_step (by repeat (first | (with_reducible first | exact HB.out | apply below_alloc | apply pw_below_drewN | apply below_drew1 | refine below_set ?_ GE382.out | refine below_set ?_ GE383.out | refine below_set ?_ GE384.out | refine below_set ?_ GE407.out) | exact HB.out)) hb); clear HO_89; clear BK382; clear BK383; clear BK384; clear BK407; clear HB; have HO_89 := n0_; have HO410 := n1_; have BK382 := n2_; have BK383 := n3_; have BK384 := n4_; have BK407 := n5_; have HB := n6_; clear n0_ n1_ n2_ n3_ n4_ n5_ n6_; (try clear hb); (try clear hb2); (try clear hk); (try clear hi); (try clear ho0); obtain ⟨Ao180, co180, eo180⟩ := Kd.R_slice HO410.out; subst eo180) | ((with_reducible refine gate_callee (f := 30) rfl ?_); refine goesL_ (some 104) rfl rfl Try.func30 (by kernel_rfl) rfl #[.int .i64 a0, .slice Ao180 t408.length co180] rfl (by (try simp only [List.map_toArray, List.map_cons, List.map_nil]); first | done | rfl | (simp only [List.length_drop, List.length_take]; rfl)) ?_; (with_reducible refine (leaf_Many.calls k3 a0 _ _ t408 t412 t413 _ ?side1 ?side2 A171.out).mono ?_); (case side1 => repeat (first | exact (Kd.R_reads' HO410.out).2.2 | (with_reducible refine Kd.C_alloc ?_ _) | (with_reducible refine Kd.C_drewN ?_ _) | (with_reducible refine Kd.C_drew ?_))); (case side2 => exact (Kd.R_reads' HO410.out).2.1); rintro e w181 ⟨rfl, hb⟩; refine ⟨_, rfl, ?_⟩; have n0_ := Aside0.mk (Kd.R_below (by (with_reducible repeat (first | apply Kd.R_alloc | apply Kd.R_drewN | apply Kd.R_drew)); exact HO_89.out) hb); have n1_ := Aside0.mk (Kd.R_below (by (with_reducible repeat (first | apply Kd.R_alloc | apply Kd.R_drewN | apply Kd.R_drew)); exact HO410.out) hb); have n2_ := Aside0.mk (blk_below (g := gb382) (o := .cells #[.int .u64 a1_0, .int .u64 a1_1] 24 (0, 0)) (by (with_reducible repeat (first | refine blk_drewN ?_ _ | refine blk_drew ?_ | refine blk_alloc ?_ _)); exact BK382.out) hb); have n3_ := Aside0.mk (blk_below (g := gb383) (o := .cells #[.int .u64 a2_0, .int .u64 a2_1] 24 (0, 0)) (by (with_reducible repeat (first | refine blk_drewN ?_ _ | refine blk_drew ?_ | refine blk_alloc ?_ _)); exact BK383.out) hb); have n4_ := Aside0.mk (blk_below (g := gb384) (o := .cells #[.int .u64 a3_0, .int .u64 a3_1] 24 (0, 0)) (by (with_reducible repeat (first | refine blk_drewN ?_ _ | refine blk_drew ?_ | refine blk_alloc ?_ _)); exact BK384.out) hb); have n5_ := Aside0.mk (blk_below (g := gb407) (o := .cells #[.int .u64 ((rd_T24 t396 x91_3).f0), .int .u64 ((rd_T24 t396 x91_3).f1)] 24 (0, 0)) (by (with_reducible repeat (first | refine blk_drewN ?_ _ | refine blk_drew ?_ | refine blk_alloc ?_ _)); exact BK407.out) hb); have n6_ := Aside0.mk (below_step (by repeat (first | (with_reducible first | exact HB.out | apply below_alloc | apply pw_below_drewN | apply below_drew1 | refine below_set ?_ GE382.out | refine below_set ?_ GE383.out | refine below_set ?_ GE384.out | refine below_set ?_ GE407.out) | exact HB.out)) hb); clear HO_89; clear HO410; clear BK382; clear BK383; clear BK384; clear BK407; clear HB; have HO_89 := n0_; have HO410 := n1_; have BK382 := n2_; have BK383 := n3_; have BK384 := n4_; have BK407 := n5_; have HB := n6_; clear n0_ n1_ n2_ n3_ n4_ n5_ n6_; (try clear hb); (try clear hb2); (try clear hk); (try clear hi)))
                              go_roundg k3
                              case measure => have := HJ5.out; have := HJ119.out; have := HK3.out; omega
                              case rel => exact ⟨(IntKind.u64.wrap (x16_3 + t412)), (wrap64 (x91_3 + 1)), (by first | rfl | (simp; done) | (simp [*]; done)), (by first | rfl | (simp; done) | (simp [*]; done)), H', ⟨by have := HJ5.out; have := HJ119.out; have := HK3.out; omega⟩, ⟨by (with_reducible repeat (first | apply Kd.R_alloc | apply Kd.R_drewN | apply Kd.R_drew)); exact Kd.R_mono HO_89.out (fun _ hk => ⟨hk.1.1, ⟨hk.1.2.1, hk.1.2.2⟩⟩)⟩, ⟨by (with_reducible repeat (first | refine blk_drewN ?_ _ | refine blk_drew ?_ | refine blk_alloc ?_ _)); exact BK382.out⟩, ⟨by (with_reducible repeat (first | refine blk_drewN ?_ _ | refine blk_drew ?_ | refine blk_alloc ?_ _)); exact BK383.out⟩, ⟨by (with_reducible repeat (first | refine blk_drewN ?_ _ | refine blk_drew ?_ | refine blk_alloc ?_ _)); exact BK384.out⟩, ⟨by repeat (first | (with_reducible first | exact HB.out | apply below_alloc | apply pw_below_drewN | apply below_drew1 | refine below_set ?_ GE382.out | refine below_set ?_ GE383.out | refine below_set ?_ GE384.out | refine below_set ?_ GE407.out) | exact HB.out)⟩⟩
                            · rw [if_neg c173] at H
                              have c173b0 : (t413 == 0) = false := beq_eq_false_iff_ne.mpr c173
                              have c173b1 : (t413 != 0) = true := bne_iff_ne.mpr c173
                              obtain rfl := Option.some.inj H
                              have p406 : 0 ≤ (x91_3 : Int) := of_decide_eq_true (by first | (with_reducible assumption) | assumption)
                              have q406 : x91_3 < (t396.length : Int) := of_decide_eq_true (by first | (with_reducible assumption) | assumption)
                              obtain ⟨ad406, e406, hx406_0, hx406_1⟩ := at_T24 (Kd.R_reads' HO_89.out).2.2 x91_3 p406 q406
                              cases e406
                              replace p406 := eq_true p406
                              replace q406 := eq_true q406
                              go_wp2_with (first | ((with_reducible refine gate_dst (N := 18) rfl ?_); refine box_event ?hg (N := 18) ?hd (cs := #[.int .u64 0, .int .u64 0]) (t := 24) ?hr ?_; (case hd => rfl); (case hg => rfl); (case hr => first | (go_simp; done) | (go_simp; rfl)); intro gb407 hg w182 hbox hb; have n0_ := Aside0.mk (Kd.R_below (Kd.R_elderB (by (with_reducible repeat (first | apply Kd.R_alloc | apply Kd.R_drewN | apply Kd.R_drew)); exact HO_89.out) gb407 (Nat.le_of_eq hg.symm)) hb); have n1_ := Aside0.mk (blk_below (g := gb382) (o := .cells #[.int .u64 a1_0, .int .u64 a1_1] 24 (0, 0)) (by (with_reducible repeat (first | refine blk_drewN ?_ _ | refine blk_drew ?_ | refine blk_alloc ?_ _)); exact BK382.out) hb); have n2_ := Aside0.mk (blk_below (g := gb383) (o := .cells #[.int .u64 a2_0, .int .u64 a2_1] 24 (0, 0)) (by (with_reducible repeat (first | refine blk_drewN ?_ _ | refine blk_drew ?_ | refine blk_alloc ?_ _)); exact BK383.out) hb); have n3_ := Aside0.mk (blk_below (g := gb384) (o := .cells #[.int .u64 a3_0, .int .u64 a3_1] 24 (0, 0)) (by (with_reducible repeat (first | refine blk_drewN ?_ _ | refine blk_drew ?_ | refine blk_alloc ?_ _)); exact BK384.out) hb); have n4_ := Aside0.mk (below_step (by repeat (first | (with_reducible first | exact HB.out | apply below_alloc | apply pw_below_drewN | apply below_drew1 | refine below_set ?_ GE382.out | refine below_set ?_ GE383.out | refine below_set ?_ GE384.out) | exact HB.out)) hb); have n5_ := Aside0.mk (hbox); have n6_ := Aside0.mk ((by rw [hg]; exact (below_size (by repeat (first | (with_reducible first | exact HB.out | apply below_alloc | apply pw_below_drewN | apply below_drew1 | refine below_set ?_ GE382.out | refine below_set ?_ GE383.out | refine below_set ?_ GE384.out) | exact HB.out))) : w.heap.size ≤ gb407)); have n7_ := Aside0.mk ((by rw [hg]; exact (below_size (by repeat (first | (with_reducible first | exact HB.out | apply below_alloc | apply pw_below_drewN | apply below_drew1 | refine below_set ?_ GE382.out | refine below_set ?_ GE383.out | refine below_set ?_ GE384.out) | exact HB.out))) : w.heap.size ≤ gb407)); have n8_ := Aside0.mk ((by rw [hg]; exact Nat.ne_of_lt (blk_lt (g := gb382) (o := .cells #[.int .u64 a1_0, .int .u64 a1_1] 24 (0, 0)) (by (with_reducible repeat (first | refine blk_drewN ?_ _ | refine blk_drew ?_ | refine blk_alloc ?_ _)); exact BK382.out)) : gb382 ≠ gb407)); have n9_ := Aside0.mk ((by rw [hg]; exact Nat.ne_of_gt (blk_lt (g := gb382) (o := .cells #[.int .u64 a1_0, .int .u64 a1_1] 24 (0, 0)) (by (with_reducible repeat (first | refine blk_drewN ?_ _ | refine blk_drew ?_ | refine blk_alloc ?_ _)); exact BK382.out)) : gb407 ≠ gb382)); have n10_ := Aside0.mk ((by rw [hg]; exact Nat.ne_of_lt (blk_lt (g := gb383) (o := .cells #[.int .u64 a2_0, .int .u64 a2_1] 24 (0, 0)) (by (with_reducible repeat (first | refine blk_drewN ?_ _ | refine blk_drew ?_ | refine blk_alloc ?_ _)); exact BK383.out)) : gb383 ≠ gb407)); have n11_ := Aside0.mk ((by rw [hg]; exact Nat.ne_of_gt (blk_lt (g := gb383) (o := .cells #[.int .u64 a2_0, .int .u64 a2_1] 24 (0, 0)) (by (with_reducible repeat (first | refine blk_drewN ?_ _ | refine blk_drew ?_ | refine blk_alloc ?_ _)); exact BK383.out)) : gb407 ≠ gb383)); have n12_ := Aside0.mk ((by rw [hg]; exact Nat.ne_of_lt (blk_lt (g := gb384) (o := .cells #[.int .u64 a3_0, .int .u64 a3_1] 24 (0, 0)) (by (with_reducible repeat (first | refine blk_drewN ?_ _ | refine blk_drew ?_ | refine blk_alloc ?_ _)); exact BK384.out)) : gb384 ≠ gb407)); have n13_ := Aside0.mk ((by rw [hg]; exact Nat.ne_of_gt (blk_lt (g := gb384) (o := .cells #[.int .u64 a3_0, .int .u64 a3_1] 24 (0, 0)) (by (with_reducible repeat (first | refine blk_drewN ?_ _ | refine blk_drew ?_ | refine blk_alloc ?_ _)); exact BK384.out)) : gb407 ≠ gb384)); clear HO_89; clear BK382; clear BK383; clear BK384; clear HB; have HO_89 := n0_; have BK382 := n1_; have BK383 := n2_; have BK384 := n3_; have HB := n4_; have BK407 := n5_; have GW407 := n6_; have GE407 := n7_; have NB382_407 := n8_; have NB407_382 := n9_; have NB383_407 := n10_; have NB407_383 := n11_; have NB384_407 := n12_; have NB407_384 := n13_; clear n0_ n1_ n2_ n3_ n4_ n5_ n6_ n7_ n8_ n9_ n10_ n11_ n12_ n13_; clear hb hbox hg; have hnb183 := NB407_382.out; have hnc183 := NB382_407.out; have hnb184 := NB407_383.out; have hnc184 := NB383_407.out; have hnb185 := NB407_384.out; have hnc185 := NB384_407.out; have hcz186_0 : w182.cell? ⟨gb407, 0, none⟩ = some (.int .u64 0) := (blk_cell BK407.out 0).trans rfl; have hcz186_1 : w182.cell? ⟨gb407, 1, none⟩ = some (.int .u64 0) := (blk_cell BK407.out 1).trans rfl; have hfz186_0 := blk_frozen BK407.out 0; have hfz186_1 := blk_frozen BK407.out 1) | ((with_reducible refine gate_callee (f := 29) rfl ?_); refine goesL_ (some 98) rfl rfl Try.func29 (by kernel_rfl) rfl #[.int .i64 a0, .agg #[.int .u64 ((rd_T24 t396 x91_3).f0), .int .u64 ((rd_T24 t396 x91_3).f1)]] rfl (by (try simp only [List.map_toArray, List.map_cons, List.map_nil]); first | done | rfl | (simp only [List.length_drop, List.length_take]; rfl)) ?_; (with_reducible refine (sub_Leaves.calls k3 a0 ((rd_T24 t396 x91_3).f0) ((rd_T24 t396 x91_3).f1) t408 t411 _ A170.out).mono ?_); rintro e w187 ⟨v409, rfl, ho0, hb⟩; refine ⟨_, rfl, ?_⟩; have n0_ := Aside0.mk (Kd.R_below (by (with_reducible repeat (first | apply Kd.R_alloc | apply Kd.R_drewN | apply Kd.R_drew)); exact (Kd.R_mono (Kd.R_far (p := ⟨gb407, 1, none⟩) (Kd.R_far (p := ⟨gb407, 0, none⟩) (Kd.R_mono HO_89.out (fun k_ hk => (⟨hk, hk.2⟩ : _ ∧ k_ ≠ gb407))) (fun _ hk => hk.2) (.int .u64 ((rd_T24 t396 x91_3).f0))) (fun _ hk => hk.2) (.int .u64 ((rd_T24 t396 x91_3).f1))) (fun _ h_ => h_.1))) hb); have n1_ := Aside0.mk (Kd.R_lower ho0 (below_size (by repeat (first | (with_reducible first | exact HB.out | apply below_alloc | apply pw_below_drewN | apply below_drew1 | refine below_set ?_ GE382.out | refine below_set ?_ GE383.out | refine below_set ?_ GE384.out | refine below_set ?_ GE407.out) | exact HB.out)))); have n2_ := Aside0.mk (blk_below (g := gb382) (o := .cells #[.int .u64 a1_0, .int .u64 a1_1] 24 (0, 0)) (by (with_reducible repeat (first | refine blk_drewN ?_ _ | refine blk_drew ?_ | refine blk_alloc ?_ _)); refine blk_far ?_ NB382_407.out _; (with_reducible repeat (first | refine blk_drewN ?_ _ | refine blk_drew ?_ | refine blk_alloc ?_ _)); refine blk_far ?_ NB382_407.out _; (with_reducible repeat (first | refine blk_drewN ?_ _ | refine blk_drew ?_ | refine blk_alloc ?_ _)); exact BK382.out) hb); have n3_ := Aside0.mk (blk_below (g := gb383) (o := .cells #[.int .u64 a2_0, .int .u64 a2_1] 24 (0, 0)) (by (with_reducible repeat (first | refine blk_drewN ?_ _ | refine blk_drew ?_ | refine blk_alloc ?_ _)); refine blk_far ?_ NB383_407.out _; (with_reducible repeat (first | refine blk_drewN ?_ _ | refine blk_drew ?_ | refine blk_alloc ?_ _)); refine blk_far ?_ NB383_407.out _; (with_reducible repeat (first | refine blk_drewN ?_ _ | refine blk_drew ?_ | refine blk_alloc ?_ _)); exact BK383.out) hb); have n4_ := Aside0.mk (blk_below (g := gb384) (o := .cells #[.int .u64 a3_0, .int .u64 a3_1] 24 (0, 0)) (by (with_reducible repeat (first | refine blk_drewN ?_ _ | refine blk_drew ?_ | refine blk_alloc ?_ _)); refine blk_far ?_ NB384_407.out _; (with_reducible repeat (first | refine blk_drewN ?_ _ | refine blk_drew ?_ | refine blk_alloc ?_ _)); refine blk_far ?_ NB384_407.out _; (with_reducible repeat (first | refine blk_drewN ?_ _ | refine blk_drew ?_ | refine blk_alloc ?_ _)); exact BK384.out) hb); have n5_ := Aside0.mk (blk_below (g := gb407) (o := .cells #[.int .u64 ((rd_T24 t396 x91_3).f0), .int .u64 ((rd_T24 t396 x91_3).f1)] 24 (0, 0)) (by (with_reducible repeat (first | refine blk_drewN ?_ _ | refine blk_drew ?_ | refine blk_alloc ?_ _)); refine blk_put (cs := #[.int .u64 ((rd_T24 t396 x91_3).f0), .int .u64 0]) ?_ 1 _ rfl; (with_reducible repeat (first | refine blk_drewN ?_ _ | refine blk_drew ?_ | refine blk_alloc ?_ _)); refine blk_put (cs := #[.int .u64 0, .int .u64 0]) ?_ 0 _ rfl; (with_reducible repeat (first | refine blk_drewN ?_ _ | refine blk_drew ?_ | refine blk_alloc ?_ _)); exact BK407.out) hb); have n6_ := Aside0.mk (below_step (by repeat (first | (with_reducible first | exact HB.out | apply below_alloc | apply pw_below_drewN | apply below_drew1 | refine below_set ?_ GE382.out | refine below_set ?_ GE383.out | refine below_set ?_ GE384.out | refine below_set ?_ GE407.out) | exact HB.out)) hb); clear HO_89; clear BK382; clear BK383; clear BK384; clear BK407; clear HB; have HO_89 := n0_; have HO410 := n1_; have BK382 := n2_; have BK383 := n3_; have BK384 := n4_; have BK407 := n5_; have HB := n6_; clear n0_ n1_ n2_ n3_ n4_ n5_ n6_; (try clear hb); (try clear hb2); (try clear hk); (try clear hi); (try clear ho0); obtain ⟨Ao188, co188, eo188⟩ := Kd.R_slice HO410.out; subst eo188) | ((with_reducible refine gate_callee (f := 30) rfl ?_); refine goesL_ (some 104) rfl rfl Try.func30 (by kernel_rfl) rfl #[.int .i64 a0, .slice Ao188 t408.length co188] rfl (by (try simp only [List.map_toArray, List.map_cons, List.map_nil]); first | done | rfl | (simp only [List.length_drop, List.length_take]; rfl)) ?_; (with_reducible refine (leaf_Many.calls k3 a0 _ _ t408 t412 t413 _ ?side1 ?side2 A171.out).mono ?_); (case side1 => repeat (first | exact (Kd.R_reads' HO410.out).2.2 | (with_reducible refine Kd.C_alloc ?_ _) | (with_reducible refine Kd.C_drewN ?_ _) | (with_reducible refine Kd.C_drew ?_))); (case side2 => exact (Kd.R_reads' HO410.out).2.1); rintro e w189 ⟨rfl, hb⟩; refine ⟨_, rfl, ?_⟩; have n0_ := Aside0.mk (Kd.R_below (by (with_reducible repeat (first | apply Kd.R_alloc | apply Kd.R_drewN | apply Kd.R_drew)); exact HO_89.out) hb); have n1_ := Aside0.mk (Kd.R_below (by (with_reducible repeat (first | apply Kd.R_alloc | apply Kd.R_drewN | apply Kd.R_drew)); exact HO410.out) hb); have n2_ := Aside0.mk (blk_below (g := gb382) (o := .cells #[.int .u64 a1_0, .int .u64 a1_1] 24 (0, 0)) (by (with_reducible repeat (first | refine blk_drewN ?_ _ | refine blk_drew ?_ | refine blk_alloc ?_ _)); exact BK382.out) hb); have n3_ := Aside0.mk (blk_below (g := gb383) (o := .cells #[.int .u64 a2_0, .int .u64 a2_1] 24 (0, 0)) (by (with_reducible repeat (first | refine blk_drewN ?_ _ | refine blk_drew ?_ | refine blk_alloc ?_ _)); exact BK383.out) hb); have n4_ := Aside0.mk (blk_below (g := gb384) (o := .cells #[.int .u64 a3_0, .int .u64 a3_1] 24 (0, 0)) (by (with_reducible repeat (first | refine blk_drewN ?_ _ | refine blk_drew ?_ | refine blk_alloc ?_ _)); exact BK384.out) hb); have n5_ := Aside0.mk (blk_below (g := gb407) (o := .cells #[.int .u64 ((rd_T24 t396 x91_3).f0), .int .u64 ((rd_T24 t396 x91_3).f1)] 24 (0, 0)) (by (with_reducible repeat (first | refine blk_drewN ?_ _ | refine blk_drew ?_ | refine blk_alloc ?_ _)); exact BK407.out) hb); have n6_ := Aside0.mk (below_step (by repeat (first | (with_reducible first | exact HB.out | apply below_alloc | apply pw_below_drewN | apply below_drew1 | refine below_set ?_ GE382.out | refine below_set ?_ GE383.out | refine below_set ?_ GE384.out | refine below_set ?_ GE407.out) | exact HB.out)) hb); clear HO_89; clear HO410; clear BK382; clear BK383; clear BK384; clear BK407; clear HB; have HO_89 := n0_; have HO410 := n1_; have BK382 := n2_; have BK383 := n3_; have BK384 := n4_; have BK407 := n5_; have HB := n6_; clear n0_ n1_ n2_ n3_ n4_ n5_ n6_; (try clear hb); (try clear hb2); (try clear hk); (try clear hi)))
                              go_ret
                              exact ⟨by first | rfl | (simp [errW_none, errW_some] <;> rfl) | (simp [*, errW_none, errW_some] <;> rfl), by repeat (first | (with_reducible first | exact HB.out | apply below_alloc | apply pw_below_drewN | apply below_drew1 | refine below_set ?_ GE382.out | refine below_set ?_ GE383.out | refine below_set ?_ GE384.out | refine below_set ?_ GE407.out) | exact HB.out)⟩
                          · rw [if_neg c172] at H
                            have c172b0 : (t411 == 0) = false := beq_eq_false_iff_ne.mpr c172
                            have c172b1 : (t411 != 0) = true := bne_iff_ne.mpr c172
                            obtain rfl := Option.some.inj H
                            have p406 : 0 ≤ (x91_3 : Int) := of_decide_eq_true (by first | (with_reducible assumption) | assumption)
                            have q406 : x91_3 < (t396.length : Int) := of_decide_eq_true (by first | (with_reducible assumption) | assumption)
                            obtain ⟨ad406, e406, hx406_0, hx406_1⟩ := at_T24 (Kd.R_reads' HO_89.out).2.2 x91_3 p406 q406
                            cases e406
                            replace p406 := eq_true p406
                            replace q406 := eq_true q406
                            go_wp2_with (first | ((with_reducible refine gate_dst (N := 18) rfl ?_); refine box_event ?hg (N := 18) ?hd (cs := #[.int .u64 0, .int .u64 0]) (t := 24) ?hr ?_; (case hd => rfl); (case hg => rfl); (case hr => first | (go_simp; done) | (go_simp; rfl)); intro gb407 hg w190 hbox hb; have n0_ := Aside0.mk (Kd.R_below (Kd.R_elderB (by (with_reducible repeat (first | apply Kd.R_alloc | apply Kd.R_drewN | apply Kd.R_drew)); exact HO_89.out) gb407 (Nat.le_of_eq hg.symm)) hb); have n1_ := Aside0.mk (blk_below (g := gb382) (o := .cells #[.int .u64 a1_0, .int .u64 a1_1] 24 (0, 0)) (by (with_reducible repeat (first | refine blk_drewN ?_ _ | refine blk_drew ?_ | refine blk_alloc ?_ _)); exact BK382.out) hb); have n2_ := Aside0.mk (blk_below (g := gb383) (o := .cells #[.int .u64 a2_0, .int .u64 a2_1] 24 (0, 0)) (by (with_reducible repeat (first | refine blk_drewN ?_ _ | refine blk_drew ?_ | refine blk_alloc ?_ _)); exact BK383.out) hb); have n3_ := Aside0.mk (blk_below (g := gb384) (o := .cells #[.int .u64 a3_0, .int .u64 a3_1] 24 (0, 0)) (by (with_reducible repeat (first | refine blk_drewN ?_ _ | refine blk_drew ?_ | refine blk_alloc ?_ _)); exact BK384.out) hb); have n4_ := Aside0.mk (below_step (by repeat (first | (with_reducible first | exact HB.out | apply below_alloc | apply pw_below_drewN | apply below_drew1 | refine below_set ?_ GE382.out | refine below_set ?_ GE383.out | refine below_set ?_ GE384.out) | exact HB.out)) hb); have n5_ := Aside0.mk (hbox); have n6_ := Aside0.mk ((by rw [hg]; exact (below_size (by repeat (first | (with_reducible first | exact HB.out | apply below_alloc | apply pw_below_drewN | apply below_drew1 | refine below_set ?_ GE382.out | refine below_set ?_ GE383.out | refine below_set ?_ GE384.out) | exact HB.out))) : w.heap.size ≤ gb407)); have n7_ := Aside0.mk ((by rw [hg]; exact (below_size (by repeat (first | (with_reducible first | exact HB.out | apply below_alloc | apply pw_below_drewN | apply below_drew1 | refine below_set ?_ GE382.out | refine below_set ?_ GE383.out | refine below_set ?_ GE384.out) | exact HB.out))) : w.heap.size ≤ gb407)); have n8_ := Aside0.mk ((by rw [hg]; exact Nat.ne_of_lt (blk_lt (g := gb382) (o := .cells #[.int .u64 a1_0, .int .u64 a1_1] 24 (0, 0)) (by (with_reducible repeat (first | refine blk_drewN ?_ _ | refine blk_drew ?_ | refine blk_alloc ?_ _)); exact BK382.out)) : gb382 ≠ gb407)); have n9_ := Aside0.mk ((by rw [hg]; exact Nat.ne_of_gt (blk_lt (g := gb382) (o := .cells #[.int .u64 a1_0, .int .u64 a1_1] 24 (0, 0)) (by (with_reducible repeat (first | refine blk_drewN ?_ _ | refine blk_drew ?_ | refine blk_alloc ?_ _)); exact BK382.out)) : gb407 ≠ gb382)); have n10_ := Aside0.mk ((by rw [hg]; exact Nat.ne_of_lt (blk_lt (g := gb383) (o := .cells #[.int .u64 a2_0, .int .u64 a2_1] 24 (0, 0)) (by (with_reducible repeat (first | refine blk_drewN ?_ _ | refine blk_drew ?_ | refine blk_alloc ?_ _)); exact BK383.out)) : gb383 ≠ gb407)); have n11_ := Aside0.mk ((by rw [hg]; exact Nat.ne_of_gt (blk_lt (g := gb383) (o := .cells #[.int .u64 a2_0, .int .u64 a2_1] 24 (0, 0)) (by (with_reducible repeat (first | refine blk_drewN ?_ _ | refine blk_drew ?_ | refine blk_alloc ?_ _)); exact BK383.out)) : gb407 ≠ gb383)); have n12_ := Aside0.mk ((by rw [hg]; exact Nat.ne_of_lt (blk_lt (g := gb384) (o := .cells #[.int .u64 a3_0, .int .u64 a3_1] 24 (0, 0)) (by (with_reducible repeat (first | refine blk_drewN ?_ _ | refine blk_drew ?_ | refine blk_alloc ?_ _)); exact BK384.out)) : gb384 ≠ gb407)); have n13_ := Aside0.mk ((by rw [hg]; exact Nat.ne_of_gt (blk_lt (g := gb384) (o := .cells #[.int .u64 a3_0, .int .u64 a3_1] 24 (0, 0)) (by (with_reducible repeat (first | refine blk_drewN ?_ _ | refine blk_drew ?_ | refine blk_alloc ?_ _)); exact BK384.out)) : gb407 ≠ gb384)); clear HO_89; clear BK382; clear BK383; clear BK384; clear HB; have HO_89 := n0_; have BK382 := n1_; have BK383 := n2_; have BK384 := n3_; have HB := n4_; have BK407 := n5_; have GW407 := n6_; have GE407 := n7_; have NB382_407 := n8_; have NB407_382 := n9_; have NB383_407 := n10_; have NB407_383 := n11_; have NB384_407 := n12_; have NB407_384 := n13_; clear n0_ n1_ n2_ n3_ n4_ n5_ n6_ n7_ n8_ n9_ n10_ n11_ n12_ n13_; clear hb hbox hg; have hnb191 := NB407_382.out; have hnc191 := NB382_407.out; have hnb192 := NB407_383.out; have hnc192 := NB383_407.out; have hnb193 := NB407_384.out; have hnc193 := NB384_407.out; have hcz194_0 : w190.cell? ⟨gb407, 0, none⟩ = some (.int .u64 0) := (blk_cell BK407.out 0).trans rfl; have hcz194_1 : w190.cell? ⟨gb407, 1, none⟩ = some (.int .u64 0) := (blk_cell BK407.out 1).trans rfl; have hfz194_0 := blk_frozen BK407.out 0; have hfz194_1 := blk_frozen BK407.out 1) | ((with_reducible refine gate_callee (f := 29) rfl ?_); refine goesL_ (some 98) rfl rfl Try.func29 (by kernel_rfl) rfl #[.int .i64 a0, .agg #[.int .u64 ((rd_T24 t396 x91_3).f0), .int .u64 ((rd_T24 t396 x91_3).f1)]] rfl (by (try simp only [List.map_toArray, List.map_cons, List.map_nil]); first | done | rfl | (simp only [List.length_drop, List.length_take]; rfl)) ?_; (with_reducible refine (sub_Leaves.calls k3 a0 ((rd_T24 t396 x91_3).f0) ((rd_T24 t396 x91_3).f1) t408 t411 _ A170.out).mono ?_); rintro e w195 ⟨v409, rfl, ho0, hb⟩; refine ⟨_, rfl, ?_⟩; have n0_ := Aside0.mk (Kd.R_below (by (with_reducible repeat (first | apply Kd.R_alloc | apply Kd.R_drewN | apply Kd.R_drew)); exact (Kd.R_mono (Kd.R_far (p := ⟨gb407, 1, none⟩) (Kd.R_far (p := ⟨gb407, 0, none⟩) (Kd.R_mono HO_89.out (fun k_ hk => (⟨hk, hk.2⟩ : _ ∧ k_ ≠ gb407))) (fun _ hk => hk.2) (.int .u64 ((rd_T24 t396 x91_3).f0))) (fun _ hk => hk.2) (.int .u64 ((rd_T24 t396 x91_3).f1))) (fun _ h_ => h_.1))) hb); have n1_ := Aside0.mk (Kd.R_lower ho0 (below_size (by repeat (first | (with_reducible first | exact HB.out | apply below_alloc | apply pw_below_drewN | apply below_drew1 | refine below_set ?_ GE382.out | refine below_set ?_ GE383.out | refine below_set ?_ GE384.out | refine below_set ?_ GE407.out) | exact HB.out)))); have n2_ := Aside0.mk (blk_below (g := gb382) (o := .cells #[.int .u64 a1_0, .int .u64 a1_1] 24 (0, 0)) (by (with_reducible repeat (first | refine blk_drewN ?_ _ | refine blk_drew ?_ | refine blk_alloc ?_ _)); refine blk_far ?_ NB382_407.out _; (with_reducible repeat (first | refine blk_drewN ?_ _ | refine blk_drew ?_ | refine blk_alloc ?_ _)); refine blk_far ?_ NB382_407.out _; (with_reducible repeat (first | refine blk_drewN ?_ _ | refine blk_drew ?_ | refine blk_alloc ?_ _)); exact BK382.out) hb); have n3_ := Aside0.mk (blk_below (g := gb383) (o := .cells #[.int .u64 a2_0, .int .u64 a2_1] 24 (0, 0)) (by (with_reducible repeat (first | refine blk_drewN ?_ _ | refine blk_drew ?_ | refine blk_alloc ?_ _)); refine blk_far ?_ NB383_407.out _; (with_reducible repeat (first | refine blk_drewN ?_ _ | refine blk_drew ?_ | refine blk_alloc ?_ _)); refine blk_far ?_ NB383_407.out _; (with_reducible repeat (first | refine blk_drewN ?_ _ | refine blk_drew ?_ | refine blk_alloc ?_ _)); exact BK383.out) hb); have n4_ := Aside0.mk (blk_below (g := gb384) (o := .cells #[.int .u64 a3_0, .int .u64 a3_1] 24 (0, 0)) (by (with_reducible repeat (first | refine blk_drewN ?_ _ | refine blk_drew ?_ | refine blk_alloc ?_ _)); refine blk_far ?_ NB384_407.out _; (with_reducible repeat (first | refine blk_drewN ?_ _ | refine blk_drew ?_ | refine blk_alloc ?_ _)); refine blk_far ?_ NB384_407.out _; (with_reducible repeat (first | refine blk_drewN ?_ _ | refine blk_drew ?_ | refine blk_alloc ?_ _)); exact BK384.out) hb); have n5_ := Aside0.mk (blk_below (g := gb407) (o := .cells #[.int .u64 ((rd_T24 t396 x91_3).f0), .int .u64 ((rd_T24 t396 x91_3).f1)] 24 (0, 0)) (by (with_reducible repeat (first | refine blk_drewN ?_ _ | refine blk_drew ?_ | refine blk_alloc ?_ _)); refine blk_put (cs := #[.int .u64 ((rd_T24 t396 x91_3).f0), .int .u64 0]) ?_ 1 _ rfl; (with_reducible repeat (first | refine blk_drewN ?_ _ | refine blk_drew ?_ | refine blk_alloc ?_ _)); refine blk_put (cs := #[.int .u64 0, .int .u64 0]) ?_ 0 _ rfl; (with_reducible repeat (first | refine blk_drewN ?_ _ | refine blk_drew ?_ | refine blk_alloc ?_ _)); exact BK407.out) hb); have n6_ := Aside0.mk (below_step (by repeat (first | (with_reducible first | exact HB.out | apply below_alloc | apply pw_below_drewN | apply below_drew1 | refine below_set ?_ GE382.out | refine below_set ?_ GE383.out | refine below_set ?_ GE384.out | refine below_set ?_ GE407.out) | exact HB.out)) hb); clear HO_89; clear BK382; clear BK383; clear BK384; clear BK407; clear HB; have HO_89 := n0_; have HO410 := n1_; have BK382 := n2_; have BK383 := n3_; have BK384 := n4_; have BK407 := n5_; have HB := n6_; clear n0_ n1_ n2_ n3_ n4_ n5_ n6_; (try clear hb); (try clear hb2); (try clear hk); (try clear hi); (try clear ho0); obtain ⟨Ao196, co196, eo196⟩ := Kd.R_slice HO410.out; subst eo196) | ((with_reducible refine gate_callee (f := 30) rfl ?_); refine goesL_ (some 104) rfl rfl Try.func30 (by kernel_rfl) rfl #[.int .i64 a0, .slice Ao196 t408.length co196] rfl (by (try simp only [List.map_toArray, List.map_cons, List.map_nil]); first | done | rfl | (simp only [List.length_drop, List.length_take]; rfl)) ?_; (with_reducible refine (leaf_Many.calls k3 a0 _ _ t408 t412 t413 _ ?side1 ?side2 A171.out).mono ?_); (case side1 => repeat (first | exact (Kd.R_reads' HO410.out).2.2 | (with_reducible refine Kd.C_alloc ?_ _) | (with_reducible refine Kd.C_drewN ?_ _) | (with_reducible refine Kd.C_drew ?_))); (case side2 => exact (Kd.R_reads' HO410.out).2.1); rintro e w197 ⟨rfl, hb⟩; refine ⟨_, rfl, ?_⟩; have n0_ := Aside0.mk (Kd.R_below (by (with_reducible repeat (first | apply Kd.R_alloc | apply Kd.R_drewN | apply Kd.R_drew)); exact HO_89.out) hb); have n1_ := Aside0.mk (Kd.R_below (by (with_reducible repeat (first | apply Kd.R_alloc | apply Kd.R_drewN | apply Kd.R_drew)); exact HO410.out) hb); have n2_ := Aside0.mk (blk_below (g := gb382) (o := .cells #[.int .u64 a1_0, .int .u64 a1_1] 24 (0, 0)) (by (with_reducible repeat (first | refine blk_drewN ?_ _ | refine blk_drew ?_ | refine blk_alloc ?_ _)); exact BK382.out) hb); have n3_ := Aside0.mk (blk_below (g := gb383) (o := .cells #[.int .u64 a2_0, .int .u64 a2_1] 24 (0, 0)) (by (with_reducible repeat (first | refine blk_drewN ?_ _ | refine blk_drew ?_ | refine blk_alloc ?_ _)); exact BK383.out) hb); have n4_ := Aside0.mk (blk_below (g := gb384) (o := .cells #[.int .u64 a3_0, .int .u64 a3_1] 24 (0, 0)) (by (with_reducible repeat (first | refine blk_drewN ?_ _ | refine blk_drew ?_ | refine blk_alloc ?_ _)); exact BK384.out) hb); have n5_ := Aside0.mk (blk_below (g := gb407) (o := .cells #[.int .u64 ((rd_T24 t396 x91_3).f0), .int .u64 ((rd_T24 t396 x91_3).f1)] 24 (0, 0)) (by (with_reducible repeat (first | refine blk_drewN ?_ _ | refine blk_drew ?_ | refine blk_alloc ?_ _)); exact BK407.out) hb); have n6_ := Aside0.mk (below_step (by repeat (first | (with_reducible first | exact HB.out | apply below_alloc | apply pw_below_drewN | apply below_drew1 | refine below_set ?_ GE382.out | refine below_set ?_ GE383.out | refine below_set ?_ GE384.out | refine below_set ?_ GE407.out) | exact HB.out)) hb); clear HO_89; clear HO410; clear BK382; clear BK383; clear BK384; clear BK407; clear HB; have HO_89 := n0_; have HO410 := n1_; have BK382 := n2_; have BK383 := n3_; have BK384 := n4_; have BK407 := n5_; have HB := n6_; clear n0_ n1_ n2_ n3_ n4_ n5_ n6_; (try clear hb); (try clear hb2); (try clear hk); (try clear hi)))
                            go_ret
                            exact ⟨by first | rfl | (simp [errW_none, errW_some] <;> rfl) | (simp [*, errW_none, errW_some] <;> rfl), by repeat (first | (with_reducible first | exact HB.out | apply below_alloc | apply pw_below_drewN | apply below_drew1 | refine below_set ?_ GE382.out | refine below_set ?_ GE383.out | refine below_set ?_ GE384.out | refine below_set ?_ GE407.out) | exact HB.out)⟩
                        · rw [if_neg c169] at H
                          exact absurd H (by simp)
                      · rw [if_neg c168] at H
                        exact absurd H (by simp)
                    · rw [if_neg c167] at H
                      have c167b0 : decide (x91_3 < (t396.length : Int)) = false := decide_eq_false c167
                      clear c167
                      by_cases c198 : t385 = true
                      · subst c198
                        have H1 : (if t403 = 0 then (if t405 = 0 then (some (x16_3 == t404)) else (some false)) else (some false)) = some r := by rw [if_pos rfl] at H; exact H
                        clear H
                        have H := H1
                        clear H1
                        by_cases c199 : t403 = 0
                        · rw [if_pos c199] at H
                          have c199b0 : (t403 == 0) = true := beq_iff_eq.mpr c199
                          have c199b1 : (t403 != 0) = false := bne_eq_false_iff_eq.mpr c199
                          clear c199
                          by_cases c200 : t405 = 0
                          · rw [if_pos c200] at H
                            have c200b0 : (t405 == 0) = true := beq_iff_eq.mpr c200
                            have c200b1 : (t405 != 0) = false := bne_eq_false_iff_eq.mpr c200
                            clear c200
                            obtain rfl := Option.some.inj H
                            go_wp2
                            go_ret
                            exact ⟨by first | rfl | (simp [errW_none, errW_some] <;> rfl) | (simp [*, errW_none, errW_some] <;> rfl), by repeat (first | (with_reducible first | exact HB.out | apply below_alloc | apply pw_below_drewN | apply below_drew1 | refine below_set ?_ GE382.out | refine below_set ?_ GE383.out | refine below_set ?_ GE384.out) | exact HB.out)⟩
                          · rw [if_neg c200] at H
                            have c200b0 : (t405 == 0) = false := beq_eq_false_iff_ne.mpr c200
                            have c200b1 : (t405 != 0) = true := bne_iff_ne.mpr c200
                            obtain rfl := Option.some.inj H
                            go_wp2
                            go_ret
                            exact ⟨by first | rfl | (simp [errW_none, errW_some] <;> rfl) | (simp [*, errW_none, errW_some] <;> rfl), by repeat (first | (with_reducible first | exact HB.out | apply below_alloc | apply pw_below_drewN | apply below_drew1 | refine below_set ?_ GE382.out | refine below_set ?_ GE383.out | refine below_set ?_ GE384.out) | exact HB.out)⟩
                        · rw [if_neg c199] at H
                          have c199b0 : (t403 == 0) = false := beq_eq_false_iff_ne.mpr c199
                          have c199b1 : (t403 != 0) = true := bne_iff_ne.mpr c199
                          obtain rfl := Option.some.inj H
                          go_wp2
                          go_ret
                          exact ⟨by first | rfl | (simp [errW_none, errW_some] <;> rfl) | (simp [*, errW_none, errW_some] <;> rfl), by repeat (first | (with_reducible first | exact HB.out | apply below_alloc | apply pw_below_drewN | apply below_drew1 | refine below_set ?_ GE382.out | refine below_set ?_ GE383.out | refine below_set ?_ GE384.out) | exact HB.out)⟩
                      · replace c198 := Bool.eq_false_iff.mpr c198
                        subst c198
                        have H1 : (some false) = some r := by rw [if_neg (show ¬ (false = true) by decide)] at H; exact H
                        clear H
                        have H := H1
                        clear H1
                        obtain rfl := Option.some.inj H
                        go_wp2
                        go_ret
                        exact ⟨by first | rfl | (simp [errW_none, errW_some] <;> rfl) | (simp [*, errW_none, errW_some] <;> rfl), by repeat (first | (with_reducible first | exact HB.out | apply below_alloc | apply pw_below_drewN | apply below_drew1 | refine below_set ?_ GE382.out | refine below_set ?_ GE383.out | refine below_set ?_ GE384.out) | exact HB.out)⟩
              · rw [if_neg c155] at H
                have c155b0 : (t399 == 0) = false := beq_eq_false_iff_ne.mpr c155
                have c155b1 : (t399 != 0) = true := bne_iff_ne.mpr c155
                obtain rfl := Option.some.inj H
                have hnb201 := NB382_383.out
                have hnc201 := NB383_382.out
                have hnb202 := NB382_384.out
                have hnc202 := NB384_382.out
                have hcz203_0 : wc.cell? ⟨gb382, 0, none⟩ = some (.int .u64 a1_0) := (blk_cell BK382.out 0).trans rfl
                have hcz203_1 : wc.cell? ⟨gb382, 1, none⟩ = some (.int .u64 a1_1) := (blk_cell BK382.out 1).trans rfl
                have hfz203_0 := blk_frozen BK382.out 0
                have hfz203_1 := blk_frozen BK382.out 1
                go_wp2_with (first | ((with_reducible refine gate_callee (f := 19) rfl ?_); refine goesL_ (some 71) rfl rfl Try.func19 (by kernel_rfl) rfl #[.int .i64 a0, .agg #[.int .u64 a1_0, .int .u64 a1_1]] rfl (by (try simp only [List.map_toArray, List.map_cons, List.map_nil]); first | done | rfl | (simp only [List.length_drop, List.length_take]; rfl)) ?_; (with_reducible refine (sub_Split.calls kj119 a0 a1_0 a1_1 t396 t399 _ A154.out).mono ?_); rintro e w204 ⟨v397, rfl, ho0, hb⟩; refine ⟨_, rfl, ?_⟩; have n0_ := Aside0.mk (Kd.R_lower (Kd.R_newB (Kd.R_newB (Kd.R_newB ho0 (g := gb382) (o := .cells #[.int .u64 a1_0, .int .u64 a1_1] 24 (0, 0)) (by (with_reducible repeat (first | refine blk_drewN ?_ _ | refine blk_drew ?_ | refine blk_alloc ?_ _)); exact BK382.out)) (g := gb383) (o := .cells #[.int .u64 a2_0, .int .u64 a2_1] 24 (0, 0)) (by (with_reducible repeat (first | refine blk_drewN ?_ _ | refine blk_drew ?_ | refine blk_alloc ?_ _)); exact BK383.out)) (g := gb384) (o := .cells #[.int .u64 a3_0, .int .u64 a3_1] 24 (0, 0)) (by (with_reducible repeat (first | refine blk_drewN ?_ _ | refine blk_drew ?_ | refine blk_alloc ?_ _)); exact BK384.out)) (below_size (by repeat (first | (with_reducible first | exact HB.out | apply below_alloc | apply pw_below_drewN | apply below_drew1 | refine below_set ?_ GE382.out | refine below_set ?_ GE383.out | refine below_set ?_ GE384.out) | exact HB.out)))); have n1_ := Aside0.mk (blk_below (g := gb382) (o := .cells #[.int .u64 a1_0, .int .u64 a1_1] 24 (0, 0)) (by (with_reducible repeat (first | refine blk_drewN ?_ _ | refine blk_drew ?_ | refine blk_alloc ?_ _)); exact BK382.out) hb); have n2_ := Aside0.mk (blk_below (g := gb383) (o := .cells #[.int .u64 a2_0, .int .u64 a2_1] 24 (0, 0)) (by (with_reducible repeat (first | refine blk_drewN ?_ _ | refine blk_drew ?_ | refine blk_alloc ?_ _)); exact BK383.out) hb); have n3_ := Aside0.mk (blk_below (g := gb384) (o := .cells #[.int .u64 a3_0, .int .u64 a3_1] 24 (0, 0)) (by (with_reducible repeat (first | refine blk_drewN ?_ _ | refine blk_drew ?_ | refine blk_alloc ?_ _)); exact BK384.out) hb); have n4_ := Aside0.mk (below_step (by repeat (first | (with_reducible first | exact HB.out | apply below_alloc | apply pw_below_drewN | apply below_drew1 | refine below_set ?_ GE382.out | refine below_set ?_ GE383.out | refine below_set ?_ GE384.out) | exact HB.out)) hb); clear BK382; clear BK383; clear BK384; clear HB; have HO398 := n0_; have BK382 := n1_; have BK383 := n2_; have BK384 := n3_; have HB := n4_; clear n0_ n1_ n2_ n3_ n4_; (try clear hb); (try clear hb2); (try clear hk); (try clear hi); (try clear ho0)))
                go_ret
                exact ⟨by first | rfl | (simp [errW_none, errW_some] <;> rfl) | (simp [*, errW_none, errW_some] <;> rfl), by repeat (first | (with_reducible first | exact HB.out | apply below_alloc | apply pw_below_drewN | apply below_drew1 | refine below_set ?_ GE382.out | refine below_set ?_ GE383.out | refine below_set ?_ GE384.out) | exact HB.out)⟩

/-- THE ONE PURE STATEMENT of medlarlaw08_SubLess: yours. -/
def medlarlaw08_SubLess.Pure : Prop := ∀ (a0 : Int) (a1_0 : Int) (a1_1 : Int) (a2_0 : Int) (a2_1 : Int) (a3_0 : Int) (a3_1 : Int), (Lit.int .i64 a0).wf = true → (Lit.int .u64 a1_0).wf = true → (Lit.int .u64 a1_1).wf = true → (Lit.int .u64 a2_0).wf = true → (Lit.int .u64 a2_1).wf = true → (Lit.int .u64 a3_0).wf = true → (Lit.int .u64 a3_1).wf = true → ∃ k, medlarlaw08_SubLess.f k a0 a1_0 a1_1 a2_0 a2_1 a3_0 a3_1 = some true
theorem medlarlaw08_SubLess.walk (P : medlarlaw08_SubLess.Pure) (a0 : Int) (a1_0 : Int) (a1_1 : Int) (a2_0 : Int) (a2_1 : Int) (a3_0 : Int) (a3_1 : Int) (w : World) (w0 : (Lit.int .i64 a0).wf = true) (w1_0 : (Lit.int .u64 a1_0).wf = true) (w1_1 : (Lit.int .u64 a1_1).wf = true) (w2_0 : (Lit.int .u64 a2_0).wf = true) (w2_1 : (Lit.int .u64 a2_1).wf = true) (w3_0 : (Lit.int .u64 a3_0).wf = true) (w3_1 : (Lit.int .u64 a3_1).wf = true) :
    Calls Try.prog 7 #[.int .i64 a0, .agg #[.int .u64 a1_0, .int .u64 a1_1], .agg #[.int .u64 a2_0, .int .u64 a2_1], .agg #[.int .u64 a3_0, .int .u64 a3_1]] w fun e w' => e = .returned (.bool true) ∧ Below w.heap.size w w' := by
  obtain ⟨k, h⟩ := P a0 a1_0 a1_1 a2_0 a2_1 a3_0 a3_1 w0 w1_0 w1_1 w2_0 w2_1 w3_0 w3_1
  refine (medlarlaw08_SubLess.calls k a0 a1_0 a1_1 a2_0 a2_1 a3_0 a3_1 true w h).mono ?_
  rintro e w' ⟨rfl, hd⟩
  exact ⟨rfl, hd⟩

end Go.Proofs.Ytmaaibcnfhbajaa.MP
