-- written by a program of this session (wip/tools/mprint.sh) for this seat
import Derived.Test.YtmaaibcnfhbajaaMPx0
import Derived.Test.YtmaaibcnfhbajaaMPx3
import Derived.Test.YtmaaibcnfhbajaaMPx13
import Derived.Test.YtmaaibcnfhbajaaMPx14
import Derived.Test.YtmaaibcnfhbajaaMPx15
import Derived.Test.YtmaaibcnfhbajaaMPx21
namespace Go.Proofs.Ytmaaibcnfhbajaa.MP
open Go.RowKit Go.Proofs.YtmaaibcnfhbajaaW.PrintWords Go.Proofs.YtmaaibcnfhbajaaW.PrintLast Go.Proofs.YtmaaibcnfhbajaaW.PrintMore
attribute [local go_sem] max2_int min2_int max_two min_two max_three min_three max_four min_four   -- for this text's walks alone
set_option linter.unusedVariables false
set_option linter.unusedSimpArgs false

/-! ### medlarlaw08_SubLeaves: function 8 -/
mutual
def medlarlaw08_SubLeaves.j0 : Nat → Int → Int → Bool → List (S50) → Int → Int → Int → Int → Int → Int → Option (Bool)
  | 0, _, _, _, _, _, _, _, _, _, _ => none
  | k + 1, x0, x2, x7, x8, x10, x11, x13, x14, x434000, x434001 => if x11 = 0 then (if x13 = 0 then (if x10 = x14 then (medlarlaw08_SubLeaves.j1 k x0 x2 x7 x8 (x10 == 0) x434000 x434001) else (medlarlaw08_SubLeaves.j1 k x0 x2 x7 x8 true x434000 x434001)) else (medlarlaw08_SubLeaves.j1 k x0 x2 x7 x8 true x434000 x434001)) else (medlarlaw08_SubLeaves.j1 k x0 x2 x7 x8 true x434000 x434001)
def medlarlaw08_SubLeaves.j1 : Nat → Int → Int → Bool → List (S50) → Bool → Int → Int → Option (Bool)
  | 0, _, _, _, _, _, _, _ => none
  | k + 1, x0, x2, x7, x8, x90, x434000, x434001 => if x90 = true then (some false) else (medlarlaw08_SubLeaves.l0 k x0 x2 x7 false x8 (x8.length : Int) 0 x434000 x434001)
def medlarlaw08_SubLeaves.l0 : Nat → Int → Int → Bool → Bool → List (S50) → Int → Int → Int → Int → Option (Bool)
  | 0, _, _, _, _, _, _, _, _, _ => none
  | k + 1, x0, x2, x7, x17, x91, x92, x93, x434000, x434001 => if x93 < x92 then (if 0 ≤ x93 then (if x93 < (x91.length : Int) then (if x17 = true then (medlarlaw08_SubLeaves.l0 k x0 x2 x7 true x91 x92 (wrap64 (x93 + 1)) x434000 x434001) else (if ((rd_T50 x91 x93).f0) ≤ x2 then (medlarlaw08_SubLeaves.l0 k x0 x2 x7 (decide (x2 ≤ ((rd_T50 x91 x93).f1))) x91 x92 (wrap64 (x93 + 1)) x434000 x434001) else (medlarlaw08_SubLeaves.l0 k x0 x2 x7 false x91 x92 (wrap64 (x93 + 1)) x434000 x434001))) else (none)) else (none)) else ((sub_Has.f k x0 x434000 x434001 x2).bind fun bt451 => (if bt451.2 = 0 then (if x7 = true then (some (x17 == bt451.1)) else (some false)) else (if x7 = true then (some (!x17)) else (some false))))
end
def medlarlaw08_SubLeaves.f (k : Nat) (a0 : Int) (a1_0 : Int) (a1_1 : Int) (a2 : Int) : Option (Bool) := (medlarlaw08_live.f k).bind fun t434 => ((sub_Leaves.f k a0 a1_0 a1_1).bind fun bt435 => (if bt435.2 = 0 then ((leaf_Many.f k a0 bt435.1).bind fun bt439 => ((node_Leaves.f k a0 a1_0).bind fun bt441 => (if a1_1 = 0 then (medlarlaw08_SubLeaves.j0 k a0 a2 t434 bt435.1 bt439.1 bt439.2 bt441.2.2 (IntKind.u64.wrap ((IntKind.u64.wrap (bt441.2.1 - bt441.1)) + 1)) a1_0 a1_1) else ((node_Leaves.f k a0 a1_1).bind fun bt445 => (if bt445.2.2 = 0 then (medlarlaw08_SubLeaves.j0 k a0 a2 t434 bt435.1 bt439.1 bt439.2 bt441.2.2 (IntKind.u64.wrap ((IntKind.u64.wrap ((IntKind.u64.wrap (bt441.2.1 - bt441.1)) + 1)) - (IntKind.u64.wrap ((IntKind.u64.wrap (bt445.2.1 - bt445.1)) + 1)))) a1_0 a1_1) else (some false)))))) else (if t434 = true then (some ((bt435.1.length : Int) == 0)) else (some false))))
theorem medlarlaw08_SubLeaves.mono_l : ∀ k, (∀ y0 y1 y2 y3 y4 y5 y6 y7 y8 y9, LeO (medlarlaw08_SubLeaves.j0 k y0 y1 y2 y3 y4 y5 y6 y7 y8 y9) (medlarlaw08_SubLeaves.j0 (k + 1) y0 y1 y2 y3 y4 y5 y6 y7 y8 y9)) ∧ (∀ y0 y1 y2 y3 y4 y5 y6, LeO (medlarlaw08_SubLeaves.j1 k y0 y1 y2 y3 y4 y5 y6) (medlarlaw08_SubLeaves.j1 (k + 1) y0 y1 y2 y3 y4 y5 y6)) ∧ (∀ y0 y1 y2 y3 y4 y5 y6 y7 y8, LeO (medlarlaw08_SubLeaves.l0 k y0 y1 y2 y3 y4 y5 y6 y7 y8) (medlarlaw08_SubLeaves.l0 (k + 1) y0 y1 y2 y3 y4 y5 y6 y7 y8))
  | 0 => ⟨fun _ _ _ _ _ _ _ _ _ _ r h => by simp [medlarlaw08_SubLeaves.j0] at h, fun _ _ _ _ _ _ _ r h => by simp [medlarlaw08_SubLeaves.j1] at h, fun _ _ _ _ _ _ _ _ _ r h => by simp [medlarlaw08_SubLeaves.l0] at h⟩
  | k + 1 => by
    obtain ⟨ih0, ih1, ih2⟩ := medlarlaw08_SubLeaves.mono_l k
    refine ⟨?_, ?_, ?_⟩
    · intro y0 y1 y2 y3 y4 y5 y6 y7 y8 y9
      unfold medlarlaw08_SubLeaves.j0
      repeat' first
      | (with_reducible exact ih0 _ _ _ _ _ _ _ _ _ _)
      | (with_reducible exact ih1 _ _ _ _ _ _ _)
      | (with_reducible exact ih2 _ _ _ _ _ _ _ _ _)
      | (with_reducible exact leaf_Many.mono _ _ _)
      | (with_reducible exact medlarlaw08_live.mono _)
      | (with_reducible exact node_Leaves.mono _ _ _)
      | (with_reducible exact sub_Has.mono _ _ _ _ _)
      | (with_reducible exact sub_Leaves.mono _ _ _ _)
      | (with_reducible exact LeO.refl _)
      | (with_reducible exact LeO.none _)
      | (with_reducible refine LeO.ite ?_ ?_)
      | (with_reducible refine LeO.bind ?_ (fun _ => ?_))
      | exact ih0 _ _ _ _ _ _ _ _ _ _
      | exact ih1 _ _ _ _ _ _ _
      | exact ih2 _ _ _ _ _ _ _ _ _
      | exact leaf_Many.mono _ _ _
      | exact medlarlaw08_live.mono _
      | exact node_Leaves.mono _ _ _
      | exact sub_Has.mono _ _ _ _ _
      | exact sub_Leaves.mono _ _ _ _
      | exact LeO.none _
      | refine LeO.ite ?_ ?_
      | refine LeO.bind ?_ (fun _ => ?_)
    · intro y0 y1 y2 y3 y4 y5 y6
      unfold medlarlaw08_SubLeaves.j1
      repeat' first
      | (with_reducible exact ih0 _ _ _ _ _ _ _ _ _ _)
      | (with_reducible exact ih1 _ _ _ _ _ _ _)
      | (with_reducible exact ih2 _ _ _ _ _ _ _ _ _)
      | (with_reducible exact leaf_Many.mono _ _ _)
      | (with_reducible exact medlarlaw08_live.mono _)
      | (with_reducible exact node_Leaves.mono _ _ _)
      | (with_reducible exact sub_Has.mono _ _ _ _ _)
      | (with_reducible exact sub_Leaves.mono _ _ _ _)
      | (with_reducible exact LeO.refl _)
      | (with_reducible exact LeO.none _)
      | (with_reducible refine LeO.ite ?_ ?_)
      | (with_reducible refine LeO.bind ?_ (fun _ => ?_))
      | exact ih0 _ _ _ _ _ _ _ _ _ _
      | exact ih1 _ _ _ _ _ _ _
      | exact ih2 _ _ _ _ _ _ _ _ _
      | exact leaf_Many.mono _ _ _
      | exact medlarlaw08_live.mono _
      | exact node_Leaves.mono _ _ _
      | exact sub_Has.mono _ _ _ _ _
      | exact sub_Leaves.mono _ _ _ _
      | exact LeO.none _
      | refine LeO.ite ?_ ?_
      | refine LeO.bind ?_ (fun _ => ?_)
    · intro y0 y1 y2 y3 y4 y5 y6 y7 y8
      unfold medlarlaw08_SubLeaves.l0
      repeat' first
      | (with_reducible exact ih0 _ _ _ _ _ _ _ _ _ _)
      | (with_reducible exact ih1 _ _ _ _ _ _ _)
      | (with_reducible exact ih2 _ _ _ _ _ _ _ _ _)
      | (with_reducible exact leaf_Many.mono _ _ _)
      | (with_reducible exact medlarlaw08_live.mono _)
      | (with_reducible exact node_Leaves.mono _ _ _)
      | (with_reducible exact sub_Has.mono _ _ _ _ _)
      | (with_reducible exact sub_Leaves.mono _ _ _ _)
      | (with_reducible exact LeO.refl _)
      | (with_reducible exact LeO.none _)
      | (with_reducible refine LeO.ite ?_ ?_)
      | (with_reducible refine LeO.bind ?_ (fun _ => ?_))
      | exact ih0 _ _ _ _ _ _ _ _ _ _
      | exact ih1 _ _ _ _ _ _ _
      | exact ih2 _ _ _ _ _ _ _ _ _
      | exact leaf_Many.mono _ _ _
      | exact medlarlaw08_live.mono _
      | exact node_Leaves.mono _ _ _
      | exact sub_Has.mono _ _ _ _ _
      | exact sub_Leaves.mono _ _ _ _
      | exact LeO.none _
      | refine LeO.ite ?_ ?_
      | refine LeO.bind ?_ (fun _ => ?_)
theorem medlarlaw08_SubLeaves.mono : ∀ a0 a1 a2 a3 k, LeO (medlarlaw08_SubLeaves.f k a0 a1 a2 a3) (medlarlaw08_SubLeaves.f (k + 1) a0 a1 a2 a3) := by
  intro a0 a1 a2 a3 k
  obtain ⟨ih0, ih1, ih2⟩ := medlarlaw08_SubLeaves.mono_l k
  unfold medlarlaw08_SubLeaves.f
  repeat' first
      | (with_reducible exact ih0 _ _ _ _ _ _ _ _ _ _)
      | (with_reducible exact ih1 _ _ _ _ _ _ _)
      | (with_reducible exact ih2 _ _ _ _ _ _ _ _ _)
      | (with_reducible exact leaf_Many.mono _ _ _)
      | (with_reducible exact medlarlaw08_live.mono _)
      | (with_reducible exact node_Leaves.mono _ _ _)
      | (with_reducible exact sub_Has.mono _ _ _ _ _)
      | (with_reducible exact sub_Leaves.mono _ _ _ _)
      | (with_reducible exact LeO.refl _)
      | (with_reducible exact LeO.none _)
      | (with_reducible refine LeO.ite ?_ ?_)
      | (with_reducible refine LeO.bind ?_ (fun _ => ?_))
      | exact ih0 _ _ _ _ _ _ _ _ _ _
      | exact ih1 _ _ _ _ _ _ _
      | exact ih2 _ _ _ _ _ _ _ _ _
      | exact leaf_Many.mono _ _ _
      | exact medlarlaw08_live.mono _
      | exact node_Leaves.mono _ _ _
      | exact sub_Has.mono _ _ _ _ _
      | exact sub_Leaves.mono _ _ _ _
      | exact LeO.none _
      | refine LeO.ite ?_ ?_
      | refine LeO.bind ?_ (fun _ => ?_)
set_option maxHeartbeats 8000000 in
set_option maxRecDepth 100000 in
theorem medlarlaw08_SubLeaves.calls (k : Nat) (a0 : Int) (a1_0 : Int) (a1_1 : Int) (a2 : Int) (r : Bool) (w : World) (h : medlarlaw08_SubLeaves.f k a0 a1_0 a1_1 a2 = some r) :
    Calls Try.prog 8 #[.int .i64 a0, .agg #[.int .u64 a1_0, .int .u64 a1_1], .int .u64 a2] w fun e w' => e = .returned (.bool r) ∧ Below w.heap.size w w' := by
  have hu24 := Try.underlying24
  have hu50 := Try.underlying50
  have HB := Aside0.mk (Below.refl w.heap.size w)
  have H : ((medlarlaw08_live.f k).bind fun t434 => ((sub_Leaves.f k a0 a1_0 a1_1).bind fun bt435 => (if bt435.2 = 0 then ((leaf_Many.f k a0 bt435.1).bind fun bt439 => ((node_Leaves.f k a0 a1_0).bind fun bt441 => (if a1_1 = 0 then (medlarlaw08_SubLeaves.j0 k a0 a2 t434 bt435.1 bt439.1 bt439.2 bt441.2.2 (IntKind.u64.wrap ((IntKind.u64.wrap (bt441.2.1 - bt441.1)) + 1)) a1_0 a1_1) else ((node_Leaves.f k a0 a1_1).bind fun bt445 => (if bt445.2.2 = 0 then (medlarlaw08_SubLeaves.j0 k a0 a2 t434 bt435.1 bt439.1 bt439.2 bt441.2.2 (IntKind.u64.wrap ((IntKind.u64.wrap ((IntKind.u64.wrap (bt441.2.1 - bt441.1)) + 1)) - (IntKind.u64.wrap ((IntKind.u64.wrap (bt445.2.1 - bt445.1)) + 1)))) a1_0 a1_1) else (some false)))))) else (if t434 = true then (some ((bt435.1.length : Int) == 0)) else (some false))))) = some r := h
  clear h
  replace H := Option.bind_eq_some_iff.mp H
  obtain ⟨t434, A40, H⟩ := H
  replace H : ((sub_Leaves.f k a0 a1_0 a1_1).bind fun bt435 => (if bt435.2 = 0 then ((leaf_Many.f k a0 bt435.1).bind fun bt439 => ((node_Leaves.f k a0 a1_0).bind fun bt441 => (if a1_1 = 0 then (medlarlaw08_SubLeaves.j0 k a0 a2 t434 bt435.1 bt439.1 bt439.2 bt441.2.2 (IntKind.u64.wrap ((IntKind.u64.wrap (bt441.2.1 - bt441.1)) + 1)) a1_0 a1_1) else ((node_Leaves.f k a0 a1_1).bind fun bt445 => (if bt445.2.2 = 0 then (medlarlaw08_SubLeaves.j0 k a0 a2 t434 bt435.1 bt439.1 bt439.2 bt441.2.2 (IntKind.u64.wrap ((IntKind.u64.wrap ((IntKind.u64.wrap (bt441.2.1 - bt441.1)) + 1)) - (IntKind.u64.wrap ((IntKind.u64.wrap (bt445.2.1 - bt445.1)) + 1)))) a1_0 a1_1) else (some false)))))) else (if t434 = true then (some ((bt435.1.length : Int) == 0)) else (some false)))) = some r := H
  have A4 := Aside0.mk A40
  clear A40
  replace H := Option.bind_eq_some_iff.mp H
  obtain ⟨⟨t435, t438⟩, A50, H⟩ := H
  replace H : (if t438 = 0 then ((leaf_Many.f k a0 t435).bind fun bt439 => ((node_Leaves.f k a0 a1_0).bind fun bt441 => (if a1_1 = 0 then (medlarlaw08_SubLeaves.j0 k a0 a2 t434 t435 bt439.1 bt439.2 bt441.2.2 (IntKind.u64.wrap ((IntKind.u64.wrap (bt441.2.1 - bt441.1)) + 1)) a1_0 a1_1) else ((node_Leaves.f k a0 a1_1).bind fun bt445 => (if bt445.2.2 = 0 then (medlarlaw08_SubLeaves.j0 k a0 a2 t434 t435 bt439.1 bt439.2 bt441.2.2 (IntKind.u64.wrap ((IntKind.u64.wrap ((IntKind.u64.wrap (bt441.2.1 - bt441.1)) + 1)) - (IntKind.u64.wrap ((IntKind.u64.wrap (bt445.2.1 - bt445.1)) + 1)))) a1_0 a1_1) else (some false)))))) else (if t434 = true then (some ((t435.length : Int) == 0)) else (some false))) = some r := H
  have A5 := Aside0.mk A50
  clear A50
  by_cases c6 : t438 = 0
  · rw [if_pos c6] at H
    have c6b0 : (t438 == 0) = true := beq_iff_eq.mpr c6
    have c6b1 : (t438 != 0) = false := bne_eq_false_iff_eq.mpr c6
    clear c6
    replace H := Option.bind_eq_some_iff.mp H
    obtain ⟨⟨t439, t440⟩, A70, H⟩ := H
    replace H : ((node_Leaves.f k a0 a1_0).bind fun bt441 => (if a1_1 = 0 then (medlarlaw08_SubLeaves.j0 k a0 a2 t434 t435 t439 t440 bt441.2.2 (IntKind.u64.wrap ((IntKind.u64.wrap (bt441.2.1 - bt441.1)) + 1)) a1_0 a1_1) else ((node_Leaves.f k a0 a1_1).bind fun bt445 => (if bt445.2.2 = 0 then (medlarlaw08_SubLeaves.j0 k a0 a2 t434 t435 t439 t440 bt441.2.2 (IntKind.u64.wrap ((IntKind.u64.wrap ((IntKind.u64.wrap (bt441.2.1 - bt441.1)) + 1)) - (IntKind.u64.wrap ((IntKind.u64.wrap (bt445.2.1 - bt445.1)) + 1)))) a1_0 a1_1) else (some false))))) = some r := H
    have A7 := Aside0.mk A70
    clear A70
    replace H := Option.bind_eq_some_iff.mp H
    obtain ⟨⟨t441, t442, t443⟩, A80, H⟩ := H
    replace H : (if a1_1 = 0 then (medlarlaw08_SubLeaves.j0 k a0 a2 t434 t435 t439 t440 t443 (IntKind.u64.wrap ((IntKind.u64.wrap (t442 - t441)) + 1)) a1_0 a1_1) else ((node_Leaves.f k a0 a1_1).bind fun bt445 => (if bt445.2.2 = 0 then (medlarlaw08_SubLeaves.j0 k a0 a2 t434 t435 t439 t440 t443 (IntKind.u64.wrap ((IntKind.u64.wrap ((IntKind.u64.wrap (t442 - t441)) + 1)) - (IntKind.u64.wrap ((IntKind.u64.wrap (bt445.2.1 - bt445.1)) + 1)))) a1_0 a1_1) else (some false)))) = some r := H
    have A8 := Aside0.mk A80
    clear A80
    have HC9 := Aside0.mk H
    clear H
    go_enter Try.func8, Try.ntmps8
    go_upto_if 58 with (first | ((with_reducible refine gate_dst (N := 4) rfl ?_); (try (refine gate_guard (by rfl) ?_; dsimp only)); refine box_event ?hg (N := 4) ?hd (cs := #[.int .u64 a1_0, .int .u64 a1_1]) (t := 24) ?hr ?_; (case hd => rfl); (case hg => rfl); (case hr => first | (go_simp; done) | (go_simp; rfl)); intro gb433 hg w10 hbox hb; have n0_ := Aside0.mk (below_step (by repeat (first | (with_reducible first | exact HB.out | apply below_alloc | apply pw_below_drewN | apply below_drew1) | exact HB.out)) hb); have n1_ := Aside0.mk (hbox); have n2_ := Aside0.mk ((by rw [hg]; exact (below_size (by repeat (first | (with_reducible first | exact HB.out | apply below_alloc | apply pw_below_drewN | apply below_drew1) | exact HB.out))) : w.heap.size ≤ gb433)); have n3_ := Aside0.mk ((by rw [hg]; exact (below_size (by repeat (first | (with_reducible first | exact HB.out | apply below_alloc | apply pw_below_drewN | apply below_drew1) | exact HB.out))) : w.heap.size ≤ gb433)); clear HB; have HB := n0_; have BK433 := n1_; have GW433 := n2_; have GE433 := n3_; clear n0_ n1_ n2_ n3_; clear hb hbox hg) | ((with_reducible refine gate_callee (f := 14) rfl ?_); refine goesL_ (some 22) rfl rfl Try.func14 (by kernel_rfl) rfl #[] rfl (by (try simp only [List.map_toArray, List.map_cons, List.map_nil]); first | done | rfl | (simp only [List.length_drop, List.length_take]; rfl)) ?_; (with_reducible refine (medlarlaw08_live.calls k  t434 _ A4.out).mono ?_); rintro e w11 ⟨rfl, hb⟩; refine ⟨_, rfl, ?_⟩; have n0_ := Aside0.mk (blk_below (g := gb433) (o := .cells #[.int .u64 a1_0, .int .u64 a1_1] 24 (0, 0)) (by (with_reducible repeat (first | refine blk_drewN ?_ _ | refine blk_drew ?_ | refine blk_alloc ?_ _)); exact BK433.out) hb); have n1_ := Aside0.mk (below_step (by repeat (first | (with_reducible first | exact HB.out | apply below_alloc | apply pw_below_drewN | apply below_drew1 | refine below_set ?_ GE433.out) | exact HB.out)) hb); clear BK433; clear HB; have BK433 := n0_; have HB := n1_; clear n0_ n1_; (try clear hb); (try clear hb2); (try clear hk); (try clear hi); have hcz12_0 : w11.cell? ⟨gb433, 0, none⟩ = some (.int .u64 a1_0) := (blk_cell BK433.out 0).trans rfl; have hcz12_1 : w11.cell? ⟨gb433, 1, none⟩ = some (.int .u64 a1_1) := (blk_cell BK433.out 1).trans rfl; have hfz12_0 := blk_frozen BK433.out 0; have hfz12_1 := blk_frozen BK433.out 1) | ((with_reducible refine gate_callee (f := 29) rfl ?_); refine goesL_ (some 26) rfl rfl Try.func29 (by kernel_rfl) rfl #[.int .i64 a0, .agg #[.int .u64 a1_0, .int .u64 a1_1]] rfl (by (try simp only [List.map_toArray, List.map_cons, List.map_nil]); first | done | rfl | (simp only [List.length_drop, List.length_take]; rfl)) ?_; (with_reducible refine (sub_Leaves.calls k a0 a1_0 a1_1 t435 t438 _ A5.out).mono ?_); rintro e w13 ⟨v436, rfl, ho0, hb⟩; refine ⟨_, rfl, ?_⟩; have n0_ := Aside0.mk (Kd.R_lower ho0 (below_size (by repeat (first | (with_reducible first | exact HB.out | apply below_alloc | apply pw_below_drewN | apply below_drew1 | refine below_set ?_ GE433.out) | exact HB.out)))); have n1_ := Aside0.mk (blk_below (g := gb433) (o := .cells #[.int .u64 a1_0, .int .u64 a1_1] 24 (0, 0)) (by (with_reducible repeat (first | refine blk_drewN ?_ _ | refine blk_drew ?_ | refine blk_alloc ?_ _)); exact BK433.out) hb); have n2_ := Aside0.mk (below_step (by repeat (first | (with_reducible first | exact HB.out | apply below_alloc | apply pw_below_drewN | apply below_drew1 | refine below_set ?_ GE433.out) | exact HB.out)) hb); clear BK433; clear HB; have HO437 := n0_; have BK433 := n1_; have HB := n2_; clear n0_ n1_ n2_; (try clear hb); (try clear hb2); (try clear hk); (try clear hi); (try clear ho0); obtain ⟨Ao14, co14, eo14⟩ := Kd.R_slice HO437.out; subst eo14) | ((with_reducible refine gate_callee (f := 30) rfl ?_); refine goesL_ (some 40) rfl rfl Try.func30 (by kernel_rfl) rfl #[.int .i64 a0, .slice Ao14 t435.length co14] rfl (by (try simp only [List.map_toArray, List.map_cons, List.map_nil]); first | done | rfl | (simp only [List.length_drop, List.length_take]; rfl)) ?_; (with_reducible refine (leaf_Many.calls k a0 _ _ t435 t439 t440 _ ?side1 ?side2 A7.out).mono ?_); (case side1 => repeat (first | exact (Kd.R_reads' HO437.out).2.2 | (with_reducible refine Kd.C_alloc ?_ _) | (with_reducible refine Kd.C_drewN ?_ _) | (with_reducible refine Kd.C_drew ?_))); (case side2 => exact (Kd.R_reads' HO437.out).2.1); rintro e w15 ⟨rfl, hb⟩; refine ⟨_, rfl, ?_⟩; have n0_ := Aside0.mk (Kd.R_below (by (with_reducible repeat (first | apply Kd.R_alloc | apply Kd.R_drewN | apply Kd.R_drew)); exact HO437.out) hb); have n1_ := Aside0.mk (blk_below (g := gb433) (o := .cells #[.int .u64 a1_0, .int .u64 a1_1] 24 (0, 0)) (by (with_reducible repeat (first | refine blk_drewN ?_ _ | refine blk_drew ?_ | refine blk_alloc ?_ _)); exact BK433.out) hb); have n2_ := Aside0.mk (below_step (by repeat (first | (with_reducible first | exact HB.out | apply below_alloc | apply pw_below_drewN | apply below_drew1 | refine below_set ?_ GE433.out) | exact HB.out)) hb); clear HO437; clear BK433; clear HB; have HO437 := n0_; have BK433 := n1_; have HB := n2_; clear n0_ n1_ n2_; (try clear hb); (try clear hb2); (try clear hk); (try clear hi); have hcz16_0 : w15.cell? ⟨gb433, 0, none⟩ = some (.int .u64 a1_0) := (blk_cell BK433.out 0).trans rfl; have hcz16_1 : w15.cell? ⟨gb433, 1, none⟩ = some (.int .u64 a1_1) := (blk_cell BK433.out 1).trans rfl; have hfz16_0 := blk_frozen BK433.out 0; have hfz16_1 := blk_frozen BK433.out 1) | ((with_reducible refine gate_callee (f := 33) rfl ?_); refine goesL_ (some 47) rfl rfl Try.func33 (by kernel_rfl) rfl #[.int .i64 a0, .int .u64 a1_0] rfl (by (try simp only [List.map_toArray, List.map_cons, List.map_nil]); first | done | rfl | (simp only [List.length_drop, List.length_take]; rfl)) ?_; (with_reducible refine (node_Leaves.calls k a0 a1_0 t441 t442 t443 _ A8.out).mono ?_); rintro e w17 ⟨rfl, hb⟩; refine ⟨_, rfl, ?_⟩; have n0_ := Aside0.mk (Kd.R_below (by (with_reducible repeat (first | apply Kd.R_alloc | apply Kd.R_drewN | apply Kd.R_drew)); exact HO437.out) hb); have n1_ := Aside0.mk (blk_below (g := gb433) (o := .cells #[.int .u64 a1_0, .int .u64 a1_1] 24 (0, 0)) (by (with_reducible repeat (first | refine blk_drewN ?_ _ | refine blk_drew ?_ | refine blk_alloc ?_ _)); exact BK433.out) hb); have n2_ := Aside0.mk (below_step (by repeat (first | (with_reducible first | exact HB.out | apply below_alloc | apply pw_below_drewN | apply below_drew1 | refine below_set ?_ GE433.out) | exact HB.out)) hb); clear HO437; clear BK433; clear HB; have HO437 := n0_; have BK433 := n1_; have HB := n2_; clear n0_ n1_ n2_; (try clear hb); (try clear hb2); (try clear hk); (try clear hi)) | ((with_reducible refine gate_dst (N := 12) rfl ?_); (try (refine gate_guard (by rfl) ?_; dsimp only)); refine box_event ?hg (N := 12) ?hd (cs := #[.int .u64 0, .int .u64 0]) (t := 50) ?hr ?_; (case hd => rfl); (case hg => rfl); (case hr => first | (go_simp; done) | (go_simp; rfl)); intro gb444 hg w18 hbox hb; have n0_ := Aside0.mk (Kd.R_below (Kd.R_elderB (by (with_reducible repeat (first | apply Kd.R_alloc | apply Kd.R_drewN | apply Kd.R_drew)); exact HO437.out) gb444 (Nat.le_of_eq hg.symm)) hb); have n1_ := Aside0.mk (blk_below (g := gb433) (o := .cells #[.int .u64 a1_0, .int .u64 a1_1] 24 (0, 0)) (by (with_reducible repeat (first | refine blk_drewN ?_ _ | refine blk_drew ?_ | refine blk_alloc ?_ _)); exact BK433.out) hb); have n2_ := Aside0.mk (below_step (by repeat (first | (with_reducible first | exact HB.out | apply below_alloc | apply pw_below_drewN | apply below_drew1 | refine below_set ?_ GE433.out) | exact HB.out)) hb); have n3_ := Aside0.mk (hbox); have n4_ := Aside0.mk ((by rw [hg]; exact (below_size (by repeat (first | (with_reducible first | exact HB.out | apply below_alloc | apply pw_below_drewN | apply below_drew1 | refine below_set ?_ GE433.out) | exact HB.out))) : w.heap.size ≤ gb444)); have n5_ := Aside0.mk ((by rw [hg]; exact (below_size (by repeat (first | (with_reducible first | exact HB.out | apply below_alloc | apply pw_below_drewN | apply below_drew1 | refine below_set ?_ GE433.out) | exact HB.out))) : w.heap.size ≤ gb444)); have n6_ := Aside0.mk ((by rw [hg]; exact Nat.ne_of_lt (blk_lt (g := gb433) (o := .cells #[.int .u64 a1_0, .int .u64 a1_1] 24 (0, 0)) (by (with_reducible repeat (first | refine blk_drewN ?_ _ | refine blk_drew ?_ | refine blk_alloc ?_ _)); exact BK433.out)) : gb433 ≠ gb444)); have n7_ := Aside0.mk ((by rw [hg]; exact Nat.ne_of_gt (blk_lt (g := gb433) (o := .cells #[.int .u64 a1_0, .int .u64 a1_1] 24 (0, 0)) (by (with_reducible repeat (first | refine blk_drewN ?_ _ | refine blk_drew ?_ | refine blk_alloc ?_ _)); exact BK433.out)) : gb444 ≠ gb433)); clear HO437; clear BK433; clear HB; have HO437 := n0_; have BK433 := n1_; have HB := n2_; have BK444 := n3_; have GW444 := n4_; have GE444 := n5_; have NB433_444 := n6_; have NB444_433 := n7_; clear n0_ n1_ n2_ n3_ n4_ n5_ n6_ n7_; clear hb hbox hg; have hnb19 := NB444_433.out; have hnc19 := NB433_444.out; have hcz20_0 : w18.cell? ⟨gb444, 0, none⟩ = some (.int .u64 0) := (blk_cell BK444.out 0).trans rfl; have hcz20_1 : w18.cell? ⟨gb444, 1, none⟩ = some (.int .u64 0) := (blk_cell BK444.out 1).trans rfl; have hfz20_0 := blk_frozen BK444.out 0; have hfz20_1 := blk_frozen BK444.out 1; have hcz21_0 : w18.cell? ⟨gb433, 0, none⟩ = some (.int .u64 a1_0) := (blk_cell BK433.out 0).trans rfl; have hcz21_1 : w18.cell? ⟨gb433, 1, none⟩ = some (.int .u64 a1_1) := (blk_cell BK433.out 1).trans rfl; have hfz21_0 := blk_frozen BK433.out 0; have hfz21_1 := blk_frozen BK433.out 1))
    (try simp only [Act.put, List.setIfInBounds_toArray, List.set_cons_zero, List.set_cons_succ])
    go_cut [14] (fun v14 wc => ∃ (kq : Nat) (x14_8 : Int), v14 = .int .u64 x14_8 ∧ Aside0 (medlarlaw08_SubLeaves.j0 kq a0 a2 t434 t435 t439 t440 t443 x14_8 a1_0 a1_1 = some r) ∧ Aside0 (kq ≤ k) ∧ Aside0 (Kd.R k50 50 wc w.heap.size (fun k_ => k_ ≠ gb444) (.slice Ao14 t435.length co14) t435) ∧ Aside0 (wc.heap[gb433]? = some (.cells #[.int .u64 a1_0, .int .u64 a1_1] 24 (0, 0))) ∧ Aside0 (wc.heap[gb444]? = some (.cells #[.int .u64 t441, .int .u64 t442] 50 (0, 0))) ∧ Aside0 (Below w.heap.size w wc))
    case first =>
      have H := HC9.out
      clear HC9
      by_cases c22 : a1_1 = 0
      · rw [if_pos c22] at H
        have c22b0 : (a1_1 == 0) = true := beq_iff_eq.mpr c22
        have c22b1 : (a1_1 != 0) = false := bne_eq_false_iff_eq.mpr c22
        clear c22
        (first | rw [c22b0] | (simp only [i64_w, i32_w]; rw [c22b0]) | skip)
        have H' := Aside0.mk H
        clear H
        go_wp2
        go_meet
        case rel => exact ⟨_, (IntKind.u64.wrap ((IntKind.u64.wrap (t442 - t441)) + 1)), (by first | rfl | (simp; done) | (simp [*]; done)), H', ⟨by first | omega | exact Nat.le_refl _⟩, ⟨by (with_reducible repeat (first | apply Kd.R_alloc | apply Kd.R_drewN | apply Kd.R_drew)); exact Kd.R_mono (Kd.R_far (p := ⟨gb444, 1, none⟩) (Kd.R_far (p := ⟨gb444, 0, none⟩) (Kd.R_mono HO437.out (fun k_ hk => (⟨hk, hk.2⟩ : _ ∧ k_ ≠ gb444))) (fun _ hk => hk.2) (.int .u64 t441)) (fun _ hk => hk.2) (.int .u64 t442)) (fun _ hk => hk.1.2)⟩, ⟨by (with_reducible repeat (first | refine blk_drewN ?_ _ | refine blk_drew ?_ | refine blk_alloc ?_ _)); refine blk_far ?_ NB433_444.out _; (with_reducible repeat (first | refine blk_drewN ?_ _ | refine blk_drew ?_ | refine blk_alloc ?_ _)); refine blk_far ?_ NB433_444.out _; (with_reducible repeat (first | refine blk_drewN ?_ _ | refine blk_drew ?_ | refine blk_alloc ?_ _)); exact BK433.out⟩, ⟨by (with_reducible repeat (first | refine blk_drewN ?_ _ | refine blk_drew ?_ | refine blk_alloc ?_ _)); refine blk_put (cs := #[.int .u64 t441, .int .u64 0]) ?_ 1 _ rfl; (with_reducible repeat (first | refine blk_drewN ?_ _ | refine blk_drew ?_ | refine blk_alloc ?_ _)); refine blk_put (cs := #[.int .u64 0, .int .u64 0]) ?_ 0 _ rfl; (with_reducible repeat (first | refine blk_drewN ?_ _ | refine blk_drew ?_ | refine blk_alloc ?_ _)); exact BK444.out⟩, ⟨by repeat (first | (with_reducible first | exact HB.out | apply below_alloc | apply pw_below_drewN | apply below_drew1 | refine below_set ?_ GE433.out | refine below_set ?_ GE444.out) | exact HB.out)⟩⟩
      · rw [if_neg c22] at H
        have c22b0 : (a1_1 == 0) = false := beq_eq_false_iff_ne.mpr c22
        have c22b1 : (a1_1 != 0) = true := bne_iff_ne.mpr c22
        (first | rw [c22b0] | (simp only [i64_w, i32_w]; rw [c22b0]) | skip)
        replace H := Option.bind_eq_some_iff.mp H
        obtain ⟨⟨t445, t446, t447⟩, A230, H⟩ := H
        replace H : (if t447 = 0 then (medlarlaw08_SubLeaves.j0 k a0 a2 t434 t435 t439 t440 t443 (IntKind.u64.wrap ((IntKind.u64.wrap ((IntKind.u64.wrap (t442 - t441)) + 1)) - (IntKind.u64.wrap ((IntKind.u64.wrap (t446 - t445)) + 1)))) a1_0 a1_1) else (some false)) = some r := H
        have A23 := Aside0.mk A230
        clear A230
        by_cases c24 : t447 = 0
        · rw [if_pos c24] at H
          have c24b0 : (t447 == 0) = true := beq_iff_eq.mpr c24
          have c24b1 : (t447 != 0) = false := bne_eq_false_iff_eq.mpr c24
          clear c24
          have H' := Aside0.mk H
          clear H
          have hnb25 := NB433_444.out
          have hnc25 := NB444_433.out
          have hcz26_0 : w18.cell? ⟨gb433, 0, none⟩ = some (.int .u64 a1_0) := (blk_cell BK433.out 0).trans rfl
          have hcz26_1 : w18.cell? ⟨gb433, 1, none⟩ = some (.int .u64 a1_1) := (blk_cell BK433.out 1).trans rfl
          have hfz26_0 := blk_frozen BK433.out 0
          have hfz26_1 := blk_frozen BK433.out 1
          go_wp2_with (first | ((with_reducible refine gate_callee (f := 33) rfl ?_); refine goesL_ (some 63) rfl rfl Try.func33 (by kernel_rfl) rfl #[.int .i64 a0, .int .u64 a1_1] rfl (by (try simp only [List.map_toArray, List.map_cons, List.map_nil]); first | done | rfl | (simp only [List.length_drop, List.length_take]; rfl)) ?_; (with_reducible refine (node_Leaves.calls k a0 a1_1 t445 t446 t447 _ A23.out).mono ?_); rintro e w27 ⟨rfl, hb⟩; refine ⟨_, rfl, ?_⟩; have n0_ := Aside0.mk (Kd.R_below (by (with_reducible repeat (first | apply Kd.R_alloc | apply Kd.R_drewN | apply Kd.R_drew)); exact (Kd.R_mono (Kd.R_far (p := ⟨gb444, 1, none⟩) (Kd.R_far (p := ⟨gb444, 0, none⟩) (Kd.R_mono HO437.out (fun k_ hk => (⟨hk, hk.2⟩ : _ ∧ k_ ≠ gb444))) (fun _ hk => hk.2) (.int .u64 t441)) (fun _ hk => hk.2) (.int .u64 t442)) (fun _ h_ => h_.1))) hb); have n1_ := Aside0.mk (blk_below (g := gb433) (o := .cells #[.int .u64 a1_0, .int .u64 a1_1] 24 (0, 0)) (by (with_reducible repeat (first | refine blk_drewN ?_ _ | refine blk_drew ?_ | refine blk_alloc ?_ _)); refine blk_far ?_ NB433_444.out _; (with_reducible repeat (first | refine blk_drewN ?_ _ | refine blk_drew ?_ | refine blk_alloc ?_ _)); refine blk_far ?_ NB433_444.out _; (with_reducible repeat (first | refine blk_drewN ?_ _ | refine blk_drew ?_ | refine blk_alloc ?_ _)); exact BK433.out) hb); have n2_ := Aside0.mk (blk_below (g := gb444) (o := .cells #[.int .u64 t441, .int .u64 t442] 50 (0, 0)) (by (with_reducible repeat (first | refine blk_drewN ?_ _ | refine blk_drew ?_ | refine blk_alloc ?_ _)); refine blk_put (cs := #[.int .u64 t441, .int .u64 0]) ?_ 1 _ rfl; (with_reducible repeat (first | refine blk_drewN ?_ _ | refine blk_drew ?_ | refine blk_alloc ?_ _)); refine blk_put (cs := #[.int .u64 0, .int .u64 0]) ?_ 0 _ rfl; (with_reducible repeat (first | refine blk_drewN ?_ _ | refine blk_drew ?_ | refine blk_alloc ?_ _)); exact BK444.out) hb); have n3_ := Aside0.mk (below_step (by repeat (first | (with_reducible first | exact HB.out | apply below_alloc | apply pw_below_drewN | apply below_drew1 | refine below_set ?_ GE433.out | refine below_set ?_ GE444.out) | exact HB.out)) hb); clear HO437; clear BK433; clear BK444; clear HB; have HO437 := n0_; have BK433 := n1_; have BK444 := n2_; have HB := n3_; clear n0_ n1_ n2_ n3_; (try clear hb); (try clear hb2); (try clear hk); (try clear hi)) | ((with_reducible refine gate_dst (N := 15) rfl ?_); (try (refine gate_guard (by rfl) ?_; dsimp only)); refine box_event ?hg (N := 15) ?hd (cs := #[.int .u64 0, .int .u64 0]) (t := 50) ?hr ?_; (case hd => rfl); (case hg => rfl); (case hr => first | (go_simp; done) | (go_simp; rfl)); intro gb448 hg w28 hbox hb; have n0_ := Aside0.mk (Kd.R_below (Kd.R_elderB (by (with_reducible repeat (first | apply Kd.R_alloc | apply Kd.R_drewN | apply Kd.R_drew)); exact HO437.out) gb448 (Nat.le_of_eq hg.symm)) hb); have n1_ := Aside0.mk (blk_below (g := gb433) (o := .cells #[.int .u64 a1_0, .int .u64 a1_1] 24 (0, 0)) (by (with_reducible repeat (first | refine blk_drewN ?_ _ | refine blk_drew ?_ | refine blk_alloc ?_ _)); exact BK433.out) hb); have n2_ := Aside0.mk (blk_below (g := gb444) (o := .cells #[.int .u64 t441, .int .u64 t442] 50 (0, 0)) (by (with_reducible repeat (first | refine blk_drewN ?_ _ | refine blk_drew ?_ | refine blk_alloc ?_ _)); exact BK444.out) hb); have n3_ := Aside0.mk (below_step (by repeat (first | (with_reducible first | exact HB.out | apply below_alloc | apply pw_below_drewN | apply below_drew1 | refine below_set ?_ GE433.out | refine below_set ?_ GE444.out) | exact HB.out)) hb); have n4_ := Aside0.mk (hbox); have n5_ := Aside0.mk ((by rw [hg]; exact (below_size (by repeat (first | (with_reducible first | exact HB.out | apply below_alloc | apply pw_below_drewN | apply below_drew1 | refine below_set ?_ GE433.out | refine below_set ?_ GE444.out) | exact HB.out))) : w.heap.size ≤ gb448)); have n6_ := Aside0.mk ((by rw [hg]; exact (below_size (by repeat (first | (with_reducible first | exact HB.out | apply below_alloc | apply pw_below_drewN | apply below_drew1 | refine below_set ?_ GE433.out | refine below_set ?_ GE444.out) | exact HB.out))) : w.heap.size ≤ gb448)); have n7_ := Aside0.mk ((by rw [hg]; exact Nat.ne_of_lt (blk_lt (g := gb433) (o := .cells #[.int .u64 a1_0, .int .u64 a1_1] 24 (0, 0)) (by (with_reducible repeat (first | refine blk_drewN ?_ _ | refine blk_drew ?_ | refine blk_alloc ?_ _)); exact BK433.out)) : gb433 ≠ gb448)); have n8_ := Aside0.mk ((by rw [hg]; exact Nat.ne_of_gt (blk_lt (g := gb433) (o := .cells #[.int .u64 a1_0, .int .u64 a1_1] 24 (0, 0)) (by (with_reducible repeat (first | refine blk_drewN ?_ _ | refine blk_drew ?_ | refine blk_alloc ?_ _)); exact BK433.out)) : gb448 ≠ gb433)); have n9_ := Aside0.mk ((by rw [hg]; exact Nat.ne_of_lt (blk_lt (g := gb444) (o := .cells #[.int .u64 t441, .int .u64 t442] 50 (0, 0)) (by (with_reducible repeat (first | refine blk_drewN ?_ _ | refine blk_drew ?_ | refine blk_alloc ?_ _)); exact BK444.out)) : gb444 ≠ gb448)); have n10_ := Aside0.mk ((by rw [hg]; exact Nat.ne_of_gt (blk_lt (g := gb444) (o := .cells #[.int .u64 t441, .int .u64 t442] 50 (0, 0)) (by (with_reducible repeat (first | refine blk_drewN ?_ _ | refine blk_drew ?_ | refine blk_alloc ?_ _)); exact BK444.out)) : gb448 ≠ gb444)); clear HO437; clear BK433; clear BK444; clear HB; have HO437 := n0_; have BK433 := n1_; have BK444 := n2_; have HB := n3_; have BK448 := n4_; have GW448 := n5_; have GE448 := n6_; have NB433_448 := n7_; have NB448_433 := n8_; have NB444_448 := n9_; have NB448_444 := n10_; clear n0_ n1_ n2_ n3_ n4_ n5_ n6_ n7_ n8_ n9_ n10_; clear hb hbox hg; have hnb29 := NB448_433.out; have hnc29 := NB433_448.out; have hnb30 := NB448_444.out; have hnc30 := NB444_448.out; have hcz31_0 : w28.cell? ⟨gb448, 0, none⟩ = some (.int .u64 0) := (blk_cell BK448.out 0).trans rfl; have hcz31_1 : w28.cell? ⟨gb448, 1, none⟩ = some (.int .u64 0) := (blk_cell BK448.out 1).trans rfl; have hfz31_0 := blk_frozen BK448.out 0; have hfz31_1 := blk_frozen BK448.out 1))
          go_meet
          case rel => exact ⟨_, (IntKind.u64.wrap ((IntKind.u64.wrap ((IntKind.u64.wrap (t442 - t441)) + 1)) - (IntKind.u64.wrap ((IntKind.u64.wrap (t446 - t445)) + 1)))), (by first | rfl | (simp; done) | (simp [*]; done)), H', ⟨by first | omega | exact Nat.le_refl _⟩, ⟨by (with_reducible repeat (first | apply Kd.R_alloc | apply Kd.R_drewN | apply Kd.R_drew)); exact Kd.R_mono (Kd.R_far (p := ⟨gb448, 1, none⟩) (Kd.R_far (p := ⟨gb448, 0, none⟩) (Kd.R_mono HO437.out (fun k_ hk => (⟨hk, hk.2⟩ : _ ∧ k_ ≠ gb448))) (fun _ hk => hk.2) (.int .u64 t445)) (fun _ hk => hk.2) (.int .u64 t446)) (fun _ hk => hk.1.1.2)⟩, ⟨by (with_reducible repeat (first | refine blk_drewN ?_ _ | refine blk_drew ?_ | refine blk_alloc ?_ _)); refine blk_far ?_ NB433_448.out _; (with_reducible repeat (first | refine blk_drewN ?_ _ | refine blk_drew ?_ | refine blk_alloc ?_ _)); refine blk_far ?_ NB433_448.out _; (with_reducible repeat (first | refine blk_drewN ?_ _ | refine blk_drew ?_ | refine blk_alloc ?_ _)); exact BK433.out⟩, ⟨by (with_reducible repeat (first | refine blk_drewN ?_ _ | refine blk_drew ?_ | refine blk_alloc ?_ _)); refine blk_far ?_ NB444_448.out _; (with_reducible repeat (first | refine blk_drewN ?_ _ | refine blk_drew ?_ | refine blk_alloc ?_ _)); refine blk_far ?_ NB444_448.out _; (with_reducible repeat (first | refine blk_drewN ?_ _ | refine blk_drew ?_ | refine blk_alloc ?_ _)); exact BK444.out⟩, ⟨by repeat (first | (with_reducible first | exact HB.out | apply below_alloc | apply pw_below_drewN | apply below_drew1 | refine below_set ?_ GE433.out | refine below_set ?_ GE444.out | refine below_set ?_ GE448.out) | exact HB.out)⟩⟩
        · rw [if_neg c24] at H
          have c24b0 : (t447 == 0) = false := beq_eq_false_iff_ne.mpr c24
          have c24b1 : (t447 != 0) = true := bne_iff_ne.mpr c24
          obtain rfl := Option.some.inj H
          have hnb32 := NB433_444.out
          have hnc32 := NB444_433.out
          have hcz33_0 : w18.cell? ⟨gb433, 0, none⟩ = some (.int .u64 a1_0) := (blk_cell BK433.out 0).trans rfl
          have hcz33_1 : w18.cell? ⟨gb433, 1, none⟩ = some (.int .u64 a1_1) := (blk_cell BK433.out 1).trans rfl
          have hfz33_0 := blk_frozen BK433.out 0
          have hfz33_1 := blk_frozen BK433.out 1
          go_wp2_with (first | ((with_reducible refine gate_callee (f := 33) rfl ?_); refine goesL_ (some 63) rfl rfl Try.func33 (by kernel_rfl) rfl #[.int .i64 a0, .int .u64 a1_1] rfl (by (try simp only [List.map_toArray, List.map_cons, List.map_nil]); first | done | rfl | (simp only [List.length_drop, List.length_take]; rfl)) ?_; (with_reducible refine (node_Leaves.calls k a0 a1_1 t445 t446 t447 _ A23.out).mono ?_); rintro e w34 ⟨rfl, hb⟩; refine ⟨_, rfl, ?_⟩; have n0_ := Aside0.mk (Kd.R_below (by (with_reducible repeat (first | apply Kd.R_alloc | apply Kd.R_drewN | apply Kd.R_drew)); exact (Kd.R_mono (Kd.R_far (p := ⟨gb444, 1, none⟩) (Kd.R_far (p := ⟨gb444, 0, none⟩) (Kd.R_mono HO437.out (fun k_ hk => (⟨hk, hk.2⟩ : _ ∧ k_ ≠ gb444))) (fun _ hk => hk.2) (.int .u64 t441)) (fun _ hk => hk.2) (.int .u64 t442)) (fun _ h_ => h_.1))) hb); have n1_ := Aside0.mk (blk_below (g := gb433) (o := .cells #[.int .u64 a1_0, .int .u64 a1_1] 24 (0, 0)) (by (with_reducible repeat (first | refine blk_drewN ?_ _ | refine blk_drew ?_ | refine blk_alloc ?_ _)); refine blk_far ?_ NB433_444.out _; (with_reducible repeat (first | refine blk_drewN ?_ _ | refine blk_drew ?_ | refine blk_alloc ?_ _)); refine blk_far ?_ NB433_444.out _; (with_reducible repeat (first | refine blk_drewN ?_ _ | refine blk_drew ?_ | refine blk_alloc ?_ _)); exact BK433.out) hb); have n2_ := Aside0.mk (blk_below (g := gb444) (o := .cells #[.int .u64 t441, .int .u64 t442] 50 (0, 0)) (by (with_reducible repeat (first | refine blk_drewN ?_ _ | refine blk_drew ?_ | refine blk_alloc ?_ _)); refine blk_put (cs := #[.int .u64 t441, .int .u64 0]) ?_ 1 _ rfl; (with_reducible repeat (first | refine blk_drewN ?_ _ | refine blk_drew ?_ | refine blk_alloc ?_ _)); refine blk_put (cs := #[.int .u64 0, .int .u64 0]) ?_ 0 _ rfl; (with_reducible repeat (first | refine blk_drewN ?_ _ | refine blk_drew ?_ | refine blk_alloc ?_ _)); exact BK444.out) hb); have n3_ := Aside0.mk (below_step (by repeat (first | (with_reducible first | exact HB.out | apply below_alloc | apply pw_below_drewN | apply below_drew1 | refine below_set ?_ GE433.out | refine below_set ?_ GE444.out) | exact HB.out)) hb); clear HO437; clear BK433; clear BK444; clear HB; have HO437 := n0_; have BK433 := n1_; have BK444 := n2_; have HB := n3_; clear n0_ n1_ n2_ n3_; (try clear hb); (try clear hb2); (try clear hk); (try clear hi)) | ((with_reducible refine gate_dst (N := 15) rfl ?_); (try (refine gate_guard (by rfl) ?_; dsimp only)); refine box_event ?hg (N := 15) ?hd (cs := #[.int .u64 0, .int .u64 0]) (t := 50) ?hr ?_; (case hd => rfl); (case hg => rfl); (case hr => first | (go_simp; done) | (go_simp; rfl)); intro gb448 hg w35 hbox hb; have n0_ := Aside0.mk (Kd.R_below (Kd.R_elderB (by (with_reducible repeat (first | apply Kd.R_alloc | apply Kd.R_drewN | apply Kd.R_drew)); exact HO437.out) gb448 (Nat.le_of_eq hg.symm)) hb); have n1_ := Aside0.mk (blk_below (g := gb433) (o := .cells #[.int .u64 a1_0, .int .u64 a1_1] 24 (0, 0)) (by (with_reducible repeat (first | refine blk_drewN ?_ _ | refine blk_drew ?_ | refine blk_alloc ?_ _)); exact BK433.out) hb); have n2_ := Aside0.mk (blk_below (g := gb444) (o := .cells #[.int .u64 t441, .int .u64 t442] 50 (0, 0)) (by (with_reducible repeat (first | refine blk_drewN ?_ _ | refine blk_drew ?_ | refine blk_alloc ?_ _)); exact BK444.out) hb); have n3_ := Aside0.mk (below_step (by repeat (first | (with_reducible first | exact HB.out | apply below_alloc | apply pw_below_drewN | apply below_drew1 | refine below_set ?_ GE433.out | refine below_set ?_ GE444.out) | exact HB.out)) hb); have n4_ := Aside0.mk (hbox); have n5_ := Aside0.mk ((by rw [hg]; exact (below_size (by repeat (first | (with_reducible first | exact HB.out | apply below_alloc | apply pw_below_drewN | apply below_drew1 | refine below_set ?_ GE433.out | refine below_set ?_ GE444.out) | exact HB.out))) : w.heap.size ≤ gb448)); have n6_ := Aside0.mk ((by rw [hg]; exact (below_size (by repeat (first | (with_reducible first | exact HB.out | apply below_alloc | apply pw_below_drewN | apply below_drew1 | refine below_set ?_ GE433.out | refine below_set ?_ GE444.out) | exact HB.out))) : w.heap.size ≤ gb448)); have n7_ := Aside0.mk ((by rw [hg]; exact Nat.ne_of_lt (blk_lt (g := gb433) (o := .cells #[.int .u64 a1_0, .int .u64 a1_1] 24 (0, 0)) (by (with_reducible repeat (first | refine blk_drewN ?_ _ | refine blk_drew ?_ | refine blk_alloc ?_ _)); exact BK433.out)) : gb433 ≠ gb448)); have n8_ := Aside0.mk ((by rw [hg]; exact Nat.ne_of_gt (blk_lt (g := gb433) (o := .cells #[.int .u64 a1_0, .int .u64 a1_1] 24 (0, 0)) (by (with_reducible repeat (first | refine blk_drewN ?_ _ | refine blk_drew ?_ | refine blk_alloc ?_ _)); exact BK433.out)) : gb448 ≠ gb433)); have n9_ := Aside0.mk ((by rw [hg]; exact Nat.ne_of_lt (blk_lt (g := gb444) (o := .cells #[.int .u64 t441, .int .u64 t442] 50 (0, 0)) (by (with_reducible repeat (first | refine blk_drewN ?_ _ | refine blk_drew ?_ | refine blk_alloc ?_ _)); exact BK444.out)) : gb444 ≠ gb448)); have n10_ := Aside0.mk ((by rw [hg]; exact Nat.ne_of_gt (blk_lt (g := gb444) (o := .cells #[.int .u64 t441, .int .u64 t442] 50 (0, 0)) (by (with_reducible repeat (first | refine blk_drewN ?_ _ | refine blk_drew ?_ | refine blk_alloc ?_ _)); exact BK444.out)) : gb448 ≠ gb444)); clear HO437; clear BK433; clear BK444; clear HB; have HO437 := n0_; have BK433 := n1_; have BK444 := n2_; have HB := n3_; have BK448 := n4_; have GW448 := n5_; have GE448 := n6_; have NB433_448 := n7_; have NB448_433 := n8_; have NB444_448 := n9_; have NB448_444 := n10_; clear n0_ n1_ n2_ n3_ n4_ n5_ n6_ n7_ n8_ n9_ n10_; clear hb hbox hg; have hnb36 := NB448_433.out; have hnc36 := NB433_448.out; have hnb37 := NB448_444.out; have hnc37 := NB444_448.out; have hcz38_0 : w35.cell? ⟨gb448, 0, none⟩ = some (.int .u64 0) := (blk_cell BK448.out 0).trans rfl; have hcz38_1 : w35.cell? ⟨gb448, 1, none⟩ = some (.int .u64 0) := (blk_cell BK448.out 1).trans rfl; have hfz38_0 := blk_frozen BK448.out 0; have hfz38_1 := blk_frozen BK448.out 1))
          go_ret
          exact ⟨by first | rfl | (simp [errW_none, errW_some] <;> rfl) | (simp [*, errW_none, errW_some] <;> rfl), by repeat (first | (with_reducible first | exact HB.out | apply below_alloc | apply pw_below_drewN | apply below_drew1 | refine below_set ?_ GE433.out | refine below_set ?_ GE444.out | refine below_set ?_ GE448.out) | exact HB.out)⟩
    case rest =>
      clear HC9
      try clear c1
      try clear c2
      try clear p2
      try clear c3
      try clear c6
      try clear c6b0
      try clear c6b1
      try clear c8
      try clear c14
      try clear c19
      try clear c22
      try clear c22b0
      try clear c22b1
      try clear c24
      try clear c24b0
      try clear c24b1
      try clear c25
      try clear c29
      try clear c30
      try clear c32
      try clear c33
      try clear c36
      try clear c37
      try clear hcz12_0
      try clear hcz12_1
      try clear hcz16_0
      try clear hcz16_1
      try clear hcz20_0
      try clear hcz20_1
      try clear hcz21_0
      try clear hcz21_1
      try clear hcz26_0
      try clear hcz26_1
      try clear hcz31_0
      try clear hcz31_1
      try clear hcz33_0
      try clear hcz33_1
      try clear hcz38_0
      try clear hcz38_1
      try clear hfz12_0
      try clear hfz12_1
      try clear hfz16_0
      try clear hfz16_1
      try clear hfz20_0
      try clear hfz20_1
      try clear hfz21_0
      try clear hfz21_1
      try clear hfz26_0
      try clear hfz26_1
      try clear hfz31_0
      try clear hfz31_1
      try clear hfz33_0
      try clear hfz33_1
      try clear hfz38_0
      try clear hfz38_1
      obtain ⟨kq, x14_8, rfl, HA, HJ8, HO_8, BK433, BK444, HB⟩ := hcut
      cases kq with
      | zero => exact absurd HA.out (by simp [medlarlaw08_SubLeaves.j0])
      | succ kj8 =>
        have H := HA.out
        clear HA
        simp only [medlarlaw08_SubLeaves.j0] at H
        have HC39 := Aside0.mk H
        clear H
        go_upto_region 13 with (fail)
        go_cut [90] (fun v90 wc => ∃ (kq : Nat) (x90_38 : Bool), v90 = .bool x90_38 ∧ Aside0 (medlarlaw08_SubLeaves.j1 kq a0 a2 t434 t435 x90_38 a1_0 a1_1 = some r) ∧ Aside0 (kq ≤ kj8) ∧ Aside0 (Kd.R k50 50 wc w.heap.size (fun k_ => k_ ≠ gb444) (.slice Ao14 t435.length co14) t435) ∧ Aside0 (wc.heap[gb433]? = some (.cells #[.int .u64 a1_0, .int .u64 a1_1] 24 (0, 0))) ∧ Aside0 (wc.heap[gb444]? = some (.cells #[.int .u64 t441, .int .u64 t442] 50 (0, 0))) ∧ Aside0 (Below w.heap.size w wc))
        case first =>
          have H := HC39.out
          clear HC39
          by_cases c40 : t440 = 0
          · rw [if_pos c40] at H
            have c40b0 : (t440 == 0) = true := beq_iff_eq.mpr c40
            have c40b1 : (t440 != 0) = false := bne_eq_false_iff_eq.mpr c40
            clear c40
            (first | rw [c40b0] | (simp only [i64_w, i32_w]; rw [c40b0]) | skip)
            by_cases c41 : t443 = 0
            · rw [if_pos c41] at H
              have c41b0 : (t443 == 0) = true := beq_iff_eq.mpr c41
              have c41b1 : (t443 != 0) = false := bne_eq_false_iff_eq.mpr c41
              clear c41
              by_cases c42 : t439 = x14_8
              · rw [if_pos c42] at H
                have c42b0 : (t439 == x14_8) = true := beq_iff_eq.mpr c42
                have c42b1 : (t439 != x14_8) = false := bne_eq_false_iff_eq.mpr c42
                clear c42
                have H' := Aside0.mk H
                clear H
                go_wp2
                go_meet
                case rel => exact ⟨_, ((t439 == 0)), (by first | rfl | (simp; done) | (simp [*]; done)), H', ⟨by have := HJ8.out; first | omega | exact Nat.le_refl _⟩, ⟨by (with_reducible repeat (first | apply Kd.R_alloc | apply Kd.R_drewN | apply Kd.R_drew)); exact HO_8.out⟩, ⟨by (with_reducible repeat (first | refine blk_drewN ?_ _ | refine blk_drew ?_ | refine blk_alloc ?_ _)); exact BK433.out⟩, ⟨by (with_reducible repeat (first | refine blk_drewN ?_ _ | refine blk_drew ?_ | refine blk_alloc ?_ _)); exact BK444.out⟩, ⟨by repeat (first | (with_reducible first | exact HB.out | apply below_alloc | apply pw_below_drewN | apply below_drew1 | refine below_set ?_ GE433.out | refine below_set ?_ GE444.out) | exact HB.out)⟩⟩
              · rw [if_neg c42] at H
                have c42b0 : (t439 == x14_8) = false := beq_eq_false_iff_ne.mpr c42
                have c42b1 : (t439 != x14_8) = true := bne_iff_ne.mpr c42
                have H' := Aside0.mk H
                clear H
                go_wp2
                go_meet
                case rel => exact ⟨_, (true), (by first | rfl | (simp; done) | (simp [*]; done)), H', ⟨by have := HJ8.out; first | omega | exact Nat.le_refl _⟩, ⟨by (with_reducible repeat (first | apply Kd.R_alloc | apply Kd.R_drewN | apply Kd.R_drew)); exact HO_8.out⟩, ⟨by (with_reducible repeat (first | refine blk_drewN ?_ _ | refine blk_drew ?_ | refine blk_alloc ?_ _)); exact BK433.out⟩, ⟨by (with_reducible repeat (first | refine blk_drewN ?_ _ | refine blk_drew ?_ | refine blk_alloc ?_ _)); exact BK444.out⟩, ⟨by repeat (first | (with_reducible first | exact HB.out | apply below_alloc | apply pw_below_drewN | apply below_drew1 | refine below_set ?_ GE433.out | refine below_set ?_ GE444.out) | exact HB.out)⟩⟩
            · rw [if_neg c41] at H
              have c41b0 : (t443 == 0) = false := beq_eq_false_iff_ne.mpr c41
              have c41b1 : (t443 != 0) = true := bne_iff_ne.mpr c41
              have H' := Aside0.mk H
              clear H
              go_wp2
              go_meet
              case rel => exact ⟨_, (true), (by first | rfl | (simp; done) | (simp [*]; done)), H', ⟨by have := HJ8.out; first | omega | exact Nat.le_refl _⟩, ⟨by (with_reducible repeat (first | apply Kd.R_alloc | apply Kd.R_drewN | apply Kd.R_drew)); exact HO_8.out⟩, ⟨by (with_reducible repeat (first | refine blk_drewN ?_ _ | refine blk_drew ?_ | refine blk_alloc ?_ _)); exact BK433.out⟩, ⟨by (with_reducible repeat (first | refine blk_drewN ?_ _ | refine blk_drew ?_ | refine blk_alloc ?_ _)); exact BK444.out⟩, ⟨by repeat (first | (with_reducible first | exact HB.out | apply below_alloc | apply pw_below_drewN | apply below_drew1 | refine below_set ?_ GE433.out | refine below_set ?_ GE444.out) | exact HB.out)⟩⟩
          · rw [if_neg c40] at H
            have c40b0 : (t440 == 0) = false := beq_eq_false_iff_ne.mpr c40
            have c40b1 : (t440 != 0) = true := bne_iff_ne.mpr c40
            (first | rw [c40b0] | (simp only [i64_w, i32_w]; rw [c40b0]) | skip)
            have H' := Aside0.mk H
            clear H
            go_wp2
            go_meet
            case rel => exact ⟨_, (true), (by first | rfl | (simp; done) | (simp [*]; done)), H', ⟨by have := HJ8.out; first | omega | exact Nat.le_refl _⟩, ⟨by (with_reducible repeat (first | apply Kd.R_alloc | apply Kd.R_drewN | apply Kd.R_drew)); exact HO_8.out⟩, ⟨by (with_reducible repeat (first | refine blk_drewN ?_ _ | refine blk_drew ?_ | refine blk_alloc ?_ _)); exact BK433.out⟩, ⟨by (with_reducible repeat (first | refine blk_drewN ?_ _ | refine blk_drew ?_ | refine blk_alloc ?_ _)); exact BK444.out⟩, ⟨by repeat (first | (with_reducible first | exact HB.out | apply below_alloc | apply pw_below_drewN | apply below_drew1 | refine below_set ?_ GE433.out | refine below_set ?_ GE444.out) | exact HB.out)⟩⟩
        case rest =>
          clear HC39
          try clear c1
          try clear c2
          try clear p2
          try clear c3
          try clear c4
          try clear c6
          try clear c6b0
          try clear c6b1
          try clear c8
          try clear c14
          try clear c19
          try clear c22
          try clear c22b0
          try clear c22b1
          try clear c24
          try clear c24b0
          try clear c24b1
          try clear c25
          try clear c29
          try clear c30
          try clear c32
          try clear c33
          try clear c36
          try clear c37
          try clear c40
          try clear c40b0
          try clear c40b1
          try clear c41
          try clear c41b0
          try clear c41b1
          try clear c42
          try clear c42b0
          try clear c42b1
          try clear hcz12_0
          try clear hcz12_1
          try clear hcz16_0
          try clear hcz16_1
          try clear hcz20_0
          try clear hcz20_1
          try clear hcz21_0
          try clear hcz21_1
          try clear hcz26_0
          try clear hcz26_1
          try clear hcz31_0
          try clear hcz31_1
          try clear hcz33_0
          try clear hcz33_1
          try clear hcz38_0
          try clear hcz38_1
          try clear hfz12_0
          try clear hfz12_1
          try clear hfz16_0
          try clear hfz16_1
          try clear hfz20_0
          try clear hfz20_1
          try clear hfz21_0
          try clear hfz21_1
          try clear hfz26_0
          try clear hfz26_1
          try clear hfz31_0
          try clear hfz31_1
          try clear hfz33_0
          try clear hfz33_1
          try clear hfz38_0
          try clear hfz38_1
          try clear p2
          obtain ⟨kq, x90_38, rfl, HA, HJ38, HO_8, BK433, BK444, HB⟩ := hcut
          cases kq with
          | zero => exact absurd HA.out (by simp [medlarlaw08_SubLeaves.j1])
          | succ kj38 =>
            have H := HA.out
            clear HA
            simp only [medlarlaw08_SubLeaves.j1] at H
            by_cases c43 : x90_38 = true
            · subst c43
              have H1 : (some false) = some r := by rw [if_pos rfl] at H; exact H
              clear H
              have H := H1
              clear H1
              obtain rfl := Option.some.inj H
              go_wp2
              go_ret
              exact ⟨by first | rfl | (simp [errW_none, errW_some] <;> rfl) | (simp [*, errW_none, errW_some] <;> rfl), by repeat (first | (with_reducible first | exact HB.out | apply below_alloc | apply pw_below_drewN | apply below_drew1 | refine below_set ?_ GE433.out | refine below_set ?_ GE444.out) | exact HB.out)⟩
            · replace c43 := Bool.eq_false_iff.mpr c43
              subst c43
              have H1 : (medlarlaw08_SubLeaves.l0 kj38 a0 a2 t434 false t435 (t435.length : Int) 0 a1_0 a1_1) = some r := by rw [if_neg (show ¬ (false = true) by decide)] at H; exact H
              clear H
              have H := H1
              clear H1
              have H' := Aside0.mk H
              clear H
              go_wp2
              go_loopg [17, 93] kj38 (fun kq v17 v93 w' => ∃ (x17_3 : Bool) (x93_3 : Int), v17 = .bool x17_3 ∧ v93 = .int .i64 x93_3 ∧ Aside0 (medlarlaw08_SubLeaves.l0 kq a0 a2 t434 x17_3 t435 (t435.length : Int) x93_3 a1_0 a1_1 = some r) ∧ Aside0 (kq ≤ kj38) ∧ Aside0 (Kd.R k50 50 w' w.heap.size (fun k_ => k_ ≠ gb444) (.slice Ao14 t435.length co14) t435) ∧ Aside0 (w'.heap[gb433]? = some (.cells #[.int .u64 a1_0, .int .u64 a1_1] 24 (0, 0))) ∧ Aside0 (w'.heap[gb444]? = some (.cells #[.int .u64 t441, .int .u64 t442] 50 (0, 0))) ∧ Aside0 (Below w.heap.size w w'))
              case atStart => exact ⟨(false), (0), (by first | rfl | (simp; done) | (simp [*]; done)), (by first | rfl | (simp; done) | (simp [*]; done)), H', ⟨Nat.le_refl _⟩, ⟨by (with_reducible repeat (first | apply Kd.R_alloc | apply Kd.R_drewN | apply Kd.R_drew)); exact HO_8.out⟩, ⟨by (with_reducible repeat (first | refine blk_drewN ?_ _ | refine blk_drew ?_ | refine blk_alloc ?_ _)); exact BK433.out⟩, ⟨by (with_reducible repeat (first | refine blk_drewN ?_ _ | refine blk_drew ?_ | refine blk_alloc ?_ _)); exact BK444.out⟩, ⟨by repeat (first | (with_reducible first | exact HB.out | apply below_alloc | apply pw_below_drewN | apply below_drew1 | refine below_set ?_ GE433.out | refine below_set ?_ GE444.out) | exact HB.out)⟩⟩
              case round =>
                clear H'
                try clear c1
                try clear c2
                try clear p2
                try clear c3
                try clear c4
                try clear c6
                try clear c6b0
                try clear c6b1
                try clear c8
                try clear c14
                try clear c19
                try clear c22
                try clear c22b0
                try clear c22b1
                try clear c24
                try clear c24b0
                try clear c24b1
                try clear c25
                try clear c29
                try clear c30
                try clear c32
                try clear c33
                try clear c36
                try clear c37
                try clear c40
                try clear c40b0
                try clear c40b1
                try clear c41
                try clear c41b0
                try clear c41b1
                try clear c42
                try clear c42b0
                try clear c42b1
                try clear c43
                try clear hcz12_0
                try clear hcz12_1
                try clear hcz16_0
                try clear hcz16_1
                try clear hcz20_0
                try clear hcz20_1
                try clear hcz21_0
                try clear hcz21_1
                try clear hcz26_0
                try clear hcz26_1
                try clear hcz31_0
                try clear hcz31_1
                try clear hcz33_0
                try clear hcz33_1
                try clear hcz38_0
                try clear hcz38_1
                try clear hfz12_0
                try clear hfz12_1
                try clear hfz16_0
                try clear hfz16_1
                try clear hfz20_0
                try clear hfz20_1
                try clear hfz21_0
                try clear hfz21_1
                try clear hfz26_0
                try clear hfz26_1
                try clear hfz31_0
                try clear hfz31_1
                try clear hfz33_0
                try clear hfz33_1
                try clear hfz38_0
                try clear hfz38_1
                try clear p2
                obtain ⟨x17_3, x93_3, rfl, rfl, HA, HK3, HO_91, BK433, BK444, HB⟩ := hrel
                cases gk with
                | zero => exact absurd HA.out (by simp [medlarlaw08_SubLeaves.l0])
                | succ k3 =>
                  have H := HA.out
                  clear HA
                  simp only [medlarlaw08_SubLeaves.l0] at H
                  by_cases c44 : x93_3 < (t435.length : Int)
                  · rw [if_pos c44] at H
                    have c44b0 : decide (x93_3 < (t435.length : Int)) = true := decide_eq_true c44
                    clear c44
                    by_cases c45 : 0 ≤ x93_3
                    · rw [if_pos c45] at H
                      have c45b0 : decide (0 ≤ x93_3) = true := decide_eq_true c45
                      clear c45
                      by_cases c46 : x93_3 < (t435.length : Int)
                      · rw [if_pos c46] at H
                        have c46b0 : decide (x93_3 < (t435.length : Int)) = true := decide_eq_true c46
                        clear c46
                        by_cases c47 : x17_3 = true
                        · subst c47
                          have H1 : (medlarlaw08_SubLeaves.l0 k3 a0 a2 t434 true t435 (t435.length : Int) (wrap64 (x93_3 + 1)) a1_0 a1_1) = some r := by rw [if_pos rfl] at H; exact H
                          clear H
                          have H := H1
                          clear H1
                          have H' := Aside0.mk H
                          clear H
                          have p449 : 0 ≤ (x93_3 : Int) := of_decide_eq_true (by first | (with_reducible assumption) | assumption)
                          have q449 : x93_3 < (t435.length : Int) := of_decide_eq_true (by first | (with_reducible assumption) | assumption)
                          obtain ⟨ad449, e449, hx449_0, hx449_1⟩ := at_T50 (Kd.R_reads' HO_91.out).2.2 x93_3 p449 q449
                          cases e449
                          replace p449 := eq_true p449
                          replace q449 := eq_true q449
                          go_wp2_with (first | ((with_reducible refine gate_dst (N := 19) rfl ?_); (try (refine gate_guard (by rfl) ?_; dsimp only)); refine box_event ?hg (N := 19) ?hd (cs := #[.int .u64 0, .int .u64 0]) (t := 50) ?hr ?_; (case hd => rfl); (case hg => rfl); (case hr => first | (go_simp; done) | (go_simp; rfl)); intro gb450 hg w48 hbox hb; have n0_ := Aside0.mk (Kd.R_below (Kd.R_elderB (by (with_reducible repeat (first | apply Kd.R_alloc | apply Kd.R_drewN | apply Kd.R_drew)); exact HO_91.out) gb450 (Nat.le_of_eq hg.symm)) hb); have n1_ := Aside0.mk (blk_below (g := gb433) (o := .cells #[.int .u64 a1_0, .int .u64 a1_1] 24 (0, 0)) (by (with_reducible repeat (first | refine blk_drewN ?_ _ | refine blk_drew ?_ | refine blk_alloc ?_ _)); exact BK433.out) hb); have n2_ := Aside0.mk (blk_below (g := gb444) (o := .cells #[.int .u64 t441, .int .u64 t442] 50 (0, 0)) (by (with_reducible repeat (first | refine blk_drewN ?_ _ | refine blk_drew ?_ | refine blk_alloc ?_ _)); exact BK444.out) hb); have n3_ := Aside0.mk (below_step (by repeat (first | (with_reducible first | exact HB.out | apply below_alloc | apply pw_below_drewN | apply below_drew1 | refine below_set ?_ GE433.out | refine below_set ?_ GE444.out) | exact HB.out)) hb); have n4_ := Aside0.mk (hbox); have n5_ := Aside0.mk ((by rw [hg]; exact (below_size (by repeat (first | (with_reducible first | exact HB.out | apply below_alloc | apply pw_below_drewN | apply below_drew1 | refine below_set ?_ GE433.out | refine below_set ?_ GE444.out) | exact HB.out))) : w.heap.size ≤ gb450)); have n6_ := Aside0.mk ((by rw [hg]; exact (below_size (by repeat (first | (with_reducible first | exact HB.out | apply below_alloc | apply pw_below_drewN | apply below_drew1 | refine below_set ?_ GE433.out | refine below_set ?_ GE444.out) | exact HB.out))) : w.heap.size ≤ gb450)); have n7_ := Aside0.mk ((by rw [hg]; exact Nat.ne_of_lt (blk_lt (g := gb433) (o := .cells #[.int .u64 a1_0, .int .u64 a1_1] 24 (0, 0)) (by (with_reducible repeat (first | refine blk_drewN ?_ _ | refine blk_drew ?_ | refine blk_alloc ?_ _)); exact BK433.out)) : gb433 ≠ gb450)); have n8_ := Aside0.mk ((by rw [hg]; exact Nat.ne_of_gt (blk_lt (g := gb433) (o := .cells #[.int .u64 a1_0, .int .u64 a1_1] 24 (0, 0)) (by (with_reducible repeat (first | refine blk_drewN ?_ _ | refine blk_drew ?_ | refine blk_alloc ?_ _)); exact BK433.out)) : gb450 ≠ gb433)); have n9_ := Aside0.mk ((by rw [hg]; exact Nat.ne_of_lt (blk_lt (g := gb444) (o := .cells #[.int .u64 t441, .int .u64 t442] 50 (0, 0)) (by (with_reducible repeat (first | refine blk_drewN ?_ _ | refine blk_drew ?_ | refine blk_alloc ?_ _)); exact BK444.out)) : gb444 ≠ gb450)); have n10_ := Aside0.mk ((by rw [hg]; exact Nat.ne_of_gt (blk_lt (g := gb444) (o := .cells #[.int .u64 t441, .int .u64 t442] 50 (0, 0)) (by (with_reducible repeat (first | refine blk_drewN ?_ _ | refine blk_drew ?_ | refine blk_alloc ?_ _)); exact BK444.out)) : gb450 ≠ gb444)); clear HO_91; clear BK433; clear BK444; clear HB; have HO_91 := n0_; have BK433 := n1_; have BK444 := n2_; have HB := n3_; have BK450 := n4_; have GW450 := n5_; have GE450 := n6_; have NB433_450 := n7_; have NB450_433 := n8_; have NB444_450 := n9_; have NB450_444 := n10_; clear n0_ n1_ n2_ n3_ n4_ n5_ n6_ n7_ n8_ n9_ n10_; clear hb hbox hg; have hnb49 := NB450_433.out; have hnc49 := NB433_450.out; have hnb50 := NB450_444.out; have hnc50 := NB444_450.out; have hcz51_0 : w48.cell? ⟨gb450, 0, none⟩ = some (.int .u64 0) := (blk_cell BK450.out 0).trans rfl; have hcz51_1 : w48.cell? ⟨gb450, 1, none⟩ = some (.int .u64 0) := (blk_cell BK450.out 1).trans rfl; have hfz51_0 := blk_frozen BK450.out 0; have hfz51_1 := blk_frozen BK450.out 1))
                          go_roundg k3
                          case measure => have := HJ8.out; have := HJ38.out; have := HK3.out; omega
                          case rel => exact ⟨(true), (wrap64 (x93_3 + 1)), (by first | rfl | (simp; done) | (simp [*]; done)), (by first | rfl | (simp; done) | (simp [*]; done)), H', ⟨by have := HJ8.out; have := HJ38.out; have := HK3.out; omega⟩, ⟨by (with_reducible repeat (first | apply Kd.R_alloc | apply Kd.R_drewN | apply Kd.R_drew)); exact Kd.R_mono (Kd.R_far (p := ⟨gb450, 1, none⟩) (Kd.R_far (p := ⟨gb450, 0, none⟩) (Kd.R_mono HO_91.out (fun k_ hk => (⟨hk, hk.2⟩ : _ ∧ k_ ≠ gb450))) (fun _ hk => hk.2) (.int .u64 ((rd_T50 t435 x93_3).f0))) (fun _ hk => hk.2) (.int .u64 ((rd_T50 t435 x93_3).f1))) (fun _ hk => hk.1.1)⟩, ⟨by (with_reducible repeat (first | refine blk_drewN ?_ _ | refine blk_drew ?_ | refine blk_alloc ?_ _)); refine blk_far ?_ NB433_450.out _; (with_reducible repeat (first | refine blk_drewN ?_ _ | refine blk_drew ?_ | refine blk_alloc ?_ _)); refine blk_far ?_ NB433_450.out _; (with_reducible repeat (first | refine blk_drewN ?_ _ | refine blk_drew ?_ | refine blk_alloc ?_ _)); exact BK433.out⟩, ⟨by (with_reducible repeat (first | refine blk_drewN ?_ _ | refine blk_drew ?_ | refine blk_alloc ?_ _)); refine blk_far ?_ NB444_450.out _; (with_reducible repeat (first | refine blk_drewN ?_ _ | refine blk_drew ?_ | refine blk_alloc ?_ _)); refine blk_far ?_ NB444_450.out _; (with_reducible repeat (first | refine blk_drewN ?_ _ | refine blk_drew ?_ | refine blk_alloc ?_ _)); exact BK444.out⟩, ⟨by repeat (first | (with_reducible first | exact HB.out | apply below_alloc | apply pw_below_drewN | apply below_drew1 | refine below_set ?_ GE433.out | refine below_set ?_ GE444.out | refine below_set ?_ GE450.out) | exact HB.out)⟩⟩
                        · replace c47 := Bool.eq_false_iff.mpr c47
                          subst c47
                          have H1 : (if ((rd_T50 t435 x93_3).f0) ≤ a2 then (medlarlaw08_SubLeaves.l0 k3 a0 a2 t434 (decide (a2 ≤ ((rd_T50 t435 x93_3).f1))) t435 (t435.length : Int) (wrap64 (x93_3 + 1)) a1_0 a1_1) else (medlarlaw08_SubLeaves.l0 k3 a0 a2 t434 false t435 (t435.length : Int) (wrap64 (x93_3 + 1)) a1_0 a1_1)) = some r := by rw [if_neg (show ¬ (false = true) by decide)] at H; exact H
                          clear H
                          have H := H1
                          clear H1
                          by_cases c52 : ((rd_T50 t435 x93_3).f0) ≤ a2
                          · rw [if_pos c52] at H
                            have c52b0 : decide (((rd_T50 t435 x93_3).f0) ≤ a2) = true := decide_eq_true c52
                            clear c52
                            have H' := Aside0.mk H
                            clear H
                            have p449 : 0 ≤ (x93_3 : Int) := of_decide_eq_true (by first | (with_reducible assumption) | assumption)
                            have q449 : x93_3 < (t435.length : Int) := of_decide_eq_true (by first | (with_reducible assumption) | assumption)
                            obtain ⟨ad449, e449, hx449_0, hx449_1⟩ := at_T50 (Kd.R_reads' HO_91.out).2.2 x93_3 p449 q449
                            cases e449
                            replace p449 := eq_true p449
                            replace q449 := eq_true q449
                            go_wp2_with (first | ((with_reducible refine gate_dst (N := 19) rfl ?_); (try (refine gate_guard (by rfl) ?_; dsimp only)); refine box_event ?hg (N := 19) ?hd (cs := #[.int .u64 0, .int .u64 0]) (t := 50) ?hr ?_; (case hd => rfl); (case hg => rfl); (case hr => first | (go_simp; done) | (go_simp; rfl)); intro gb450 hg w53 hbox hb; have n0_ := Aside0.mk (Kd.R_below (Kd.R_elderB (by (with_reducible repeat (first | apply Kd.R_alloc | apply Kd.R_drewN | apply Kd.R_drew)); exact HO_91.out) gb450 (Nat.le_of_eq hg.symm)) hb); have n1_ := Aside0.mk (blk_below (g := gb433) (o := .cells #[.int .u64 a1_0, .int .u64 a1_1] 24 (0, 0)) (by (with_reducible repeat (first | refine blk_drewN ?_ _ | refine blk_drew ?_ | refine blk_alloc ?_ _)); exact BK433.out) hb); have n2_ := Aside0.mk (blk_below (g := gb444) (o := .cells #[.int .u64 t441, .int .u64 t442] 50 (0, 0)) (by (with_reducible repeat (first | refine blk_drewN ?_ _ | refine blk_drew ?_ | refine blk_alloc ?_ _)); exact BK444.out) hb); have n3_ := Aside0.mk (below_step (by repeat (first | (with_reducible first | exact HB.out | apply below_alloc | apply pw_below_drewN | apply below_drew1 | refine below_set ?_ GE433.out | refine below_set ?_ GE444.out) | exact HB.out)) hb); have n4_ := Aside0.mk (hbox); have n5_ := Aside0.mk ((by rw [hg]; exact (below_size (by repeat (first | (with_reducible first | exact HB.out | apply below_alloc | apply pw_below_drewN | apply below_drew1 | refine below_set ?_ GE433.out | refine below_set ?_ GE444.out) | exact HB.out))) : w.heap.size ≤ gb450)); have n6_ := Aside0.mk ((by rw [hg]; exact (below_size (by repeat (first | (with_reducible first | exact HB.out | apply below_alloc | apply pw_below_drewN | apply below_drew1 | refine below_set ?_ GE433.out | refine below_set ?_ GE444.out) | exact HB.out))) : w.heap.size ≤ gb450)); have n7_ := Aside0.mk ((by rw [hg]; exact Nat.ne_of_lt (blk_lt (g := gb433) (o := .cells #[.int .u64 a1_0, .int .u64 a1_1] 24 (0, 0)) (by (with_reducible repeat (first | refine blk_drewN ?_ _ | refine blk_drew ?_ | refine blk_alloc ?_ _)); exact BK433.out)) : gb433 ≠ gb450)); have n8_ := Aside0.mk ((by rw [hg]; exact Nat.ne_of_gt (blk_lt (g := gb433) (o := .cells #[.int .u64 a1_0, .int .u64 a1_1] 24 (0, 0)) (by (with_reducible repeat (first | refine blk_drewN ?_ _ | refine blk_drew ?_ | refine blk_alloc ?_ _)); exact BK433.out)) : gb450 ≠ gb433)); have n9_ := Aside0.mk ((by rw [hg]; exact Nat.ne_of_lt (blk_lt (g := gb444) (o := .cells #[.int .u64 t441, .int .u64 t442] 50 (0, 0)) (by (with_reducible repeat (first | refine blk_drewN ?_ _ | refine blk_drew ?_ | refine blk_alloc ?_ _)); exact BK444.out)) : gb444 ≠ gb450)); have n10_ := Aside0.mk ((by rw [hg]; exact Nat.ne_of_gt (blk_lt (g := gb444) (o := .cells #[.int .u64 t441, .int .u64 t442] 50 (0, 0)) (by (with_reducible repeat (first | refine blk_drewN ?_ _ | refine blk_drew ?_ | refine blk_alloc ?_ _)); exact BK444.out)) : gb450 ≠ gb444)); clear HO_91; clear BK433; clear BK444; clear HB; have HO_91 := n0_; have BK433 := n1_; have BK444 := n2_; have HB := n3_; have BK450 := n4_; have GW450 := n5_; have GE450 := n6_; have NB433_450 := n7_; have NB450_433 := n8_; have NB444_450 := n9_; have NB450_444 := n10_; clear n0_ n1_ n2_ n3_ n4_ n5_ n6_ n7_ n8_ n9_ n10_; clear hb hbox hg; have hnb54 := NB450_433.out; have hnc54 := NB433_450.out; have hnb55 := NB450_444.out; have hnc55 := NB444_450.out; have hcz56_0 : w53.cell? ⟨gb450, 0, none⟩ = some (.int .u64 0) := (blk_cell BK450.out 0).trans rfl; have hcz56_1 : w53.cell? ⟨gb450, 1, none⟩ = some (.int .u64 0) := (blk_cell BK450.out 1).trans rfl; have hfz56_0 := blk_frozen BK450.out 0; have hfz56_1 := blk_frozen BK450.out 1))
                            go_roundg k3
                            case measure => have := HJ8.out; have := HJ38.out; have := HK3.out; omega
                            case rel => exact ⟨(decide (a2 ≤ ((rd_T50 t435 x93_3).f1))), (wrap64 (x93_3 + 1)), (by first | rfl | (simp; done) | (simp [*]; done)), (by first | rfl | (simp; done) | (simp [*]; done)), H', ⟨by have := HJ8.out; have := HJ38.out; have := HK3.out; omega⟩, ⟨by (with_reducible repeat (first | apply Kd.R_alloc | apply Kd.R_drewN | apply Kd.R_drew)); exact Kd.R_mono (Kd.R_far (p := ⟨gb450, 1, none⟩) (Kd.R_far (p := ⟨gb450, 0, none⟩) (Kd.R_mono HO_91.out (fun k_ hk => (⟨hk, hk.2⟩ : _ ∧ k_ ≠ gb450))) (fun _ hk => hk.2) (.int .u64 ((rd_T50 t435 x93_3).f0))) (fun _ hk => hk.2) (.int .u64 ((rd_T50 t435 x93_3).f1))) (fun _ hk => hk.1.1)⟩, ⟨by (with_reducible repeat (first | refine blk_drewN ?_ _ | refine blk_drew ?_ | refine blk_alloc ?_ _)); refine blk_far ?_ NB433_450.out _; (with_reducible repeat (first | refine blk_drewN ?_ _ | refine blk_drew ?_ | refine blk_alloc ?_ _)); refine blk_far ?_ NB433_450.out _; (with_reducible repeat (first | refine blk_drewN ?_ _ | refine blk_drew ?_ | refine blk_alloc ?_ _)); exact BK433.out⟩, ⟨by (with_reducible repeat (first | refine blk_drewN ?_ _ | refine blk_drew ?_ | refine blk_alloc ?_ _)); refine blk_far ?_ NB444_450.out _; (with_reducible repeat (first | refine blk_drewN ?_ _ | refine blk_drew ?_ | refine blk_alloc ?_ _)); refine blk_far ?_ NB444_450.out _; (with_reducible repeat (first | refine blk_drewN ?_ _ | refine blk_drew ?_ | refine blk_alloc ?_ _)); exact BK444.out⟩, ⟨by repeat (first | (with_reducible first | exact HB.out | apply below_alloc | apply pw_below_drewN | apply below_drew1 | refine below_set ?_ GE433.out | refine below_set ?_ GE444.out | refine below_set ?_ GE450.out) | exact HB.out)⟩⟩
                          · rw [if_neg c52] at H
                            have c52b0 : decide (((rd_T50 t435 x93_3).f0) ≤ a2) = false := decide_eq_false c52
                            clear c52
                            have H' := Aside0.mk H
                            clear H
                            have p449 : 0 ≤ (x93_3 : Int) := of_decide_eq_true (by first | (with_reducible assumption) | assumption)
                            have q449 : x93_3 < (t435.length : Int) := of_decide_eq_true (by first | (with_reducible assumption) | assumption)
                            obtain ⟨ad449, e449, hx449_0, hx449_1⟩ := at_T50 (Kd.R_reads' HO_91.out).2.2 x93_3 p449 q449
                            cases e449
                            replace p449 := eq_true p449
                            replace q449 := eq_true q449
                            go_wp2_with (first | ((with_reducible refine gate_dst (N := 19) rfl ?_); (try (refine gate_guard (by rfl) ?_; dsimp only)); refine box_event ?hg (N := 19) ?hd (cs := #[.int .u64 0, .int .u64 0]) (t := 50) ?hr ?_; (case hd => rfl); (case hg => rfl); (case hr => first | (go_simp; done) | (go_simp; rfl)); intro gb450 hg w57 hbox hb; have n0_ := Aside0.mk (Kd.R_below (Kd.R_elderB (by (with_reducible repeat (first | apply Kd.R_alloc | apply Kd.R_drewN | apply Kd.R_drew)); exact HO_91.out) gb450 (Nat.le_of_eq hg.symm)) hb); have n1_ := Aside0.mk (blk_below (g := gb433) (o := .cells #[.int .u64 a1_0, .int .u64 a1_1] 24 (0, 0)) (by (with_reducible repeat (first | refine blk_drewN ?_ _ | refine blk_drew ?_ | refine blk_alloc ?_ _)); exact BK433.out) hb); have n2_ := Aside0.mk (blk_below (g := gb444) (o := .cells #[.int .u64 t441, .int .u64 t442] 50 (0, 0)) (by (with_reducible repeat (first | refine blk_drewN ?_ _ | refine blk_drew ?_ | refine blk_alloc ?_ _)); exact BK444.out) hb); have n3_ := Aside0.mk (below_step (by repeat (first | (with_reducible first | exact HB.out | apply below_alloc | apply pw_below_drewN | apply below_drew1 | refine below_set ?_ GE433.out | refine below_set ?_ GE444.out) | exact HB.out)) hb); have n4_ := Aside0.mk (hbox); have n5_ := Aside0.mk ((by rw [hg]; exact (below_size (by repeat (first | (with_reducible first | exact HB.out | apply below_alloc | apply pw_below_drewN | apply below_drew1 | refine below_set ?_ GE433.out | refine below_set ?_ GE444.out) | exact HB.out))) : w.heap.size ≤ gb450)); have n6_ := Aside0.mk ((by rw [hg]; exact (below_size (by repeat (first | (with_reducible first | exact HB.out | apply below_alloc | apply pw_below_drewN | apply below_drew1 | refine below_set ?_ GE433.out | refine below_set ?_ GE444.out) | exact HB.out))) : w.heap.size ≤ gb450)); have n7_ := Aside0.mk ((by rw [hg]; exact Nat.ne_of_lt (blk_lt (g := gb433) (o := .cells #[.int .u64 a1_0, .int .u64 a1_1] 24 (0, 0)) (by (with_reducible repeat (first | refine blk_drewN ?_ _ | refine blk_drew ?_ | refine blk_alloc ?_ _)); exact BK433.out)) : gb433 ≠ gb450)); have n8_ := Aside0.mk ((by rw [hg]; exact Nat.ne_of_gt (blk_lt (g := gb433) (o := .cells #[.int .u64 a1_0, .int .u64 a1_1] 24 (0, 0)) (by (with_reducible repeat (first | refine blk_drewN ?_ _ | refine blk_drew ?_ | refine blk_alloc ?_ _)); exact BK433.out)) : gb450 ≠ gb433)); have n9_ := Aside0.mk ((by rw [hg]; exact Nat.ne_of_lt (blk_lt (g := gb444) (o := .cells #[.int .u64 t441, .int .u64 t442] 50 (0, 0)) (by (with_reducible repeat (first | refine blk_drewN ?_ _ | refine blk_drew ?_ | refine blk_alloc ?_ _)); exact BK444.out)) : gb444 ≠ gb450)); have n10_ := Aside0.mk ((by rw [hg]; exact Nat.ne_of_gt (blk_lt (g := gb444) (o := .cells #[.int .u64 t441, .int .u64 t442] 50 (0, 0)) (by (with_reducible repeat (first | refine blk_drewN ?_ _ | refine blk_drew ?_ | refine blk_alloc ?_ _)); exact BK444.out)) : gb450 ≠ gb444)); clear HO_91; clear BK433; clear BK444; clear HB; have HO_91 := n0_; have BK433 := n1_; have BK444 := n2_; have HB := n3_; have BK450 := n4_; have GW450 := n5_; have GE450 := n6_; have NB433_450 := n7_; have NB450_433 := n8_; have NB444_450 := n9_; have NB450_444 := n10_; clear n0_ n1_ n2_ n3_ n4_ n5_ n6_ n7_ n8_ n9_ n10_; clear hb hbox hg; have hnb58 := NB450_433.out; have hnc58 := NB433_450.out; have hnb59 := NB450_444.out; have hnc59 := NB444_450.out; have hcz60_0 : w57.cell? ⟨gb450, 0, none⟩ = some (.int .u64 0) := (blk_cell BK450.out 0).trans rfl; have hcz60_1 : w57.cell? ⟨gb450, 1, none⟩ = some (.int .u64 0) := (blk_cell BK450.out 1).trans rfl; have hfz60_0 := blk_frozen BK450.out 0; have hfz60_1 := blk_frozen BK450.out 1))
                            go_roundg k3
                            case measure => have := HJ8.out; have := HJ38.out; have := HK3.out; omega
                            case rel => exact ⟨(false), (wrap64 (x93_3 + 1)), (by first | rfl | (simp; done) | (simp [*]; done)), (by first | rfl | (simp; done) | (simp [*]; done)), H', ⟨by have := HJ8.out; have := HJ38.out; have := HK3.out; omega⟩, ⟨by (with_reducible repeat (first | apply Kd.R_alloc | apply Kd.R_drewN | apply Kd.R_drew)); exact Kd.R_mono (Kd.R_far (p := ⟨gb450, 1, none⟩) (Kd.R_far (p := ⟨gb450, 0, none⟩) (Kd.R_mono HO_91.out (fun k_ hk => (⟨hk, hk.2⟩ : _ ∧ k_ ≠ gb450))) (fun _ hk => hk.2) (.int .u64 ((rd_T50 t435 x93_3).f0))) (fun _ hk => hk.2) (.int .u64 ((rd_T50 t435 x93_3).f1))) (fun _ hk => hk.1.1)⟩, ⟨by (with_reducible repeat (first | refine blk_drewN ?_ _ | refine blk_drew ?_ | refine blk_alloc ?_ _)); refine blk_far ?_ NB433_450.out _; (with_reducible repeat (first | refine blk_drewN ?_ _ | refine blk_drew ?_ | refine blk_alloc ?_ _)); refine blk_far ?_ NB433_450.out _; (with_reducible repeat (first | refine blk_drewN ?_ _ | refine blk_drew ?_ | refine blk_alloc ?_ _)); exact BK433.out⟩, ⟨by (with_reducible repeat (first | refine blk_drewN ?_ _ | refine blk_drew ?_ | refine blk_alloc ?_ _)); refine blk_far ?_ NB444_450.out _; (with_reducible repeat (first | refine blk_drewN ?_ _ | refine blk_drew ?_ | refine blk_alloc ?_ _)); refine blk_far ?_ NB444_450.out _; (with_reducible repeat (first | refine blk_drewN ?_ _ | refine blk_drew ?_ | refine blk_alloc ?_ _)); exact BK444.out⟩, ⟨by repeat (first | (with_reducible first | exact HB.out | apply below_alloc | apply pw_below_drewN | apply below_drew1 | refine below_set ?_ GE433.out | refine below_set ?_ GE444.out | refine below_set ?_ GE450.out) | exact HB.out)⟩⟩
                      · rw [if_neg c46] at H
                        exact absurd H (by simp)
                    · rw [if_neg c45] at H
                      exact absurd H (by simp)
                  · rw [if_neg c44] at H
                    have c44b0 : decide (x93_3 < (t435.length : Int)) = false := decide_eq_false c44
                    clear c44
                    replace H := Option.bind_eq_some_iff.mp H
                    obtain ⟨⟨t451, t452⟩, A610, H⟩ := H
                    replace H : (if t452 = 0 then (if t434 = true then (some (x17_3 == t451)) else (some false)) else (if t434 = true then (some (!x17_3)) else (some false))) = some r := H
                    have A61 := Aside0.mk A610
                    clear A610
                    by_cases c62 : t452 = 0
                    · rw [if_pos c62] at H
                      have c62b0 : (t452 == 0) = true := beq_iff_eq.mpr c62
                      have c62b1 : (t452 != 0) = false := bne_eq_false_iff_eq.mpr c62
                      clear c62
                      by_cases c63 : t434 = true
                      · subst c63
                        have H1 : (some (x17_3 == t451)) = some r := by rw [if_pos rfl] at H; exact H
                        clear H
                        have H := H1
                        clear H1
                        obtain rfl := Option.some.inj H
                        have hnb64 := NB433_444.out
                        have hnc64 := NB444_433.out
                        have hcz65_0 : wr.cell? ⟨gb433, 0, none⟩ = some (.int .u64 a1_0) := (blk_cell BK433.out 0).trans rfl
                        have hcz65_1 : wr.cell? ⟨gb433, 1, none⟩ = some (.int .u64 a1_1) := (blk_cell BK433.out 1).trans rfl
                        have hfz65_0 := blk_frozen BK433.out 0
                        have hfz65_1 := blk_frozen BK433.out 1
                        go_wp2_with (first | ((with_reducible refine gate_callee (f := 34) rfl ?_); refine goesL_ (some 115) rfl rfl Try.func34 (by kernel_rfl) rfl #[.int .i64 a0, .agg #[.int .u64 a1_0, .int .u64 a1_1], .int .u64 a2] rfl (by (try simp only [List.map_toArray, List.map_cons, List.map_nil]); first | done | rfl | (simp only [List.length_drop, List.length_take]; rfl)) ?_; (with_reducible refine (sub_Has.calls k3 a0 a1_0 a1_1 a2 t451 t452 _ A61.out).mono ?_); rintro e w66 ⟨rfl, hb⟩; refine ⟨_, rfl, ?_⟩; have n0_ := Aside0.mk (Kd.R_below (by (with_reducible repeat (first | apply Kd.R_alloc | apply Kd.R_drewN | apply Kd.R_drew)); exact HO_91.out) hb); have n1_ := Aside0.mk (blk_below (g := gb433) (o := .cells #[.int .u64 a1_0, .int .u64 a1_1] 24 (0, 0)) (by (with_reducible repeat (first | refine blk_drewN ?_ _ | refine blk_drew ?_ | refine blk_alloc ?_ _)); exact BK433.out) hb); have n2_ := Aside0.mk (blk_below (g := gb444) (o := .cells #[.int .u64 t441, .int .u64 t442] 50 (0, 0)) (by (with_reducible repeat (first | refine blk_drewN ?_ _ | refine blk_drew ?_ | refine blk_alloc ?_ _)); exact BK444.out) hb); have n3_ := Aside0.mk (below_step (by repeat (first | (with_reducible first | exact HB.out | apply below_alloc | apply pw_below_drewN | apply below_drew1 | refine below_set ?_ GE433.out | refine below_set ?_ GE444.out) | exact HB.out)) hb); clear HO_91; clear BK433; clear BK444; clear HB; have HO_91 := n0_; have BK433 := n1_; have BK444 := n2_; have HB := n3_; clear n0_ n1_ n2_ n3_; (try clear hb); (try clear hb2); (try clear hk); (try clear hi)))
                        go_ret
                        exact ⟨by first | rfl | (simp [errW_none, errW_some] <;> rfl) | (simp [*, errW_none, errW_some] <;> rfl), by repeat (first | (with_reducible first | exact HB.out | apply below_alloc | apply pw_below_drewN | apply below_drew1 | refine below_set ?_ GE433.out | refine below_set ?_ GE444.out) | exact HB.out)⟩
                      · replace c63 := Bool.eq_false_iff.mpr c63
                        subst c63
                        have H1 : (some false) = some r := by rw [if_neg (show ¬ (false = true) by decide)] at H; exact H
                        clear H
                        have H := H1
                        clear H1
                        obtain rfl := Option.some.inj H
                        have hnb67 := NB433_444.out
                        have hnc67 := NB444_433.out
                        have hcz68_0 : wr.cell? ⟨gb433, 0, none⟩ = some (.int .u64 a1_0) := (blk_cell BK433.out 0).trans rfl
                        have hcz68_1 : wr.cell? ⟨gb433, 1, none⟩ = some (.int .u64 a1_1) := (blk_cell BK433.out 1).trans rfl
                        have hfz68_0 := blk_frozen BK433.out 0
                        have hfz68_1 := blk_frozen BK433.out 1
                        go_wp2_with (first | ((with_reducible refine gate_callee (f := 34) rfl ?_); refine goesL_ (some 115) rfl rfl Try.func34 (by kernel_rfl) rfl #[.int .i64 a0, .agg #[.int .u64 a1_0, .int .u64 a1_1], .int .u64 a2] rfl (by (try simp only [List.map_toArray, List.map_cons, List.map_nil]); first | done | rfl | (simp only [List.length_drop, List.length_take]; rfl)) ?_; (with_reducible refine (sub_Has.calls k3 a0 a1_0 a1_1 a2 t451 t452 _ A61.out).mono ?_); rintro e w69 ⟨rfl, hb⟩; refine ⟨_, rfl, ?_⟩; have n0_ := Aside0.mk (Kd.R_below (by (with_reducible repeat (first | apply Kd.R_alloc | apply Kd.R_drewN | apply Kd.R_drew)); exact HO_91.out) hb); have n1_ := Aside0.mk (blk_below (g := gb433) (o := .cells #[.int .u64 a1_0, .int .u64 a1_1] 24 (0, 0)) (by (with_reducible repeat (first | refine blk_drewN ?_ _ | refine blk_drew ?_ | refine blk_alloc ?_ _)); exact BK433.out) hb); have n2_ := Aside0.mk (blk_below (g := gb444) (o := .cells #[.int .u64 t441, .int .u64 t442] 50 (0, 0)) (by (with_reducible repeat (first | refine blk_drewN ?_ _ | refine blk_drew ?_ | refine blk_alloc ?_ _)); exact BK444.out) hb); have n3_ := Aside0.mk (below_step (by repeat (first | (with_reducible first | exact HB.out | apply below_alloc | apply pw_below_drewN | apply below_drew1 | refine below_set ?_ GE433.out | refine below_set ?_ GE444.out) | exact HB.out)) hb); clear HO_91; clear BK433; clear BK444; clear HB; have HO_91 := n0_; have BK433 := n1_; have BK444 := n2_; have HB := n3_; clear n0_ n1_ n2_ n3_; (try clear hb); (try clear hb2); (try clear hk); (try clear hi)))
                        go_ret
                        exact ⟨by first | rfl | (simp [errW_none, errW_some] <;> rfl) | (simp [*, errW_none, errW_some] <;> rfl), by repeat (first | (with_reducible first | exact HB.out | apply below_alloc | apply pw_below_drewN | apply below_drew1 | refine below_set ?_ GE433.out | refine below_set ?_ GE444.out) | exact HB.out)⟩
                    · rw [if_neg c62] at H
                      have c62b0 : (t452 == 0) = false := beq_eq_false_iff_ne.mpr c62
                      have c62b1 : (t452 != 0) = true := bne_iff_ne.mpr c62
                      by_cases c70 : t434 = true
                      · subst c70
                        have H1 : (some (!x17_3)) = some r := by rw [if_pos rfl] at H; exact H
                        clear H
                        have H := H1
                        clear H1
                        obtain rfl := Option.some.inj H
                        have hnb71 := NB433_444.out
                        have hnc71 := NB444_433.out
                        have hcz72_0 : wr.cell? ⟨gb433, 0, none⟩ = some (.int .u64 a1_0) := (blk_cell BK433.out 0).trans rfl
                        have hcz72_1 : wr.cell? ⟨gb433, 1, none⟩ = some (.int .u64 a1_1) := (blk_cell BK433.out 1).trans rfl
                        have hfz72_0 := blk_frozen BK433.out 0
                        have hfz72_1 := blk_frozen BK433.out 1
                        go_wp2_with (first | ((with_reducible refine gate_callee (f := 34) rfl ?_); refine goesL_ (some 115) rfl rfl Try.func34 (by kernel_rfl) rfl #[.int .i64 a0, .agg #[.int .u64 a1_0, .int .u64 a1_1], .int .u64 a2] rfl (by (try simp only [List.map_toArray, List.map_cons, List.map_nil]); first | done | rfl | (simp only [List.length_drop, List.length_take]; rfl)) ?_; (with_reducible refine (sub_Has.calls k3 a0 a1_0 a1_1 a2 t451 t452 _ A61.out).mono ?_); rintro e w73 ⟨rfl, hb⟩; refine ⟨_, rfl, ?_⟩; have n0_ := Aside0.mk (Kd.R_below (by (with_reducible repeat (first | apply Kd.R_alloc | apply Kd.R_drewN | apply Kd.R_drew)); exact HO_91.out) hb); have n1_ := Aside0.mk (blk_below (g := gb433) (o := .cells #[.int .u64 a1_0, .int .u64 a1_1] 24 (0, 0)) (by (with_reducible repeat (first | refine blk_drewN ?_ _ | refine blk_drew ?_ | refine blk_alloc ?_ _)); exact BK433.out) hb); have n2_ := Aside0.mk (blk_below (g := gb444) (o := .cells #[.int .u64 t441, .int .u64 t442] 50 (0, 0)) (by (with_reducible repeat (first | refine blk_drewN ?_ _ | refine blk_drew ?_ | refine blk_alloc ?_ _)); exact BK444.out) hb); have n3_ := Aside0.mk (below_step (by repeat (first | (with_reducible first | exact HB.out | apply below_alloc | apply pw_below_drewN | apply below_drew1 | refine below_set ?_ GE433.out | refine below_set ?_ GE444.out) | exact HB.out)) hb); clear HO_91; clear BK433; clear BK444; clear HB; have HO_91 := n0_; have BK433 := n1_; have BK444 := n2_; have HB := n3_; clear n0_ n1_ n2_ n3_; (try clear hb); (try clear hb2); (try clear hk); (try clear hi)))
                        go_ret
                        exact ⟨by first | rfl | (simp [errW_none, errW_some] <;> rfl) | (simp [*, errW_none, errW_some] <;> rfl), by repeat (first | (with_reducible first | exact HB.out | apply below_alloc | apply pw_below_drewN | apply below_drew1 | refine below_set ?_ GE433.out | refine below_set ?_ GE444.out) | exact HB.out)⟩
                      · replace c70 := Bool.eq_false_iff.mpr c70
                        subst c70
                        have H1 : (some false) = some r := by rw [if_neg (show ¬ (false = true) by decide)] at H; exact H
                        clear H
                        have H := H1
                        clear H1
                        obtain rfl := Option.some.inj H
                        have hnb74 := NB433_444.out
                        have hnc74 := NB444_433.out
                        have hcz75_0 : wr.cell? ⟨gb433, 0, none⟩ = some (.int .u64 a1_0) := (blk_cell BK433.out 0).trans rfl
                        have hcz75_1 : wr.cell? ⟨gb433, 1, none⟩ = some (.int .u64 a1_1) := (blk_cell BK433.out 1).trans rfl
                        have hfz75_0 := blk_frozen BK433.out 0
                        have hfz75_1 := blk_frozen BK433.out 1
                        go_wp2_with (first | ((with_reducible refine gate_callee (f := 34) rfl ?_); refine goesL_ (some 115) rfl rfl Try.func34 (by kernel_rfl) rfl #[.int .i64 a0, .agg #[.int .u64 a1_0, .int .u64 a1_1], .int .u64 a2] rfl (by (try simp only [List.map_toArray, List.map_cons, List.map_nil]); first | done | rfl | (simp only [List.length_drop, List.length_take]; rfl)) ?_; (with_reducible refine (sub_Has.calls k3 a0 a1_0 a1_1 a2 t451 t452 _ A61.out).mono ?_); rintro e w76 ⟨rfl, hb⟩; refine ⟨_, rfl, ?_⟩; have n0_ := Aside0.mk (Kd.R_below (by (with_reducible repeat (first | apply Kd.R_alloc | apply Kd.R_drewN | apply Kd.R_drew)); exact HO_91.out) hb); have n1_ := Aside0.mk (blk_below (g := gb433) (o := .cells #[.int .u64 a1_0, .int .u64 a1_1] 24 (0, 0)) (by (with_reducible repeat (first | refine blk_drewN ?_ _ | refine blk_drew ?_ | refine blk_alloc ?_ _)); exact BK433.out) hb); have n2_ := Aside0.mk (blk_below (g := gb444) (o := .cells #[.int .u64 t441, .int .u64 t442] 50 (0, 0)) (by (with_reducible repeat (first | refine blk_drewN ?_ _ | refine blk_drew ?_ | refine blk_alloc ?_ _)); exact BK444.out) hb); have n3_ := Aside0.mk (below_step (by repeat (first | (with_reducible first | exact HB.out | apply below_alloc | apply pw_below_drewN | apply below_drew1 | refine below_set ?_ GE433.out | refine below_set ?_ GE444.out) | exact HB.out)) hb); clear HO_91; clear BK433; clear BK444; clear HB; have HO_91 := n0_; have BK433 := n1_; have BK444 := n2_; have HB := n3_; clear n0_ n1_ n2_ n3_; (try clear hb); (try clear hb2); (try clear hk); (try clear hi)))
                        go_ret
                        exact ⟨by first | rfl | (simp [errW_none, errW_some] <;> rfl) | (simp [*, errW_none, errW_some] <;> rfl), by repeat (first | (with_reducible first | exact HB.out | apply below_alloc | apply pw_below_drewN | apply below_drew1 | refine below_set ?_ GE433.out | refine below_set ?_ GE444.out) | exact HB.out)⟩
  · rw [if_neg c6] at H
    have c6b0 : (t438 == 0) = false := beq_eq_false_iff_ne.mpr c6
    have c6b1 : (t438 != 0) = true := bne_iff_ne.mpr c6
    by_cases c77 : t434 = true
    · subst c77
      have H1 : (some ((t435.length : Int) == 0)) = some r := by rw [if_pos rfl] at H; exact H
      clear H
      have H := H1
      clear H1
      obtain rfl := Option.some.inj H
      go_enter Try.func8, Try.ntmps8
      go_wp2_with (first | ((with_reducible refine gate_dst (N := 4) rfl ?_); (try (refine gate_guard (by rfl) ?_; dsimp only)); refine box_event ?hg (N := 4) ?hd (cs := #[.int .u64 a1_0, .int .u64 a1_1]) (t := 24) ?hr ?_; (case hd => rfl); (case hg => rfl); (case hr => first | (go_simp; done) | (go_simp; rfl)); intro gb433 hg w78 hbox hb; have n0_ := Aside0.mk (below_step (by repeat (first | (with_reducible first | exact HB.out | apply below_alloc | apply pw_below_drewN | apply below_drew1) | exact HB.out)) hb); have n1_ := Aside0.mk (hbox); have n2_ := Aside0.mk ((by rw [hg]; exact (below_size (by repeat (first | (with_reducible first | exact HB.out | apply below_alloc | apply pw_below_drewN | apply below_drew1) | exact HB.out))) : w.heap.size ≤ gb433)); have n3_ := Aside0.mk ((by rw [hg]; exact (below_size (by repeat (first | (with_reducible first | exact HB.out | apply below_alloc | apply pw_below_drewN | apply below_drew1) | exact HB.out))) : w.heap.size ≤ gb433)); clear HB; have HB := n0_; have BK433 := n1_; have GW433 := n2_; have GE433 := n3_; clear n0_ n1_ n2_ n3_; clear hb hbox hg) | ((with_reducible refine gate_callee (f := 14) rfl ?_); refine goesL_ (some 22) rfl rfl Try.func14 (by kernel_rfl) rfl #[] rfl (by (try simp only [List.map_toArray, List.map_cons, List.map_nil]); first | done | rfl | (simp only [List.length_drop, List.length_take]; rfl)) ?_; (with_reducible refine (medlarlaw08_live.calls k  true _ A4.out).mono ?_); rintro e w79 ⟨rfl, hb⟩; refine ⟨_, rfl, ?_⟩; have n0_ := Aside0.mk (blk_below (g := gb433) (o := .cells #[.int .u64 a1_0, .int .u64 a1_1] 24 (0, 0)) (by (with_reducible repeat (first | refine blk_drewN ?_ _ | refine blk_drew ?_ | refine blk_alloc ?_ _)); exact BK433.out) hb); have n1_ := Aside0.mk (below_step (by repeat (first | (with_reducible first | exact HB.out | apply below_alloc | apply pw_below_drewN | apply below_drew1 | refine below_set ?_ GE433.out) | exact HB.out)) hb); clear BK433; clear HB; have BK433 := n0_; have HB := n1_; clear n0_ n1_; (try clear hb); (try clear hb2); (try clear hk); (try clear hi); have hcz80_0 : w79.cell? ⟨gb433, 0, none⟩ = some (.int .u64 a1_0) := (blk_cell BK433.out 0).trans rfl; have hcz80_1 : w79.cell? ⟨gb433, 1, none⟩ = some (.int .u64 a1_1) := (blk_cell BK433.out 1).trans rfl; have hfz80_0 := blk_frozen BK433.out 0; have hfz80_1 := blk_frozen BK433.out 1) | ((with_reducible refine gate_callee (f := 29) rfl ?_); refine goesL_ (some 26) rfl rfl Try.func29 (by kernel_rfl) rfl #[.int .i64 a0, .agg #[.int .u64 a1_0, .int .u64 a1_1]] rfl (by (try simp only [List.map_toArray, List.map_cons, List.map_nil]); first | done | rfl | (simp only [List.length_drop, List.length_take]; rfl)) ?_; (with_reducible refine (sub_Leaves.calls k a0 a1_0 a1_1 t435 t438 _ A5.out).mono ?_); rintro e w81 ⟨v436, rfl, ho0, hb⟩; refine ⟨_, rfl, ?_⟩; have n0_ := Aside0.mk (Kd.R_lower ho0 (below_size (by repeat (first | (with_reducible first | exact HB.out | apply below_alloc | apply pw_below_drewN | apply below_drew1 | refine below_set ?_ GE433.out) | exact HB.out)))); have n1_ := Aside0.mk (blk_below (g := gb433) (o := .cells #[.int .u64 a1_0, .int .u64 a1_1] 24 (0, 0)) (by (with_reducible repeat (first | refine blk_drewN ?_ _ | refine blk_drew ?_ | refine blk_alloc ?_ _)); exact BK433.out) hb); have n2_ := Aside0.mk (below_step (by repeat (first | (with_reducible first | exact HB.out | apply below_alloc | apply pw_below_drewN | apply below_drew1 | refine below_set ?_ GE433.out) | exact HB.out)) hb); clear BK433; clear HB; have HO437 := n0_; have BK433 := n1_; have HB := n2_; clear n0_ n1_ n2_; (try clear hb); (try clear hb2); (try clear hk); (try clear hi); (try clear ho0); obtain ⟨Ao82, co82, eo82⟩ := Kd.R_slice HO437.out; subst eo82))
      go_ret
      exact ⟨by first | rfl | (simp [errW_none, errW_some] <;> rfl) | (simp [*, errW_none, errW_some] <;> rfl), by repeat (first | (with_reducible first | exact HB.out | apply below_alloc | apply pw_below_drewN | apply below_drew1 | refine below_set ?_ GE433.out) | exact HB.out)⟩
    · replace c77 := Bool.eq_false_iff.mpr c77
      subst c77
      have H1 : (some false) = some r := by rw [if_neg (show ¬ (false = true) by decide)] at H; exact H
      clear H
      have H := H1
      clear H1
      obtain rfl := Option.some.inj H
      go_enter Try.func8, Try.ntmps8
      go_wp2_with (first | ((with_reducible refine gate_dst (N := 4) rfl ?_); (try (refine gate_guard (by rfl) ?_; dsimp only)); refine box_event ?hg (N := 4) ?hd (cs := #[.int .u64 a1_0, .int .u64 a1_1]) (t := 24) ?hr ?_; (case hd => rfl); (case hg => rfl); (case hr => first | (go_simp; done) | (go_simp; rfl)); intro gb433 hg w83 hbox hb; have n0_ := Aside0.mk (below_step (by repeat (first | (with_reducible first | exact HB.out | apply below_alloc | apply pw_below_drewN | apply below_drew1) | exact HB.out)) hb); have n1_ := Aside0.mk (hbox); have n2_ := Aside0.mk ((by rw [hg]; exact (below_size (by repeat (first | (with_reducible first | exact HB.out | apply below_alloc | apply pw_below_drewN | apply below_drew1) | exact HB.out))) : w.heap.size ≤ gb433)); have n3_ := Aside0.mk ((by rw [hg]; exact (below_size (by repeat (first | (with_reducible first | exact HB.out | apply below_alloc | apply pw_below_drewN | apply below_drew1) | exact HB.out))) : w.heap.size ≤ gb433)); clear HB; have HB := n0_; have BK433 := n1_; have GW433 := n2_; have GE433 := n3_; clear n0_ n1_ n2_ n3_; clear hb hbox hg) | ((with_reducible refine gate_callee (f := 14) rfl ?_); refine goesL_ (some 22) rfl rfl Try.func14 (by kernel_rfl) rfl #[] rfl (by (try simp only [List.map_toArray, List.map_cons, List.map_nil]); first | done | rfl | (simp only [List.length_drop, List.length_take]; rfl)) ?_; (with_reducible refine (medlarlaw08_live.calls k  false _ A4.out).mono ?_); rintro e w84 ⟨rfl, hb⟩; refine ⟨_, rfl, ?_⟩; have n0_ := Aside0.mk (blk_below (g := gb433) (o := .cells #[.int .u64 a1_0, .int .u64 a1_1] 24 (0, 0)) (by (with_reducible repeat (first | refine blk_drewN ?_ _ | refine blk_drew ?_ | refine blk_alloc ?_ _)); exact BK433.out) hb); have n1_ := Aside0.mk (below_step (by repeat (first | (with_reducible first | exact HB.out | apply below_alloc | apply pw_below_drewN | apply below_drew1 | refine below_set ?_ GE433.out) | exact HB.out)) hb); clear BK433; clear HB; have BK433 := n0_; have HB := n1_; clear n0_ n1_; (try clear hb); (try clear hb2); (try clear hk); (try clear hi); have hcz85_0 : w84.cell? ⟨gb433, 0, none⟩ = some (.int .u64 a1_0) := (blk_cell BK433.out 0).trans rfl; have hcz85_1 : w84.cell? ⟨gb433, 1, none⟩ = some (.int .u64 a1_1) := (blk_cell BK433.out 1).trans rfl; have hfz85_0 := blk_frozen BK433.out 0; have hfz85_1 := blk_frozen BK433.out 1) | ((with_reducible refine gate_callee (f := 29) rfl ?_); refine goesL_ (some 26) rfl rfl Try.func29 (by kernel_rfl) rfl #[.int .i64 a0, .agg #[.int .u64 a1_0, .int .u64 a1_1]] rfl (by (try simp only [List.map_toArray, List.map_cons, List.map_nil]); first | done | rfl | (simp only [List.length_drop, List.length_take]; rfl)) ?_; (with_reducible refine (sub_Leaves.calls k a0 a1_0 a1_1 t435 t438 _ A5.out).mono ?_); rintro e w86 ⟨v436, rfl, ho0, hb⟩; refine ⟨_, rfl, ?_⟩; have n0_ := Aside0.mk (Kd.R_lower ho0 (below_size (by repeat (first | (with_reducible first | exact HB.out | apply below_alloc | apply pw_below_drewN | apply below_drew1 | refine below_set ?_ GE433.out) | exact HB.out)))); have n1_ := Aside0.mk (blk_below (g := gb433) (o := .cells #[.int .u64 a1_0, .int .u64 a1_1] 24 (0, 0)) (by (with_reducible repeat (first | refine blk_drewN ?_ _ | refine blk_drew ?_ | refine blk_alloc ?_ _)); exact BK433.out) hb); have n2_ := Aside0.mk (below_step (by repeat (first | (with_reducible first | exact HB.out | apply below_alloc | apply pw_below_drewN | apply below_drew1 | refine below_set ?_ GE433.out) | exact HB.out)) hb); clear BK433; clear HB; have HO437 := n0_; have BK433 := n1_; have HB := n2_; clear n0_ n1_ n2_; (try clear hb); (try clear hb2); (try clear hk); (try clear hi); (try clear ho0)))
      go_ret
      exact ⟨by first | rfl | (simp [errW_none, errW_some] <;> rfl) | (simp [*, errW_none, errW_some] <;> rfl), by repeat (first | (with_reducible first | exact HB.out | apply below_alloc | apply pw_below_drewN | apply below_drew1 | refine below_set ?_ GE433.out) | exact HB.out)⟩

/-- THE ONE PURE STATEMENT of medlarlaw08_SubLeaves: yours. -/
def medlarlaw08_SubLeaves.Pure : Prop := ∀ (a0 : Int) (a1_0 : Int) (a1_1 : Int) (a2 : Int), (Lit.int .i64 a0).wf = true → (Lit.int .u64 a1_0).wf = true → (Lit.int .u64 a1_1).wf = true → (Lit.int .u64 a2).wf = true → ∃ k, medlarlaw08_SubLeaves.f k a0 a1_0 a1_1 a2 = some true
theorem medlarlaw08_SubLeaves.walk (P : medlarlaw08_SubLeaves.Pure) (a0 : Int) (a1_0 : Int) (a1_1 : Int) (a2 : Int) (w : World) (w0 : (Lit.int .i64 a0).wf = true) (w1_0 : (Lit.int .u64 a1_0).wf = true) (w1_1 : (Lit.int .u64 a1_1).wf = true) (w2 : (Lit.int .u64 a2).wf = true) :
    Calls Try.prog 8 #[.int .i64 a0, .agg #[.int .u64 a1_0, .int .u64 a1_1], .int .u64 a2] w fun e w' => e = .returned (.bool true) ∧ Below w.heap.size w w' := by
  obtain ⟨k, h⟩ := P a0 a1_0 a1_1 a2 w0 w1_0 w1_1 w2
  refine (medlarlaw08_SubLeaves.calls k a0 a1_0 a1_1 a2 true w h).mono ?_
  rintro e w' ⟨rfl, hd⟩
  exact ⟨rfl, hd⟩

end Go.Proofs.Ytmaaibcnfhbajaa.MP
