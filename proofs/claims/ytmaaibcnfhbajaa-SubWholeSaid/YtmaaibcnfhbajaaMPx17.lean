-- written by a program of this session (wip/tools/mprint.sh) for this seat
import Derived.Test.YtmaaibcnfhbajaaMPx0
import Derived.Test.YtmaaibcnfhbajaaMPx3
import Derived.Test.YtmaaibcnfhbajaaMPx14
import Derived.Test.YtmaaibcnfhbajaaMPx15
import Derived.Test.YtmaaibcnfhbajaaMPx16
namespace Go.Proofs.Ytmaaibcnfhbajaa.MP
open Go.RowKit Go.Proofs.YtmaaibcnfhbajaaW.PrintWords Go.Proofs.YtmaaibcnfhbajaaW.PrintLast Go.Proofs.YtmaaibcnfhbajaaW.PrintMore
attribute [local go_sem] max2_int min2_int max_two min_two max_three min_three max_four min_four   -- for this text's walks alone
set_option linter.unusedVariables false
set_option linter.unusedSimpArgs false

/-! ### medlarlaw08_SubWhole: function 6 -/
def medlarlaw08_SubWhole.j0 : Nat → Int → Bool → Int → Int → Bool → Int → Int → Option (Bool)
  | 0, _, _, _, _, _, _, _ => none
  | k + 1, x0, x5, x10, x12, x64, x350000, x350001 => if x64 = true then (some false) else (if x350001 = 0 then (if x5 = true then (some (x10 == x12)) else (some false)) else ((sub_Touch.f k x0 x350000 x350001 x350001 0).bind fun bt363 => ((sub_Leaves.f k x0 x350001 0).bind fun bt365 => ((leaf_Many.f k x0 bt365.1).bind fun bt369 => (if x5 = true then (if bt363.2 = 0 then (if bt365.2 = 0 then (if bt369.2 = 0 then (if bt363.1 = true then (some false) else (if x10 < x12 then (some ((IntKind.u64.wrap (x10 + bt369.1)) == x12)) else (some false))) else (some false)) else (some false)) else (some false)) else (some false))))))
def medlarlaw08_SubWhole.f (k : Nat) (a0 : Int) (a1_0 : Int) (a1_1 : Int) : Option (Bool) := (medlarlaw08_live.f k).bind fun t350 => ((sub_Leaves.f k a0 a1_0 a1_1).bind fun bt351 => (if bt351.2 = 0 then ((sub_Leaves.f k a0 a1_0 0).bind fun bt355 => ((leaf_Many.f k a0 bt351.1).bind fun bt359 => ((leaf_Many.f k a0 bt355.1).bind fun bt361 => (if bt355.2 = 0 then (if bt359.2 = 0 then (if bt361.2 = 0 then (medlarlaw08_SubWhole.j0 k a0 t350 bt359.1 bt361.1 ((bt355.1.length : Int) != 1) a1_0 a1_1) else (medlarlaw08_SubWhole.j0 k a0 t350 bt359.1 bt361.1 true a1_0 a1_1)) else (medlarlaw08_SubWhole.j0 k a0 t350 bt359.1 bt361.1 true a1_0 a1_1)) else (medlarlaw08_SubWhole.j0 k a0 t350 bt359.1 bt361.1 true a1_0 a1_1))))) else (some t350)))
theorem medlarlaw08_SubWhole.mono_l : ∀ k, (∀ y0 y1 y2 y3 y4 y5 y6, LeO (medlarlaw08_SubWhole.j0 k y0 y1 y2 y3 y4 y5 y6) (medlarlaw08_SubWhole.j0 (k + 1) y0 y1 y2 y3 y4 y5 y6))
  | 0 => fun _ _ _ _ _ _ _ r h => by simp [medlarlaw08_SubWhole.j0] at h
  | k + 1 => by
    have ih0 := medlarlaw08_SubWhole.mono_l k
    · intro y0 y1 y2 y3 y4 y5 y6
      unfold medlarlaw08_SubWhole.j0
      repeat' first
      | (with_reducible exact ih0 _ _ _ _ _ _ _)
      | (with_reducible exact leaf_Many.mono _ _ _)
      | (with_reducible exact medlarlaw08_live.mono _)
      | (with_reducible exact sub_Leaves.mono _ _ _ _)
      | (with_reducible exact sub_Touch.mono _ _ _ _ _ _)
      | (with_reducible exact LeO.refl _)
      | (with_reducible exact LeO.none _)
      | (with_reducible refine LeO.ite ?_ ?_)
      | (with_reducible refine LeO.bind ?_ (fun _ => ?_))
      | exact ih0 _ _ _ _ _ _ _
      | exact leaf_Many.mono _ _ _
      | exact medlarlaw08_live.mono _
      | exact sub_Leaves.mono _ _ _ _
      | exact sub_Touch.mono _ _ _ _ _ _
      | exact LeO.none _
      | refine LeO.ite ?_ ?_
      | refine LeO.bind ?_ (fun _ => ?_)
theorem medlarlaw08_SubWhole.mono : ∀ a0 a1 a2 k, LeO (medlarlaw08_SubWhole.f k a0 a1 a2) (medlarlaw08_SubWhole.f (k + 1) a0 a1 a2) := by
  intro a0 a1 a2 k
  have ih0 := medlarlaw08_SubWhole.mono_l k
  unfold medlarlaw08_SubWhole.f
  repeat' first
      | (with_reducible exact ih0 _ _ _ _ _ _ _)
      | (with_reducible exact leaf_Many.mono _ _ _)
      | (with_reducible exact medlarlaw08_live.mono _)
      | (with_reducible exact sub_Leaves.mono _ _ _ _)
      | (with_reducible exact sub_Touch.mono _ _ _ _ _ _)
      | (with_reducible exact LeO.refl _)
      | (with_reducible exact LeO.none _)
      | (with_reducible refine LeO.ite ?_ ?_)
      | (with_reducible refine LeO.bind ?_ (fun _ => ?_))
      | exact ih0 _ _ _ _ _ _ _
      | exact leaf_Many.mono _ _ _
      | exact medlarlaw08_live.mono _
      | exact sub_Leaves.mono _ _ _ _
      | exact sub_Touch.mono _ _ _ _ _ _
      | exact LeO.none _
      | refine LeO.ite ?_ ?_
      | refine LeO.bind ?_ (fun _ => ?_)
set_option maxHeartbeats 8000000 in
set_option maxRecDepth 100000 in
theorem medlarlaw08_SubWhole.calls (k : Nat) (a0 : Int) (a1_0 : Int) (a1_1 : Int) (r : Bool) (w : World) (h : medlarlaw08_SubWhole.f k a0 a1_0 a1_1 = some r) :
    Calls Try.prog 6 #[.int .i64 a0, .agg #[.int .u64 a1_0, .int .u64 a1_1]] w fun e w' => e = .returned (.bool r) ∧ Below w.heap.size w w' := by
  have hu24 := Try.underlying24
  have HB := Aside0.mk (Below.refl w.heap.size w)
  have H : ((medlarlaw08_live.f k).bind fun t350 => ((sub_Leaves.f k a0 a1_0 a1_1).bind fun bt351 => (if bt351.2 = 0 then ((sub_Leaves.f k a0 a1_0 0).bind fun bt355 => ((leaf_Many.f k a0 bt351.1).bind fun bt359 => ((leaf_Many.f k a0 bt355.1).bind fun bt361 => (if bt355.2 = 0 then (if bt359.2 = 0 then (if bt361.2 = 0 then (medlarlaw08_SubWhole.j0 k a0 t350 bt359.1 bt361.1 ((bt355.1.length : Int) != 1) a1_0 a1_1) else (medlarlaw08_SubWhole.j0 k a0 t350 bt359.1 bt361.1 true a1_0 a1_1)) else (medlarlaw08_SubWhole.j0 k a0 t350 bt359.1 bt361.1 true a1_0 a1_1)) else (medlarlaw08_SubWhole.j0 k a0 t350 bt359.1 bt361.1 true a1_0 a1_1))))) else (some t350)))) = some r := h
  clear h
  replace H := Option.bind_eq_some_iff.mp H
  obtain ⟨t350, A30, H⟩ := H
  replace H : ((sub_Leaves.f k a0 a1_0 a1_1).bind fun bt351 => (if bt351.2 = 0 then ((sub_Leaves.f k a0 a1_0 0).bind fun bt355 => ((leaf_Many.f k a0 bt351.1).bind fun bt359 => ((leaf_Many.f k a0 bt355.1).bind fun bt361 => (if bt355.2 = 0 then (if bt359.2 = 0 then (if bt361.2 = 0 then (medlarlaw08_SubWhole.j0 k a0 t350 bt359.1 bt361.1 ((bt355.1.length : Int) != 1) a1_0 a1_1) else (medlarlaw08_SubWhole.j0 k a0 t350 bt359.1 bt361.1 true a1_0 a1_1)) else (medlarlaw08_SubWhole.j0 k a0 t350 bt359.1 bt361.1 true a1_0 a1_1)) else (medlarlaw08_SubWhole.j0 k a0 t350 bt359.1 bt361.1 true a1_0 a1_1))))) else (some t350))) = some r := H
  have A3 := Aside0.mk A30
  clear A30
  replace H := Option.bind_eq_some_iff.mp H
  obtain ⟨⟨t351, t354⟩, A40, H⟩ := H
  replace H : (if t354 = 0 then ((sub_Leaves.f k a0 a1_0 0).bind fun bt355 => ((leaf_Many.f k a0 t351).bind fun bt359 => ((leaf_Many.f k a0 bt355.1).bind fun bt361 => (if bt355.2 = 0 then (if bt359.2 = 0 then (if bt361.2 = 0 then (medlarlaw08_SubWhole.j0 k a0 t350 bt359.1 bt361.1 ((bt355.1.length : Int) != 1) a1_0 a1_1) else (medlarlaw08_SubWhole.j0 k a0 t350 bt359.1 bt361.1 true a1_0 a1_1)) else (medlarlaw08_SubWhole.j0 k a0 t350 bt359.1 bt361.1 true a1_0 a1_1)) else (medlarlaw08_SubWhole.j0 k a0 t350 bt359.1 bt361.1 true a1_0 a1_1))))) else (some t350)) = some r := H
  have A4 := Aside0.mk A40
  clear A40
  by_cases c5 : t354 = 0
  · rw [if_pos c5] at H
    have c5b0 : (t354 == 0) = true := beq_iff_eq.mpr c5
    have c5b1 : (t354 != 0) = false := bne_eq_false_iff_eq.mpr c5
    clear c5
    replace H := Option.bind_eq_some_iff.mp H
    obtain ⟨⟨t355, t358⟩, A60, H⟩ := H
    replace H : ((leaf_Many.f k a0 t351).bind fun bt359 => ((leaf_Many.f k a0 t355).bind fun bt361 => (if t358 = 0 then (if bt359.2 = 0 then (if bt361.2 = 0 then (medlarlaw08_SubWhole.j0 k a0 t350 bt359.1 bt361.1 ((t355.length : Int) != 1) a1_0 a1_1) else (medlarlaw08_SubWhole.j0 k a0 t350 bt359.1 bt361.1 true a1_0 a1_1)) else (medlarlaw08_SubWhole.j0 k a0 t350 bt359.1 bt361.1 true a1_0 a1_1)) else (medlarlaw08_SubWhole.j0 k a0 t350 bt359.1 bt361.1 true a1_0 a1_1)))) = some r := H
    have A6 := Aside0.mk A60
    clear A60
    replace H := Option.bind_eq_some_iff.mp H
    obtain ⟨⟨t359, t360⟩, A70, H⟩ := H
    replace H : ((leaf_Many.f k a0 t355).bind fun bt361 => (if t358 = 0 then (if t360 = 0 then (if bt361.2 = 0 then (medlarlaw08_SubWhole.j0 k a0 t350 t359 bt361.1 ((t355.length : Int) != 1) a1_0 a1_1) else (medlarlaw08_SubWhole.j0 k a0 t350 t359 bt361.1 true a1_0 a1_1)) else (medlarlaw08_SubWhole.j0 k a0 t350 t359 bt361.1 true a1_0 a1_1)) else (medlarlaw08_SubWhole.j0 k a0 t350 t359 bt361.1 true a1_0 a1_1))) = some r := H
    have A7 := Aside0.mk A70
    clear A70
    replace H := Option.bind_eq_some_iff.mp H
    obtain ⟨⟨t361, t362⟩, A80, H⟩ := H
    replace H : (if t358 = 0 then (if t360 = 0 then (if t362 = 0 then (medlarlaw08_SubWhole.j0 k a0 t350 t359 t361 ((t355.length : Int) != 1) a1_0 a1_1) else (medlarlaw08_SubWhole.j0 k a0 t350 t359 t361 true a1_0 a1_1)) else (medlarlaw08_SubWhole.j0 k a0 t350 t359 t361 true a1_0 a1_1)) else (medlarlaw08_SubWhole.j0 k a0 t350 t359 t361 true a1_0 a1_1)) = some r := H
    have A8 := Aside0.mk A80
    clear A80
    have HC9 := Aside0.mk H
    clear H
    go_enter Try.func6, Try.ntmps6
    go_upto_region 8 with (first | ((with_reducible refine gate_dst (N := 3) rfl ?_); (try (refine gate_guard (by rfl) ?_; dsimp only)); refine box_event ?hg (N := 3) ?hd (cs := #[.int .u64 a1_0, .int .u64 a1_1]) (t := 24) ?hr ?_; (case hd => rfl); (case hg => rfl); (case hr => first | (go_simp; done) | (go_simp; rfl)); intro gb349 hg w10 hbox hb; have n0_ := Aside0.mk (below_step (by repeat (first | (with_reducible first | exact HB.out | apply below_alloc | apply pw_below_drewN | apply below_drew1) | exact HB.out)) hb); have n1_ := Aside0.mk (hbox); have n2_ := Aside0.mk ((by rw [hg]; exact (below_size (by repeat (first | (with_reducible first | exact HB.out | apply below_alloc | apply pw_below_drewN | apply below_drew1) | exact HB.out))) : w.heap.size ≤ gb349)); have n3_ := Aside0.mk ((by rw [hg]; exact (below_size (by repeat (first | (with_reducible first | exact HB.out | apply below_alloc | apply pw_below_drewN | apply below_drew1) | exact HB.out))) : w.heap.size ≤ gb349)); clear HB; have HB := n0_; have BK349 := n1_; have GW349 := n2_; have GE349 := n3_; clear n0_ n1_ n2_ n3_; clear hb hbox hg) | ((with_reducible refine gate_callee (f := 14) rfl ?_); refine goesL_ (some 20) rfl rfl Try.func14 (by kernel_rfl) rfl #[] rfl (by (try simp only [List.map_toArray, List.map_cons, List.map_nil]); first | done | rfl | (simp only [List.length_drop, List.length_take]; rfl)) ?_; (with_reducible refine (medlarlaw08_live.calls k  t350 _ A3.out).mono ?_); rintro e w11 ⟨rfl, hb⟩; refine ⟨_, rfl, ?_⟩; have n0_ := Aside0.mk (blk_below (g := gb349) (o := .cells #[.int .u64 a1_0, .int .u64 a1_1] 24 (0, 0)) (by (with_reducible repeat (first | refine blk_drewN ?_ _ | refine blk_drew ?_ | refine blk_alloc ?_ _)); exact BK349.out) hb); have n1_ := Aside0.mk (below_step (by repeat (first | (with_reducible first | exact HB.out | apply below_alloc | apply pw_below_drewN | apply below_drew1 | refine below_set ?_ GE349.out) | exact HB.out)) hb); clear BK349; clear HB; have BK349 := n0_; have HB := n1_; clear n0_ n1_; (try clear hb); (try clear hb2); (try clear hk); (try clear hi); have hcz12_0 : w11.cell? ⟨gb349, 0, none⟩ = some (.int .u64 a1_0) := (blk_cell BK349.out 0).trans rfl; have hcz12_1 : w11.cell? ⟨gb349, 1, none⟩ = some (.int .u64 a1_1) := (blk_cell BK349.out 1).trans rfl; have hfz12_0 := blk_frozen BK349.out 0; have hfz12_1 := blk_frozen BK349.out 1) | ((with_reducible refine gate_callee (f := 29) rfl ?_); refine goesL_ (some 24) rfl rfl Try.func29 (by kernel_rfl) rfl #[.int .i64 a0, .agg #[.int .u64 a1_0, .int .u64 a1_1]] rfl (by (try simp only [List.map_toArray, List.map_cons, List.map_nil]); first | done | rfl | (simp only [List.length_drop, List.length_take]; rfl)) ?_; (with_reducible refine (sub_Leaves.calls k a0 a1_0 a1_1 t351 t354 _ A4.out).mono ?_); rintro e w13 ⟨v352, rfl, ho0, hb⟩; refine ⟨_, rfl, ?_⟩; have n0_ := Aside0.mk (Kd.R_lower ho0 (below_size (by repeat (first | (with_reducible first | exact HB.out | apply below_alloc | apply pw_below_drewN | apply below_drew1 | refine below_set ?_ GE349.out) | exact HB.out)))); have n1_ := Aside0.mk (blk_below (g := gb349) (o := .cells #[.int .u64 a1_0, .int .u64 a1_1] 24 (0, 0)) (by (with_reducible repeat (first | refine blk_drewN ?_ _ | refine blk_drew ?_ | refine blk_alloc ?_ _)); exact BK349.out) hb); have n2_ := Aside0.mk (below_step (by repeat (first | (with_reducible first | exact HB.out | apply below_alloc | apply pw_below_drewN | apply below_drew1 | refine below_set ?_ GE349.out) | exact HB.out)) hb); clear BK349; clear HB; have HO353 := n0_; have BK349 := n1_; have HB := n2_; clear n0_ n1_ n2_; (try clear hb); (try clear hb2); (try clear hk); (try clear hi); (try clear ho0); have hcz14_0 : w13.cell? ⟨gb349, 0, none⟩ = some (.int .u64 a1_0) := (blk_cell BK349.out 0).trans rfl; have hcz14_1 : w13.cell? ⟨gb349, 1, none⟩ = some (.int .u64 a1_1) := (blk_cell BK349.out 1).trans rfl; have hfz14_0 := blk_frozen BK349.out 0; have hfz14_1 := blk_frozen BK349.out 1) | ((with_reducible refine gate_callee (f := 29) rfl ?_); refine goesL_ (some 35) rfl rfl Try.func29 (by kernel_rfl) rfl #[.int .i64 a0, .agg #[.int .u64 a1_0, .int .u64 0]] rfl (by (try simp only [List.map_toArray, List.map_cons, List.map_nil]); first | done | rfl | (simp only [List.length_drop, List.length_take]; rfl)) ?_; (with_reducible refine (sub_Leaves.calls k a0 a1_0 0 t355 t358 _ A6.out).mono ?_); rintro e w15 ⟨v356, rfl, ho0, hb⟩; refine ⟨_, rfl, ?_⟩; have n0_ := Aside0.mk (Kd.R_elder' (by (with_reducible repeat (first | apply Kd.R_alloc | apply Kd.R_drewN | apply Kd.R_drew)); exact HO353.out) (Kd.R_base ho0) hb); have n1_ := Aside0.mk (Kd.R_lower (Kd.R_new' ho0 (Kd.R_lt (by (with_reducible repeat (first | apply Kd.R_alloc | apply Kd.R_drewN | apply Kd.R_drew)); exact HO353.out))) (below_size (by repeat (first | (with_reducible first | exact HB.out | apply below_alloc | apply pw_below_drewN | apply below_drew1 | refine below_set ?_ GE349.out) | exact HB.out)))); have n2_ := Aside0.mk (blk_below (g := gb349) (o := .cells #[.int .u64 a1_0, .int .u64 a1_1] 24 (0, 0)) (by (with_reducible repeat (first | refine blk_drewN ?_ _ | refine blk_drew ?_ | refine blk_alloc ?_ _)); exact BK349.out) hb); have n3_ := Aside0.mk (below_step (by repeat (first | (with_reducible first | exact HB.out | apply below_alloc | apply pw_below_drewN | apply below_drew1 | refine below_set ?_ GE349.out) | exact HB.out)) hb); clear HO353; clear BK349; clear HB; have HO353 := n0_; have HO357 := n1_; have BK349 := n2_; have HB := n3_; clear n0_ n1_ n2_ n3_; (try clear hb); (try clear hb2); (try clear hk); (try clear hi); (try clear ho0); obtain ⟨Ao16, co16, eo16⟩ := Kd.R_slice HO353.out; subst eo16) | ((with_reducible refine gate_callee (f := 30) rfl ?_); refine goesL_ (some 41) rfl rfl Try.func30 (by kernel_rfl) rfl #[.int .i64 a0, .slice Ao16 t351.length co16] rfl (by (try simp only [List.map_toArray, List.map_cons, List.map_nil]); first | done | rfl | (simp only [List.length_drop, List.length_take]; rfl)) ?_; (with_reducible refine (leaf_Many.calls k a0 _ _ t351 t359 t360 _ ?side1 ?side2 A7.out).mono ?_); (case side1 => repeat (first | exact (Kd.R_reads' HO353.out).2.2 | (with_reducible refine Kd.C_alloc ?_ _) | (with_reducible refine Kd.C_drewN ?_ _) | (with_reducible refine Kd.C_drew ?_))); (case side2 => exact (Kd.R_reads' HO353.out).2.1); rintro e w17 ⟨rfl, hb⟩; refine ⟨_, rfl, ?_⟩; have n0_ := Aside0.mk (Kd.R_below (by (with_reducible repeat (first | apply Kd.R_alloc | apply Kd.R_drewN | apply Kd.R_drew)); exact HO353.out) hb); have n1_ := Aside0.mk (Kd.R_below (by (with_reducible repeat (first | apply Kd.R_alloc | apply Kd.R_drewN | apply Kd.R_drew)); exact HO357.out) hb); have n2_ := Aside0.mk (blk_below (g := gb349) (o := .cells #[.int .u64 a1_0, .int .u64 a1_1] 24 (0, 0)) (by (with_reducible repeat (first | refine blk_drewN ?_ _ | refine blk_drew ?_ | refine blk_alloc ?_ _)); exact BK349.out) hb); have n3_ := Aside0.mk (below_step (by repeat (first | (with_reducible first | exact HB.out | apply below_alloc | apply pw_below_drewN | apply below_drew1 | refine below_set ?_ GE349.out) | exact HB.out)) hb); clear HO353; clear HO357; clear BK349; clear HB; have HO353 := n0_; have HO357 := n1_; have BK349 := n2_; have HB := n3_; clear n0_ n1_ n2_ n3_; (try clear hb); (try clear hb2); (try clear hk); (try clear hi); obtain ⟨Ao18, co18, eo18⟩ := Kd.R_slice HO357.out; subst eo18) | ((with_reducible refine gate_callee (f := 30) rfl ?_); refine goesL_ (some 47) rfl rfl Try.func30 (by kernel_rfl) rfl #[.int .i64 a0, .slice Ao18 t355.length co18] rfl (by (try simp only [List.map_toArray, List.map_cons, List.map_nil]); first | done | rfl | (simp only [List.length_drop, List.length_take]; rfl)) ?_; (with_reducible refine (leaf_Many.calls k a0 _ _ t355 t361 t362 _ ?side1 ?side2 A8.out).mono ?_); (case side1 => repeat (first | exact (Kd.R_reads' HO357.out).2.2 | (with_reducible refine Kd.C_alloc ?_ _) | (with_reducible refine Kd.C_drewN ?_ _) | (with_reducible refine Kd.C_drew ?_))); (case side2 => exact (Kd.R_reads' HO357.out).2.1); rintro e w19 ⟨rfl, hb⟩; refine ⟨_, rfl, ?_⟩; have n0_ := Aside0.mk (Kd.R_below (by (with_reducible repeat (first | apply Kd.R_alloc | apply Kd.R_drewN | apply Kd.R_drew)); exact HO353.out) hb); have n1_ := Aside0.mk (Kd.R_below (by (with_reducible repeat (first | apply Kd.R_alloc | apply Kd.R_drewN | apply Kd.R_drew)); exact HO357.out) hb); have n2_ := Aside0.mk (blk_below (g := gb349) (o := .cells #[.int .u64 a1_0, .int .u64 a1_1] 24 (0, 0)) (by (with_reducible repeat (first | refine blk_drewN ?_ _ | refine blk_drew ?_ | refine blk_alloc ?_ _)); exact BK349.out) hb); have n3_ := Aside0.mk (below_step (by repeat (first | (with_reducible first | exact HB.out | apply below_alloc | apply pw_below_drewN | apply below_drew1 | refine below_set ?_ GE349.out) | exact HB.out)) hb); clear HO353; clear HO357; clear BK349; clear HB; have HO353 := n0_; have HO357 := n1_; have BK349 := n2_; have HB := n3_; clear n0_ n1_ n2_ n3_; (try clear hb); (try clear hb2); (try clear hk); (try clear hi)))
    (try simp only [Act.put, List.setIfInBounds_toArray, List.set_cons_zero, List.set_cons_succ])
    go_cut [64] (fun v64 wc => ∃ (kq : Nat) (x64_8 : Bool), v64 = .bool x64_8 ∧ Aside0 (medlarlaw08_SubWhole.j0 kq a0 t350 t359 t361 x64_8 a1_0 a1_1 = some r) ∧ Aside0 (kq ≤ k) ∧ Aside0 (wc.heap[gb349]? = some (.cells #[.int .u64 a1_0, .int .u64 a1_1] 24 (0, 0))) ∧ Aside0 (Below w.heap.size w wc))
    case first =>
      have H := HC9.out
      clear HC9
      by_cases c20 : t358 = 0
      · rw [if_pos c20] at H
        have c20b0 : (t358 == 0) = true := beq_iff_eq.mpr c20
        have c20b1 : (t358 != 0) = false := bne_eq_false_iff_eq.mpr c20
        clear c20
        (first | rw [c20b0] | (simp only [i64_w, i32_w]; rw [c20b0]) | skip)
        by_cases c21 : t360 = 0
        · rw [if_pos c21] at H
          have c21b0 : (t360 == 0) = true := beq_iff_eq.mpr c21
          have c21b1 : (t360 != 0) = false := bne_eq_false_iff_eq.mpr c21
          clear c21
          by_cases c22 : t362 = 0
          · rw [if_pos c22] at H
            have c22b0 : (t362 == 0) = true := beq_iff_eq.mpr c22
            have c22b1 : (t362 != 0) = false := bne_eq_false_iff_eq.mpr c22
            clear c22
            have H' := Aside0.mk H
            clear H
            go_wp2
            go_meet
            case rel => exact ⟨_, (((t355.length : Int) != 1)), (by first | rfl | (simp; done) | (simp [*]; done)), H', ⟨by first | omega | exact Nat.le_refl _⟩, ⟨by (with_reducible repeat (first | refine blk_drewN ?_ _ | refine blk_drew ?_ | refine blk_alloc ?_ _)); exact BK349.out⟩, ⟨by repeat (first | (with_reducible first | exact HB.out | apply below_alloc | apply pw_below_drewN | apply below_drew1 | refine below_set ?_ GE349.out) | exact HB.out)⟩⟩
          · rw [if_neg c22] at H
            have c22b0 : (t362 == 0) = false := beq_eq_false_iff_ne.mpr c22
            have c22b1 : (t362 != 0) = true := bne_iff_ne.mpr c22
            have H' := Aside0.mk H
            clear H
            go_wp2
            go_meet
            case rel => exact ⟨_, (true), (by first | rfl | (simp; done) | (simp [*]; done)), H', ⟨by first | omega | exact Nat.le_refl _⟩, ⟨by (with_reducible repeat (first | refine blk_drewN ?_ _ | refine blk_drew ?_ | refine blk_alloc ?_ _)); exact BK349.out⟩, ⟨by repeat (first | (with_reducible first | exact HB.out | apply below_alloc | apply pw_below_drewN | apply below_drew1 | refine below_set ?_ GE349.out) | exact HB.out)⟩⟩
        · rw [if_neg c21] at H
          have c21b0 : (t360 == 0) = false := beq_eq_false_iff_ne.mpr c21
          have c21b1 : (t360 != 0) = true := bne_iff_ne.mpr c21
          have H' := Aside0.mk H
          clear H
          go_wp2
          go_meet
          case rel => exact ⟨_, (true), (by first | rfl | (simp; done) | (simp [*]; done)), H', ⟨by first | omega | exact Nat.le_refl _⟩, ⟨by (with_reducible repeat (first | refine blk_drewN ?_ _ | refine blk_drew ?_ | refine blk_alloc ?_ _)); exact BK349.out⟩, ⟨by repeat (first | (with_reducible first | exact HB.out | apply below_alloc | apply pw_below_drewN | apply below_drew1 | refine below_set ?_ GE349.out) | exact HB.out)⟩⟩
      · rw [if_neg c20] at H
        have c20b0 : (t358 == 0) = false := beq_eq_false_iff_ne.mpr c20
        have c20b1 : (t358 != 0) = true := bne_iff_ne.mpr c20
        (first | rw [c20b0] | (simp only [i64_w, i32_w]; rw [c20b0]) | skip)
        have H' := Aside0.mk H
        clear H
        go_wp2
        go_meet
        case rel => exact ⟨_, (true), (by first | rfl | (simp; done) | (simp [*]; done)), H', ⟨by first | omega | exact Nat.le_refl _⟩, ⟨by (with_reducible repeat (first | refine blk_drewN ?_ _ | refine blk_drew ?_ | refine blk_alloc ?_ _)); exact BK349.out⟩, ⟨by repeat (first | (with_reducible first | exact HB.out | apply below_alloc | apply pw_below_drewN | apply below_drew1 | refine below_set ?_ GE349.out) | exact HB.out)⟩⟩
    case rest =>
      clear HC9
      try clear c1
      try clear c2
      try clear p2
      try clear c3
      try clear c5
      try clear c5b0
      try clear c5b1
      try clear c6
      try clear c14
      try clear c20
      try clear c20b0
      try clear c20b1
      try clear c21
      try clear c21b0
      try clear c21b1
      try clear c22
      try clear c22b0
      try clear c22b1
      try clear hcz12_0
      try clear hcz12_1
      try clear hcz14_0
      try clear hcz14_1
      try clear hfz12_0
      try clear hfz12_1
      try clear hfz14_0
      try clear hfz14_1
      obtain ⟨kq, x64_8, rfl, HA, HJ8, BK349, HB⟩ := hcut
      cases kq with
      | zero => exact absurd HA.out (by simp [medlarlaw08_SubWhole.j0])
      | succ kj8 =>
        have H := HA.out
        clear HA
        simp only [medlarlaw08_SubWhole.j0] at H
        by_cases c23 : x64_8 = true
        · subst c23
          have H1 : (some false) = some r := by rw [if_pos rfl] at H; exact H
          clear H
          have H := H1
          clear H1
          obtain rfl := Option.some.inj H
          go_wp2
          go_ret
          exact ⟨by first | rfl | (simp [errW_none, errW_some] <;> rfl) | (simp [*, errW_none, errW_some] <;> rfl), by repeat (first | (with_reducible first | exact HB.out | apply below_alloc | apply pw_below_drewN | apply below_drew1 | refine below_set ?_ GE349.out) | exact HB.out)⟩
        · replace c23 := Bool.eq_false_iff.mpr c23
          subst c23
          have H1 : (if a1_1 = 0 then (if t350 = true then (some (t359 == t361)) else (some false)) else ((sub_Touch.f kj8 a0 a1_0 a1_1 a1_1 0).bind fun bt363 => ((sub_Leaves.f kj8 a0 a1_1 0).bind fun bt365 => ((leaf_Many.f kj8 a0 bt365.1).bind fun bt369 => (if t350 = true then (if bt363.2 = 0 then (if bt365.2 = 0 then (if bt369.2 = 0 then (if bt363.1 = true then (some false) else (if t359 < t361 then (some ((IntKind.u64.wrap (t359 + bt369.1)) == t361)) else (some false))) else (some false)) else (some false)) else (some false)) else (some false)))))) = some r := by rw [if_neg (show ¬ (false = true) by decide)] at H; exact H
          clear H
          have H := H1
          clear H1
          by_cases c24 : a1_1 = 0
          · rw [if_pos c24] at H
            have c24b0 : (a1_1 == 0) = true := beq_iff_eq.mpr c24
            have c24b1 : (a1_1 != 0) = false := bne_eq_false_iff_eq.mpr c24
            clear c24
            by_cases c25 : t350 = true
            · subst c25
              have H1 : (some (t359 == t361)) = some r := by rw [if_pos rfl] at H; exact H
              clear H
              have H := H1
              clear H1
              obtain rfl := Option.some.inj H
              have hcz26_0 : wc.cell? ⟨gb349, 0, none⟩ = some (.int .u64 a1_0) := (blk_cell BK349.out 0).trans rfl
              have hcz26_1 : wc.cell? ⟨gb349, 1, none⟩ = some (.int .u64 a1_1) := (blk_cell BK349.out 1).trans rfl
              have hfz26_0 := blk_frozen BK349.out 0
              have hfz26_1 := blk_frozen BK349.out 1
              go_wp2
              go_ret
              exact ⟨by first | rfl | (simp [errW_none, errW_some] <;> rfl) | (simp [*, errW_none, errW_some] <;> rfl), by repeat (first | (with_reducible first | exact HB.out | apply below_alloc | apply pw_below_drewN | apply below_drew1 | refine below_set ?_ GE349.out) | exact HB.out)⟩
            · replace c25 := Bool.eq_false_iff.mpr c25
              subst c25
              have H1 : (some false) = some r := by rw [if_neg (show ¬ (false = true) by decide)] at H; exact H
              clear H
              have H := H1
              clear H1
              obtain rfl := Option.some.inj H
              have hcz27_0 : wc.cell? ⟨gb349, 0, none⟩ = some (.int .u64 a1_0) := (blk_cell BK349.out 0).trans rfl
              have hcz27_1 : wc.cell? ⟨gb349, 1, none⟩ = some (.int .u64 a1_1) := (blk_cell BK349.out 1).trans rfl
              have hfz27_0 := blk_frozen BK349.out 0
              have hfz27_1 := blk_frozen BK349.out 1
              go_wp2
              go_ret
              exact ⟨by first | rfl | (simp [errW_none, errW_some] <;> rfl) | (simp [*, errW_none, errW_some] <;> rfl), by repeat (first | (with_reducible first | exact HB.out | apply below_alloc | apply pw_below_drewN | apply below_drew1 | refine below_set ?_ GE349.out) | exact HB.out)⟩
          · rw [if_neg c24] at H
            have c24b0 : (a1_1 == 0) = false := beq_eq_false_iff_ne.mpr c24
            have c24b1 : (a1_1 != 0) = true := bne_iff_ne.mpr c24
            replace H := Option.bind_eq_some_iff.mp H
            obtain ⟨⟨t363, t364⟩, A280, H⟩ := H
            replace H : ((sub_Leaves.f kj8 a0 a1_1 0).bind fun bt365 => ((leaf_Many.f kj8 a0 bt365.1).bind fun bt369 => (if t350 = true then (if t364 = 0 then (if bt365.2 = 0 then (if bt369.2 = 0 then (if t363 = true then (some false) else (if t359 < t361 then (some ((IntKind.u64.wrap (t359 + bt369.1)) == t361)) else (some false))) else (some false)) else (some false)) else (some false)) else (some false)))) = some r := H
            have A28 := Aside0.mk A280
            clear A280
            replace H := Option.bind_eq_some_iff.mp H
            obtain ⟨⟨t365, t368⟩, A290, H⟩ := H
            replace H : ((leaf_Many.f kj8 a0 t365).bind fun bt369 => (if t350 = true then (if t364 = 0 then (if t368 = 0 then (if bt369.2 = 0 then (if t363 = true then (some false) else (if t359 < t361 then (some ((IntKind.u64.wrap (t359 + bt369.1)) == t361)) else (some false))) else (some false)) else (some false)) else (some false)) else (some false))) = some r := H
            have A29 := Aside0.mk A290
            clear A290
            replace H := Option.bind_eq_some_iff.mp H
            obtain ⟨⟨t369, t370⟩, A300, H⟩ := H
            replace H : (if t350 = true then (if t364 = 0 then (if t368 = 0 then (if t370 = 0 then (if t363 = true then (some false) else (if t359 < t361 then (some ((IntKind.u64.wrap (t359 + t369)) == t361)) else (some false))) else (some false)) else (some false)) else (some false)) else (some false)) = some r := H
            have A30 := Aside0.mk A300
            clear A300
            by_cases c31 : t350 = true
            · subst c31
              have H1 : (if t364 = 0 then (if t368 = 0 then (if t370 = 0 then (if t363 = true then (some false) else (if t359 < t361 then (some ((IntKind.u64.wrap (t359 + t369)) == t361)) else (some false))) else (some false)) else (some false)) else (some false)) = some r := by rw [if_pos rfl] at H; exact H
              clear H
              have H := H1
              clear H1
              by_cases c32 : t364 = 0
              · rw [if_pos c32] at H
                have c32b0 : (t364 == 0) = true := beq_iff_eq.mpr c32
                have c32b1 : (t364 != 0) = false := bne_eq_false_iff_eq.mpr c32
                clear c32
                by_cases c33 : t368 = 0
                · rw [if_pos c33] at H
                  have c33b0 : (t368 == 0) = true := beq_iff_eq.mpr c33
                  have c33b1 : (t368 != 0) = false := bne_eq_false_iff_eq.mpr c33
                  clear c33
                  by_cases c34 : t370 = 0
                  · rw [if_pos c34] at H
                    have c34b0 : (t370 == 0) = true := beq_iff_eq.mpr c34
                    have c34b1 : (t370 != 0) = false := bne_eq_false_iff_eq.mpr c34
                    clear c34
                    by_cases c35 : t363 = true
                    · subst c35
                      have H1 : (some false) = some r := by rw [if_pos rfl] at H; exact H
                      clear H
                      have H := H1
                      clear H1
                      obtain rfl := Option.some.inj H
                      have hcz36_0 : wc.cell? ⟨gb349, 0, none⟩ = some (.int .u64 a1_0) := (blk_cell BK349.out 0).trans rfl
                      have hcz36_1 : wc.cell? ⟨gb349, 1, none⟩ = some (.int .u64 a1_1) := (blk_cell BK349.out 1).trans rfl
                      have hfz36_0 := blk_frozen BK349.out 0
                      have hfz36_1 := blk_frozen BK349.out 1
                      go_wp2_with (first | ((with_reducible refine gate_callee (f := 31) rfl ?_); refine goesL_ (some 80) rfl rfl Try.func31 (by kernel_rfl) rfl #[.int .i64 a0, .agg #[.int .u64 a1_0, .int .u64 a1_1], .agg #[.int .u64 a1_1, .int .u64 0]] rfl (by (try simp only [List.map_toArray, List.map_cons, List.map_nil]); first | done | rfl | (simp only [List.length_drop, List.length_take]; rfl)) ?_; (with_reducible refine (sub_Touch.calls kj8 a0 a1_0 a1_1 a1_1 0 true t364 _ A28.out).mono ?_); rintro e w37 ⟨rfl, hb⟩; refine ⟨_, rfl, ?_⟩; have n0_ := Aside0.mk (blk_below (g := gb349) (o := .cells #[.int .u64 a1_0, .int .u64 a1_1] 24 (0, 0)) (by (with_reducible repeat (first | refine blk_drewN ?_ _ | refine blk_drew ?_ | refine blk_alloc ?_ _)); exact BK349.out) hb); have n1_ := Aside0.mk (below_step (by repeat (first | (with_reducible first | exact HB.out | apply below_alloc | apply pw_below_drewN | apply below_drew1 | refine below_set ?_ GE349.out) | exact HB.out)) hb); clear BK349; clear HB; have BK349 := n0_; have HB := n1_; clear n0_ n1_; (try clear hb); (try clear hb2); (try clear hk); (try clear hi); have hcz38_0 : w37.cell? ⟨gb349, 0, none⟩ = some (.int .u64 a1_0) := (blk_cell BK349.out 0).trans rfl; have hcz38_1 : w37.cell? ⟨gb349, 1, none⟩ = some (.int .u64 a1_1) := (blk_cell BK349.out 1).trans rfl; have hfz38_0 := blk_frozen BK349.out 0; have hfz38_1 := blk_frozen BK349.out 1) | ((with_reducible refine gate_callee (f := 29) rfl ?_); refine goesL_ (some 88) rfl rfl Try.func29 (by kernel_rfl) rfl #[.int .i64 a0, .agg #[.int .u64 a1_1, .int .u64 0]] rfl (by (try simp only [List.map_toArray, List.map_cons, List.map_nil]); first | done | rfl | (simp only [List.length_drop, List.length_take]; rfl)) ?_; (with_reducible refine (sub_Leaves.calls kj8 a0 a1_1 0 t365 t368 _ A29.out).mono ?_); rintro e w39 ⟨v366, rfl, ho0, hb⟩; refine ⟨_, rfl, ?_⟩; have n0_ := Aside0.mk (Kd.R_lower ho0 (below_size (by repeat (first | (with_reducible first | exact HB.out | apply below_alloc | apply pw_below_drewN | apply below_drew1 | refine below_set ?_ GE349.out) | exact HB.out)))); have n1_ := Aside0.mk (blk_below (g := gb349) (o := .cells #[.int .u64 a1_0, .int .u64 a1_1] 24 (0, 0)) (by (with_reducible repeat (first | refine blk_drewN ?_ _ | refine blk_drew ?_ | refine blk_alloc ?_ _)); exact BK349.out) hb); have n2_ := Aside0.mk (below_step (by repeat (first | (with_reducible first | exact HB.out | apply below_alloc | apply pw_below_drewN | apply below_drew1 | refine below_set ?_ GE349.out) | exact HB.out)) hb); clear BK349; clear HB; have HO367 := n0_; have BK349 := n1_; have HB := n2_; clear n0_ n1_ n2_; (try clear hb); (try clear hb2); (try clear hk); (try clear hi); (try clear ho0); obtain ⟨Ao40, co40, eo40⟩ := Kd.R_slice HO367.out; subst eo40) | ((with_reducible refine gate_callee (f := 30) rfl ?_); refine goesL_ (some 94) rfl rfl Try.func30 (by kernel_rfl) rfl #[.int .i64 a0, .slice Ao40 t365.length co40] rfl (by (try simp only [List.map_toArray, List.map_cons, List.map_nil]); first | done | rfl | (simp only [List.length_drop, List.length_take]; rfl)) ?_; (with_reducible refine (leaf_Many.calls kj8 a0 _ _ t365 t369 t370 _ ?side1 ?side2 A30.out).mono ?_); (case side1 => repeat (first | exact (Kd.R_reads' HO367.out).2.2 | (with_reducible refine Kd.C_alloc ?_ _) | (with_reducible refine Kd.C_drewN ?_ _) | (with_reducible refine Kd.C_drew ?_))); (case side2 => exact (Kd.R_reads' HO367.out).2.1); rintro e w41 ⟨rfl, hb⟩; refine ⟨_, rfl, ?_⟩; have n0_ := Aside0.mk (Kd.R_below (by (with_reducible repeat (first | apply Kd.R_alloc | apply Kd.R_drewN | apply Kd.R_drew)); exact HO367.out) hb); have n1_ := Aside0.mk (blk_below (g := gb349) (o := .cells #[.int .u64 a1_0, .int .u64 a1_1] 24 (0, 0)) (by (with_reducible repeat (first | refine blk_drewN ?_ _ | refine blk_drew ?_ | refine blk_alloc ?_ _)); exact BK349.out) hb); have n2_ := Aside0.mk (below_step (by repeat (first | (with_reducible first | exact HB.out | apply below_alloc | apply pw_below_drewN | apply below_drew1 | refine below_set ?_ GE349.out) | exact HB.out)) hb); clear HO367; clear BK349; clear HB; have HO367 := n0_; have BK349 := n1_; have HB := n2_; clear n0_ n1_ n2_; (try clear hb); (try clear hb2); (try clear hk); (try clear hi)))
                      go_ret
                      exact ⟨by first | rfl | (simp [errW_none, errW_some] <;> rfl) | (simp [*, errW_none, errW_some] <;> rfl), by repeat (first | (with_reducible first | exact HB.out | apply below_alloc | apply pw_below_drewN | apply below_drew1 | refine below_set ?_ GE349.out) | exact HB.out)⟩
                    · replace c35 := Bool.eq_false_iff.mpr c35
                      subst c35
                      have H1 : (if t359 < t361 then (some ((IntKind.u64.wrap (t359 + t369)) == t361)) else (some false)) = some r := by rw [if_neg (show ¬ (false = true) by decide)] at H; exact H
                      clear H
                      have H := H1
                      clear H1
                      by_cases c42 : t359 < t361
                      · rw [if_pos c42] at H
                        have c42b0 : decide (t359 < t361) = true := decide_eq_true c42
                        clear c42
                        obtain rfl := Option.some.inj H
                        have hcz43_0 : wc.cell? ⟨gb349, 0, none⟩ = some (.int .u64 a1_0) := (blk_cell BK349.out 0).trans rfl
                        have hcz43_1 : wc.cell? ⟨gb349, 1, none⟩ = some (.int .u64 a1_1) := (blk_cell BK349.out 1).trans rfl
                        have hfz43_0 := blk_frozen BK349.out 0
                        have hfz43_1 := blk_frozen BK349.out 1
                        go_wp2_with (first | ((with_reducible refine gate_callee (f := 31) rfl ?_); refine goesL_ (some 80) rfl rfl Try.func31 (by kernel_rfl) rfl #[.int .i64 a0, .agg #[.int .u64 a1_0, .int .u64 a1_1], .agg #[.int .u64 a1_1, .int .u64 0]] rfl (by (try simp only [List.map_toArray, List.map_cons, List.map_nil]); first | done | rfl | (simp only [List.length_drop, List.length_take]; rfl)) ?_; (with_reducible refine (sub_Touch.calls kj8 a0 a1_0 a1_1 a1_1 0 false t364 _ A28.out).mono ?_); rintro e w44 ⟨rfl, hb⟩; refine ⟨_, rfl, ?_⟩; have n0_ := Aside0.mk (blk_below (g := gb349) (o := .cells #[.int .u64 a1_0, .int .u64 a1_1] 24 (0, 0)) (by (with_reducible repeat (first | refine blk_drewN ?_ _ | refine blk_drew ?_ | refine blk_alloc ?_ _)); exact BK349.out) hb); have n1_ := Aside0.mk (below_step (by repeat (first | (with_reducible first | exact HB.out | apply below_alloc | apply pw_below_drewN | apply below_drew1 | refine below_set ?_ GE349.out) | exact HB.out)) hb); clear BK349; clear HB; have BK349 := n0_; have HB := n1_; clear n0_ n1_; (try clear hb); (try clear hb2); (try clear hk); (try clear hi); have hcz45_0 : w44.cell? ⟨gb349, 0, none⟩ = some (.int .u64 a1_0) := (blk_cell BK349.out 0).trans rfl; have hcz45_1 : w44.cell? ⟨gb349, 1, none⟩ = some (.int .u64 a1_1) := (blk_cell BK349.out 1).trans rfl; have hfz45_0 := blk_frozen BK349.out 0; have hfz45_1 := blk_frozen BK349.out 1) | ((with_reducible refine gate_callee (f := 29) rfl ?_); refine goesL_ (some 88) rfl rfl Try.func29 (by kernel_rfl) rfl #[.int .i64 a0, .agg #[.int .u64 a1_1, .int .u64 0]] rfl (by (try simp only [List.map_toArray, List.map_cons, List.map_nil]); first | done | rfl | (simp only [List.length_drop, List.length_take]; rfl)) ?_; (with_reducible refine (sub_Leaves.calls kj8 a0 a1_1 0 t365 t368 _ A29.out).mono ?_); rintro e w46 ⟨v366, rfl, ho0, hb⟩; refine ⟨_, rfl, ?_⟩; have n0_ := Aside0.mk (Kd.R_lower ho0 (below_size (by repeat (first | (with_reducible first | exact HB.out | apply below_alloc | apply pw_below_drewN | apply below_drew1 | refine below_set ?_ GE349.out) | exact HB.out)))); have n1_ := Aside0.mk (blk_below (g := gb349) (o := .cells #[.int .u64 a1_0, .int .u64 a1_1] 24 (0, 0)) (by (with_reducible repeat (first | refine blk_drewN ?_ _ | refine blk_drew ?_ | refine blk_alloc ?_ _)); exact BK349.out) hb); have n2_ := Aside0.mk (below_step (by repeat (first | (with_reducible first | exact HB.out | apply below_alloc | apply pw_below_drewN | apply below_drew1 | refine below_set ?_ GE349.out) | exact HB.out)) hb); clear BK349; clear HB; have HO367 := n0_; have BK349 := n1_; have HB := n2_; clear n0_ n1_ n2_; (try clear hb); (try clear hb2); (try clear hk); (try clear hi); (try clear ho0); obtain ⟨Ao47, co47, eo47⟩ := Kd.R_slice HO367.out; subst eo47) | ((with_reducible refine gate_callee (f := 30) rfl ?_); refine goesL_ (some 94) rfl rfl Try.func30 (by kernel_rfl) rfl #[.int .i64 a0, .slice Ao47 t365.length co47] rfl (by (try simp only [List.map_toArray, List.map_cons, List.map_nil]); first | done | rfl | (simp only [List.length_drop, List.length_take]; rfl)) ?_; (with_reducible refine (leaf_Many.calls kj8 a0 _ _ t365 t369 t370 _ ?side1 ?side2 A30.out).mono ?_); (case side1 => repeat (first | exact (Kd.R_reads' HO367.out).2.2 | (with_reducible refine Kd.C_alloc ?_ _) | (with_reducible refine Kd.C_drewN ?_ _) | (with_reducible refine Kd.C_drew ?_))); (case side2 => exact (Kd.R_reads' HO367.out).2.1); rintro e w48 ⟨rfl, hb⟩; refine ⟨_, rfl, ?_⟩; have n0_ := Aside0.mk (Kd.R_below (by (with_reducible repeat (first | apply Kd.R_alloc | apply Kd.R_drewN | apply Kd.R_drew)); exact HO367.out) hb); have n1_ := Aside0.mk (blk_below (g := gb349) (o := .cells #[.int .u64 a1_0, .int .u64 a1_1] 24 (0, 0)) (by (with_reducible repeat (first | refine blk_drewN ?_ _ | refine blk_drew ?_ | refine blk_alloc ?_ _)); exact BK349.out) hb); have n2_ := Aside0.mk (below_step (by repeat (first | (with_reducible first | exact HB.out | apply below_alloc | apply pw_below_drewN | apply below_drew1 | refine below_set ?_ GE349.out) | exact HB.out)) hb); clear HO367; clear BK349; clear HB; have HO367 := n0_; have BK349 := n1_; have HB := n2_; clear n0_ n1_ n2_; (try clear hb); (try clear hb2); (try clear hk); (try clear hi)))
                        go_ret
                        exact ⟨by first | rfl | (simp [errW_none, errW_some] <;> rfl) | (simp [*, errW_none, errW_some] <;> rfl), by repeat (first | (with_reducible first | exact HB.out | apply below_alloc | apply pw_below_drewN | apply below_drew1 | refine below_set ?_ GE349.out) | exact HB.out)⟩
                      · rw [if_neg c42] at H
                        have c42b0 : decide (t359 < t361) = false := decide_eq_false c42
                        clear c42
                        obtain rfl := Option.some.inj H
                        have hcz49_0 : wc.cell? ⟨gb349, 0, none⟩ = some (.int .u64 a1_0) := (blk_cell BK349.out 0).trans rfl
                        have hcz49_1 : wc.cell? ⟨gb349, 1, none⟩ = some (.int .u64 a1_1) := (blk_cell BK349.out 1).trans rfl
                        have hfz49_0 := blk_frozen BK349.out 0
                        have hfz49_1 := blk_frozen BK349.out 1
                        go_wp2_with (first | ((with_reducible refine gate_callee (f := 31) rfl ?_); refine goesL_ (some 80) rfl rfl Try.func31 (by kernel_rfl) rfl #[.int .i64 a0, .agg #[.int .u64 a1_0, .int .u64 a1_1], .agg #[.int .u64 a1_1, .int .u64 0]] rfl (by (try simp only [List.map_toArray, List.map_cons, List.map_nil]); first | done | rfl | (simp only [List.length_drop, List.length_take]; rfl)) ?_; (with_reducible refine (sub_Touch.calls kj8 a0 a1_0 a1_1 a1_1 0 false t364 _ A28.out).mono ?_); rintro e w50 ⟨rfl, hb⟩; refine ⟨_, rfl, ?_⟩; have n0_ := Aside0.mk (blk_below (g := gb349) (o := .cells #[.int .u64 a1_0, .int .u64 a1_1] 24 (0, 0)) (by (with_reducible repeat (first | refine blk_drewN ?_ _ | refine blk_drew ?_ | refine blk_alloc ?_ _)); exact BK349.out) hb); have n1_ := Aside0.mk (below_step (by repeat (first | (with_reducible first | exact HB.out | apply below_alloc | apply pw_below_drewN | apply below_drew1 | refine below_set ?_ GE349.out) | exact HB.out)) hb); clear BK349; clear HB; have BK349 := n0_; have HB := n1_; clear n0_ n1_; (try clear hb); (try clear hb2); (try clear hk); (try clear hi); have hcz51_0 : w50.cell? ⟨gb349, 0, none⟩ = some (.int .u64 a1_0) := (blk_cell BK349.out 0).trans rfl; have hcz51_1 : w50.cell? ⟨gb349, 1, none⟩ = some (.int .u64 a1_1) := (blk_cell BK349.out 1).trans rfl; have hfz51_0 := blk_frozen BK349.out 0; have hfz51_1 := blk_frozen BK349.out 1) | ((with_reducible refine gate_callee (f := 29) rfl ?_); refine goesL_ (some 88) rfl rfl Try.func29 (by kernel_rfl) rfl #[.int .i64 a0, .agg #[.int .u64 a1_1, .int .u64 0]] rfl (by (try simp only [List.map_toArray, List.map_cons, List.map_nil]); first | done | rfl | (simp only [List.length_drop, List.length_take]; rfl)) ?_; (with_reducible refine (sub_Leaves.calls kj8 a0 a1_1 0 t365 t368 _ A29.out).mono ?_); rintro e w52 ⟨v366, rfl, ho0, hb⟩; refine ⟨_, rfl, ?_⟩; have n0_ := Aside0.mk (Kd.R_lower ho0 (below_size (by repeat (first | (with_reducible first | exact HB.out | apply below_alloc | apply pw_below_drewN | apply below_drew1 | refine below_set ?_ GE349.out) | exact HB.out)))); have n1_ := Aside0.mk (blk_below (g := gb349) (o := .cells #[.int .u64 a1_0, .int .u64 a1_1] 24 (0, 0)) (by (with_reducible repeat (first | refine blk_drewN ?_ _ | refine blk_drew ?_ | refine blk_alloc ?_ _)); exact BK349.out) hb); have n2_ := Aside0.mk (below_step (by repeat (first | (with_reducible first | exact HB.out | apply below_alloc | apply pw_below_drewN | apply below_drew1 | refine below_set ?_ GE349.out) | exact HB.out)) hb); clear BK349; clear HB; have HO367 := n0_; have BK349 := n1_; have HB := n2_; clear n0_ n1_ n2_; (try clear hb); (try clear hb2); (try clear hk); (try clear hi); (try clear ho0); obtain ⟨Ao53, co53, eo53⟩ := Kd.R_slice HO367.out; subst eo53) | ((with_reducible refine gate_callee (f := 30) rfl ?_); refine goesL_ (some 94) rfl rfl Try.func30 (by kernel_rfl) rfl #[.int .i64 a0, .slice Ao53 t365.length co53] rfl (by (try simp only [List.map_toArray, List.map_cons, List.map_nil]); first | done | rfl | (simp only [List.length_drop, List.length_take]; rfl)) ?_; (with_reducible refine (leaf_Many.calls kj8 a0 _ _ t365 t369 t370 _ ?side1 ?side2 A30.out).mono ?_); (case side1 => repeat (first | exact (Kd.R_reads' HO367.out).2.2 | (with_reducible refine Kd.C_alloc ?_ _) | (with_reducible refine Kd.C_drewN ?_ _) | (with_reducible refine Kd.C_drew ?_))); (case side2 => exact (Kd.R_reads' HO367.out).2.1); rintro e w54 ⟨rfl, hb⟩; refine ⟨_, rfl, ?_⟩; have n0_ := Aside0.mk (Kd.R_below (by (with_reducible repeat (first | apply Kd.R_alloc | apply Kd.R_drewN | apply Kd.R_drew)); exact HO367.out) hb); have n1_ := Aside0.mk (blk_below (g := gb349) (o := .cells #[.int .u64 a1_0, .int .u64 a1_1] 24 (0, 0)) (by (with_reducible repeat (first | refine blk_drewN ?_ _ | refine blk_drew ?_ | refine blk_alloc ?_ _)); exact BK349.out) hb); have n2_ := Aside0.mk (below_step (by repeat (first | (with_reducible first | exact HB.out | apply below_alloc | apply pw_below_drewN | apply below_drew1 | refine below_set ?_ GE349.out) | exact HB.out)) hb); clear HO367; clear BK349; clear HB; have HO367 := n0_; have BK349 := n1_; have HB := n2_; clear n0_ n1_ n2_; (try clear hb); (try clear hb2); (try clear hk); (try clear hi)))
                        go_ret
                        exact ⟨by first | rfl | (simp [errW_none, errW_some] <;> rfl) | (simp [*, errW_none, errW_some] <;> rfl), by repeat (first | (with_reducible first | exact HB.out | apply below_alloc | apply pw_below_drewN | apply below_drew1 | refine below_set ?_ GE349.out) | exact HB.out)⟩
                  · rw [if_neg c34] at H
                    have c34b0 : (t370 == 0) = false := beq_eq_false_iff_ne.mpr c34
                    have c34b1 : (t370 != 0) = true := bne_iff_ne.mpr c34
                    obtain rfl := Option.some.inj H
                    have hcz55_0 : wc.cell? ⟨gb349, 0, none⟩ = some (.int .u64 a1_0) := (blk_cell BK349.out 0).trans rfl
                    have hcz55_1 : wc.cell? ⟨gb349, 1, none⟩ = some (.int .u64 a1_1) := (blk_cell BK349.out 1).trans rfl
                    have hfz55_0 := blk_frozen BK349.out 0
                    have hfz55_1 := blk_frozen BK349.out 1
                    go_wp2_with (first | ((with_reducible refine gate_callee (f := 31) rfl ?_); refine goesL_ (some 80) rfl rfl Try.func31 (by kernel_rfl) rfl #[.int .i64 a0, .agg #[.int .u64 a1_0, .int .u64 a1_1], .agg #[.int .u64 a1_1, .int .u64 0]] rfl (by (try simp only [List.map_toArray, List.map_cons, List.map_nil]); first | done | rfl | (simp only [List.length_drop, List.length_take]; rfl)) ?_; (with_reducible refine (sub_Touch.calls kj8 a0 a1_0 a1_1 a1_1 0 t363 t364 _ A28.out).mono ?_); rintro e w56 ⟨rfl, hb⟩; refine ⟨_, rfl, ?_⟩; have n0_ := Aside0.mk (blk_below (g := gb349) (o := .cells #[.int .u64 a1_0, .int .u64 a1_1] 24 (0, 0)) (by (with_reducible repeat (first | refine blk_drewN ?_ _ | refine blk_drew ?_ | refine blk_alloc ?_ _)); exact BK349.out) hb); have n1_ := Aside0.mk (below_step (by repeat (first | (with_reducible first | exact HB.out | apply below_alloc | apply pw_below_drewN | apply below_drew1 | refine below_set ?_ GE349.out) | exact HB.out)) hb); clear BK349; clear HB; have BK349 := n0_; have HB := n1_; clear n0_ n1_; (try clear hb); (try clear hb2); (try clear hk); (try clear hi); have hcz57_0 : w56.cell? ⟨gb349, 0, none⟩ = some (.int .u64 a1_0) := (blk_cell BK349.out 0).trans rfl; have hcz57_1 : w56.cell? ⟨gb349, 1, none⟩ = some (.int .u64 a1_1) := (blk_cell BK349.out 1).trans rfl; have hfz57_0 := blk_frozen BK349.out 0; have hfz57_1 := blk_frozen BK349.out 1) | ((with_reducible refine gate_callee (f := 29) rfl ?_); refine goesL_ (some 88) rfl rfl Try.func29 (by kernel_rfl) rfl #[.int .i64 a0, .agg #[.int .u64 a1_1, .int .u64 0]] rfl (by (try simp only [List.map_toArray, List.map_cons, List.map_nil]); first | done | rfl | (simp only [List.length_drop, List.length_take]; rfl)) ?_; (with_reducible refine (sub_Leaves.calls kj8 a0 a1_1 0 t365 t368 _ A29.out).mono ?_); rintro e w58 ⟨v366, rfl, ho0, hb⟩; refine ⟨_, rfl, ?_⟩; have n0_ := Aside0.mk (Kd.R_lower ho0 (below_size (by repeat (first | (with_reducible first | exact HB.out | apply below_alloc | apply pw_below_drewN | apply below_drew1 | refine below_set ?_ GE349.out) | exact HB.out)))); have n1_ := Aside0.mk (blk_below (g := gb349) (o := .cells #[.int .u64 a1_0, .int .u64 a1_1] 24 (0, 0)) (by (with_reducible repeat (first | refine blk_drewN ?_ _ | refine blk_drew ?_ | refine blk_alloc ?_ _)); exact BK349.out) hb); have n2_ := Aside0.mk (below_step (by repeat (first | (with_reducible first | exact HB.out | apply below_alloc | apply pw_below_drewN | apply below_drew1 | refine below_set ?_ GE349.out) | exact HB.out)) hb); clear BK349; clear HB; have HO367 := n0_; have BK349 := n1_; have HB := n2_; clear n0_ n1_ n2_; (try clear hb); (try clear hb2); (try clear hk); (try clear hi); (try clear ho0); obtain ⟨Ao59, co59, eo59⟩ := Kd.R_slice HO367.out; subst eo59) | ((with_reducible refine gate_callee (f := 30) rfl ?_); refine goesL_ (some 94) rfl rfl Try.func30 (by kernel_rfl) rfl #[.int .i64 a0, .slice Ao59 t365.length co59] rfl (by (try simp only [List.map_toArray, List.map_cons, List.map_nil]); first | done | rfl | (simp only [List.length_drop, List.length_take]; rfl)) ?_; (with_reducible refine (leaf_Many.calls kj8 a0 _ _ t365 t369 t370 _ ?side1 ?side2 A30.out).mono ?_); (case side1 => repeat (first | exact (Kd.R_reads' HO367.out).2.2 | (with_reducible refine Kd.C_alloc ?_ _) | (with_reducible refine Kd.C_drewN ?_ _) | (with_reducible refine Kd.C_drew ?_))); (case side2 => exact (Kd.R_reads' HO367.out).2.1); rintro e w60 ⟨rfl, hb⟩; refine ⟨_, rfl, ?_⟩; have n0_ := Aside0.mk (Kd.R_below (by (with_reducible repeat (first | apply Kd.R_alloc | apply Kd.R_drewN | apply Kd.R_drew)); exact HO367.out) hb); have n1_ := Aside0.mk (blk_below (g := gb349) (o := .cells #[.int .u64 a1_0, .int .u64 a1_1] 24 (0, 0)) (by (with_reducible repeat (first | refine blk_drewN ?_ _ | refine blk_drew ?_ | refine blk_alloc ?_ _)); exact BK349.out) hb); have n2_ := Aside0.mk (below_step (by repeat (first | (with_reducible first | exact HB.out | apply below_alloc | apply pw_below_drewN | apply below_drew1 | refine below_set ?_ GE349.out) | exact HB.out)) hb); clear HO367; clear BK349; clear HB; have HO367 := n0_; have BK349 := n1_; have HB := n2_; clear n0_ n1_ n2_; (try clear hb); (try clear hb2); (try clear hk); (try clear hi)))
                    go_ret
                    exact ⟨by first | rfl | (simp [errW_none, errW_some] <;> rfl) | (simp [*, errW_none, errW_some] <;> rfl), by repeat (first | (with_reducible first | exact HB.out | apply below_alloc | apply pw_below_drewN | apply below_drew1 | refine below_set ?_ GE349.out) | exact HB.out)⟩
                · rw [if_neg c33] at H
                  have c33b0 : (t368 == 0) = false := beq_eq_false_iff_ne.mpr c33
                  have c33b1 : (t368 != 0) = true := bne_iff_ne.mpr c33
                  obtain rfl := Option.some.inj H
                  have hcz61_0 : wc.cell? ⟨gb349, 0, none⟩ = some (.int .u64 a1_0) := (blk_cell BK349.out 0).trans rfl
                  have hcz61_1 : wc.cell? ⟨gb349, 1, none⟩ = some (.int .u64 a1_1) := (blk_cell BK349.out 1).trans rfl
                  have hfz61_0 := blk_frozen BK349.out 0
                  have hfz61_1 := blk_frozen BK349.out 1
                  go_wp2_with (first | ((with_reducible refine gate_callee (f := 31) rfl ?_); refine goesL_ (some 80) rfl rfl Try.func31 (by kernel_rfl) rfl #[.int .i64 a0, .agg #[.int .u64 a1_0, .int .u64 a1_1], .agg #[.int .u64 a1_1, .int .u64 0]] rfl (by (try simp only [List.map_toArray, List.map_cons, List.map_nil]); first | done | rfl | (simp only [List.length_drop, List.length_take]; rfl)) ?_; (with_reducible refine (sub_Touch.calls kj8 a0 a1_0 a1_1 a1_1 0 t363 t364 _ A28.out).mono ?_); rintro e w62 ⟨rfl, hb⟩; refine ⟨_, rfl, ?_⟩; have n0_ := Aside0.mk (blk_below (g := gb349) (o := .cells #[.int .u64 a1_0, .int .u64 a1_1] 24 (0, 0)) (by (with_reducible repeat (first | refine blk_drewN ?_ _ | refine blk_drew ?_ | refine blk_alloc ?_ _)); exact BK349.out) hb); have n1_ := Aside0.mk (below_step (by repeat (first | (with_reducible first | exact HB.out | apply below_alloc | apply pw_below_drewN | apply below_drew1 | refine below_set ?_ GE349.out) | exact HB.out)) hb); clear BK349; clear HB; have BK349 := n0_; have HB := n1_; clear n0_ n1_; (try clear hb); (try clear hb2); (try clear hk); (try clear hi); have hcz63_0 : w62.cell? ⟨gb349, 0, none⟩ = some (.int .u64 a1_0) := (blk_cell BK349.out 0).trans rfl; have hcz63_1 : w62.cell? ⟨gb349, 1, none⟩ = some (.int .u64 a1_1) := (blk_cell BK349.out 1).trans rfl; have hfz63_0 := blk_frozen BK349.out 0; have hfz63_1 := blk_frozen BK349.out 1) | ((with_reducible refine gate_callee (f := 29) rfl ?_); refine goesL_ (some 88) rfl rfl Try.func29 (by kernel_rfl) rfl #[.int .i64 a0, .agg #[.int .u64 a1_1, .int .u64 0]] rfl (by (try simp only [List.map_toArray, List.map_cons, List.map_nil]); first | done | rfl | (simp only [List.length_drop, List.length_take]; rfl)) ?_; (with_reducible refine (sub_Leaves.calls kj8 a0 a1_1 0 t365 t368 _ A29.out).mono ?_); rintro e w64 ⟨v366, rfl, ho0, hb⟩; refine ⟨_, rfl, ?_⟩; have n0_ := Aside0.mk (Kd.R_lower ho0 (below_size (by repeat (first | (with_reducible first | exact HB.out | apply below_alloc | apply pw_below_drewN | apply below_drew1 | refine below_set ?_ GE349.out) | exact HB.out)))); have n1_ := Aside0.mk (blk_below (g := gb349) (o := .cells #[.int .u64 a1_0, .int .u64 a1_1] 24 (0, 0)) (by (with_reducible repeat (first | refine blk_drewN ?_ _ | refine blk_drew ?_ | refine blk_alloc ?_ _)); exact BK349.out) hb); have n2_ := Aside0.mk (below_step (by repeat (first | (with_reducible first | exact HB.out | apply below_alloc | apply pw_below_drewN | apply below_drew1 | refine below_set ?_ GE349.out) | exact HB.out)) hb); clear BK349; clear HB; have HO367 := n0_; have BK349 := n1_; have HB := n2_; clear n0_ n1_ n2_; (try clear hb); (try clear hb2); (try clear hk); (try clear hi); (try clear ho0); obtain ⟨Ao65, co65, eo65⟩ := Kd.R_slice HO367.out; subst eo65) | ((with_reducible refine gate_callee (f := 30) rfl ?_); refine goesL_ (some 94) rfl rfl Try.func30 (by kernel_rfl) rfl #[.int .i64 a0, .slice Ao65 t365.length co65] rfl (by (try simp only [List.map_toArray, List.map_cons, List.map_nil]); first | done | rfl | (simp only [List.length_drop, List.length_take]; rfl)) ?_; (with_reducible refine (leaf_Many.calls kj8 a0 _ _ t365 t369 t370 _ ?side1 ?side2 A30.out).mono ?_); (case side1 => repeat (first | exact (Kd.R_reads' HO367.out).2.2 | (with_reducible refine Kd.C_alloc ?_ _) | (with_reducible refine Kd.C_drewN ?_ _) | (with_reducible refine Kd.C_drew ?_))); (case side2 => exact (Kd.R_reads' HO367.out).2.1); rintro e w66 ⟨rfl, hb⟩; refine ⟨_, rfl, ?_⟩; have n0_ := Aside0.mk (Kd.R_below (by (with_reducible repeat (first | apply Kd.R_alloc | apply Kd.R_drewN | apply Kd.R_drew)); exact HO367.out) hb); have n1_ := Aside0.mk (blk_below (g := gb349) (o := .cells #[.int .u64 a1_0, .int .u64 a1_1] 24 (0, 0)) (by (with_reducible repeat (first | refine blk_drewN ?_ _ | refine blk_drew ?_ | refine blk_alloc ?_ _)); exact BK349.out) hb); have n2_ := Aside0.mk (below_step (by repeat (first | (with_reducible first | exact HB.out | apply below_alloc | apply pw_below_drewN | apply below_drew1 | refine below_set ?_ GE349.out) | exact HB.out)) hb); clear HO367; clear BK349; clear HB; have HO367 := n0_; have BK349 := n1_; have HB := n2_; clear n0_ n1_ n2_; (try clear hb); (try clear hb2); (try clear hk); (try clear hi)))
                  go_ret
                  exact ⟨by first | rfl | (simp [errW_none, errW_some] <;> rfl) | (simp [*, errW_none, errW_some] <;> rfl), by repeat (first | (with_reducible first | exact HB.out | apply below_alloc | apply pw_below_drewN | apply below_drew1 | refine below_set ?_ GE349.out) | exact HB.out)⟩
              · rw [if_neg c32] at H
                have c32b0 : (t364 == 0) = false := beq_eq_false_iff_ne.mpr c32
                have c32b1 : (t364 != 0) = true := bne_iff_ne.mpr c32
                obtain rfl := Option.some.inj H
                have hcz67_0 : wc.cell? ⟨gb349, 0, none⟩ = some (.int .u64 a1_0) := (blk_cell BK349.out 0).trans rfl
                have hcz67_1 : wc.cell? ⟨gb349, 1, none⟩ = some (.int .u64 a1_1) := (blk_cell BK349.out 1).trans rfl
                have hfz67_0 := blk_frozen BK349.out 0
                have hfz67_1 := blk_frozen BK349.out 1
                go_wp2_with (first | ((with_reducible refine gate_callee (f := 31) rfl ?_); refine goesL_ (some 80) rfl rfl Try.func31 (by kernel_rfl) rfl #[.int .i64 a0, .agg #[.int .u64 a1_0, .int .u64 a1_1], .agg #[.int .u64 a1_1, .int .u64 0]] rfl (by (try simp only [List.map_toArray, List.map_cons, List.map_nil]); first | done | rfl | (simp only [List.length_drop, List.length_take]; rfl)) ?_; (with_reducible refine (sub_Touch.calls kj8 a0 a1_0 a1_1 a1_1 0 t363 t364 _ A28.out).mono ?_); rintro e w68 ⟨rfl, hb⟩; refine ⟨_, rfl, ?_⟩; have n0_ := Aside0.mk (blk_below (g := gb349) (o := .cells #[.int .u64 a1_0, .int .u64 a1_1] 24 (0, 0)) (by (with_reducible repeat (first | refine blk_drewN ?_ _ | refine blk_drew ?_ | refine blk_alloc ?_ _)); exact BK349.out) hb); have n1_ := Aside0.mk (below_step (by repeat (first | (with_reducible first | exact HB.out | apply below_alloc | apply pw_below_drewN | apply below_drew1 | refine below_set ?_ GE349.out) | exact HB.out)) hb); clear BK349; clear HB; have BK349 := n0_; have HB := n1_; clear n0_ n1_; (try clear hb); (try clear hb2); (try clear hk); (try clear hi); have hcz69_0 : w68.cell? ⟨gb349, 0, none⟩ = some (.int .u64 a1_0) := (blk_cell BK349.out 0).trans rfl; have hcz69_1 : w68.cell? ⟨gb349, 1, none⟩ = some (.int .u64 a1_1) := (blk_cell BK349.out 1).trans rfl; have hfz69_0 := blk_frozen BK349.out 0; have hfz69_1 := blk_frozen BK349.out 1) | ((with_reducible refine gate_callee (f := 29) rfl ?_); refine goesL_ (some 88) rfl rfl Try.func29 (by kernel_rfl) rfl #[.int .i64 a0, .agg #[.int .u64 a1_1, .int .u64 0]] rfl (by (try simp only [List.map_toArray, List.map_cons, List.map_nil]); first | done | rfl | (simp only [List.length_drop, List.length_take]; rfl)) ?_; (with_reducible refine (sub_Leaves.calls kj8 a0 a1_1 0 t365 t368 _ A29.out).mono ?_); rintro e w70 ⟨v366, rfl, ho0, hb⟩; refine ⟨_, rfl, ?_⟩; have n0_ := Aside0.mk (Kd.R_lower ho0 (below_size (by repeat (first | (with_reducible first | exact HB.out | apply below_alloc | apply pw_below_drewN | apply below_drew1 | refine below_set ?_ GE349.out) | exact HB.out)))); have n1_ := Aside0.mk (blk_below (g := gb349) (o := .cells #[.int .u64 a1_0, .int .u64 a1_1] 24 (0, 0)) (by (with_reducible repeat (first | refine blk_drewN ?_ _ | refine blk_drew ?_ | refine blk_alloc ?_ _)); exact BK349.out) hb); have n2_ := Aside0.mk (below_step (by repeat (first | (with_reducible first | exact HB.out | apply below_alloc | apply pw_below_drewN | apply below_drew1 | refine below_set ?_ GE349.out) | exact HB.out)) hb); clear BK349; clear HB; have HO367 := n0_; have BK349 := n1_; have HB := n2_; clear n0_ n1_ n2_; (try clear hb); (try clear hb2); (try clear hk); (try clear hi); (try clear ho0); obtain ⟨Ao71, co71, eo71⟩ := Kd.R_slice HO367.out; subst eo71) | ((with_reducible refine gate_callee (f := 30) rfl ?_); refine goesL_ (some 94) rfl rfl Try.func30 (by kernel_rfl) rfl #[.int .i64 a0, .slice Ao71 t365.length co71] rfl (by (try simp only [List.map_toArray, List.map_cons, List.map_nil]); first | done | rfl | (simp only [List.length_drop, List.length_take]; rfl)) ?_; (with_reducible refine (leaf_Many.calls kj8 a0 _ _ t365 t369 t370 _ ?side1 ?side2 A30.out).mono ?_); (case side1 => repeat (first | exact (Kd.R_reads' HO367.out).2.2 | (with_reducible refine Kd.C_alloc ?_ _) | (with_reducible refine Kd.C_drewN ?_ _) | (with_reducible refine Kd.C_drew ?_))); (case side2 => exact (Kd.R_reads' HO367.out).2.1); rintro e w72 ⟨rfl, hb⟩; refine ⟨_, rfl, ?_⟩; have n0_ := Aside0.mk (Kd.R_below (by (with_reducible repeat (first | apply Kd.R_alloc | apply Kd.R_drewN | apply Kd.R_drew)); exact HO367.out) hb); have n1_ := Aside0.mk (blk_below (g := gb349) (o := .cells #[.int .u64 a1_0, .int .u64 a1_1] 24 (0, 0)) (by (with_reducible repeat (first | refine blk_drewN ?_ _ | refine blk_drew ?_ | refine blk_alloc ?_ _)); exact BK349.out) hb); have n2_ := Aside0.mk (below_step (by repeat (first | (with_reducible first | exact HB.out | apply below_alloc | apply pw_below_drewN | apply below_drew1 | refine below_set ?_ GE349.out) | exact HB.out)) hb); clear HO367; clear BK349; clear HB; have HO367 := n0_; have BK349 := n1_; have HB := n2_; clear n0_ n1_ n2_; (try clear hb); (try clear hb2); (try clear hk); (try clear hi)))
                go_ret
                exact ⟨by first | rfl | (simp [errW_none, errW_some] <;> rfl) | (simp [*, errW_none, errW_some] <;> rfl), by repeat (first | (with_reducible first | exact HB.out | apply below_alloc | apply pw_below_drewN | apply below_drew1 | refine below_set ?_ GE349.out) | exact HB.out)⟩
            · replace c31 := Bool.eq_false_iff.mpr c31
              subst c31
              have H1 : (some false) = some r := by rw [if_neg (show ¬ (false = true) by decide)] at H; exact H
              clear H
              have H := H1
              clear H1
              obtain rfl := Option.some.inj H
              have hcz73_0 : wc.cell? ⟨gb349, 0, none⟩ = some (.int .u64 a1_0) := (blk_cell BK349.out 0).trans rfl
              have hcz73_1 : wc.cell? ⟨gb349, 1, none⟩ = some (.int .u64 a1_1) := (blk_cell BK349.out 1).trans rfl
              have hfz73_0 := blk_frozen BK349.out 0
              have hfz73_1 := blk_frozen BK349.out 1
              go_wp2_with (first | ((with_reducible refine gate_callee (f := 31) rfl ?_); refine goesL_ (some 80) rfl rfl Try.func31 (by kernel_rfl) rfl #[.int .i64 a0, .agg #[.int .u64 a1_0, .int .u64 a1_1], .agg #[.int .u64 a1_1, .int .u64 0]] rfl (by (try simp only [List.map_toArray, List.map_cons, List.map_nil]); first | done | rfl | (simp only [List.length_drop, List.length_take]; rfl)) ?_; (with_reducible refine (sub_Touch.calls kj8 a0 a1_0 a1_1 a1_1 0 t363 t364 _ A28.out).mono ?_); rintro e w74 ⟨rfl, hb⟩; refine ⟨_, rfl, ?_⟩; have n0_ := Aside0.mk (blk_below (g := gb349) (o := .cells #[.int .u64 a1_0, .int .u64 a1_1] 24 (0, 0)) (by (with_reducible repeat (first | refine blk_drewN ?_ _ | refine blk_drew ?_ | refine blk_alloc ?_ _)); exact BK349.out) hb); have n1_ := Aside0.mk (below_step (by repeat (first | (with_reducible first | exact HB.out | apply below_alloc | apply pw_below_drewN | apply below_drew1 | refine below_set ?_ GE349.out) | exact HB.out)) hb); clear BK349; clear HB; have BK349 := n0_; have HB := n1_; clear n0_ n1_; (try clear hb); (try clear hb2); (try clear hk); (try clear hi); have hcz75_0 : w74.cell? ⟨gb349, 0, none⟩ = some (.int .u64 a1_0) := (blk_cell BK349.out 0).trans rfl; have hcz75_1 : w74.cell? ⟨gb349, 1, none⟩ = some (.int .u64 a1_1) := (blk_cell BK349.out 1).trans rfl; have hfz75_0 := blk_frozen BK349.out 0; have hfz75_1 := blk_frozen BK349.out 1) | ((with_reducible refine gate_callee (f := 29) rfl ?_); refine goesL_ (some 88) rfl rfl Try.func29 (by kernel_rfl) rfl #[.int .i64 a0, .agg #[.int .u64 a1_1, .int .u64 0]] rfl (by (try simp only [List.map_toArray, List.map_cons, List.map_nil]); first | done | rfl | (simp only [List.length_drop, List.length_take]; rfl)) ?_; (with_reducible refine (sub_Leaves.calls kj8 a0 a1_1 0 t365 t368 _ A29.out).mono ?_); rintro e w76 ⟨v366, rfl, ho0, hb⟩; refine ⟨_, rfl, ?_⟩; have n0_ := Aside0.mk (Kd.R_lower ho0 (below_size (by repeat (first | (with_reducible first | exact HB.out | apply below_alloc | apply pw_below_drewN | apply below_drew1 | refine below_set ?_ GE349.out) | exact HB.out)))); have n1_ := Aside0.mk (blk_below (g := gb349) (o := .cells #[.int .u64 a1_0, .int .u64 a1_1] 24 (0, 0)) (by (with_reducible repeat (first | refine blk_drewN ?_ _ | refine blk_drew ?_ | refine blk_alloc ?_ _)); exact BK349.out) hb); have n2_ := Aside0.mk (below_step (by repeat (first | (with_reducible first | exact HB.out | apply below_alloc | apply pw_below_drewN | apply below_drew1 | refine below_set ?_ GE349.out) | exact HB.out)) hb); clear BK349; clear HB; have HO367 := n0_; have BK349 := n1_; have HB := n2_; clear n0_ n1_ n2_; (try clear hb); (try clear hb2); (try clear hk); (try clear hi); (try clear ho0); obtain ⟨Ao77, co77, eo77⟩ := Kd.R_slice HO367.out; subst eo77) | ((with_reducible refine gate_callee (f := 30) rfl ?_); refine goesL_ (some 94) rfl rfl Try.func30 (by kernel_rfl) rfl #[.int .i64 a0, .slice Ao77 t365.length co77] rfl (by (try simp only [List.map_toArray, List.map_cons, List.map_nil]); first | done | rfl | (simp only [List.length_drop, List.length_take]; rfl)) ?_; (with_reducible refine (leaf_Many.calls kj8 a0 _ _ t365 t369 t370 _ ?side1 ?side2 A30.out).mono ?_); (case side1 => repeat (first | exact (Kd.R_reads' HO367.out).2.2 | (with_reducible refine Kd.C_alloc ?_ _) | (with_reducible refine Kd.C_drewN ?_ _) | (with_reducible refine Kd.C_drew ?_))); (case side2 => exact (Kd.R_reads' HO367.out).2.1); rintro e w78 ⟨rfl, hb⟩; refine ⟨_, rfl, ?_⟩; have n0_ := Aside0.mk (Kd.R_below (by (with_reducible repeat (first | apply Kd.R_alloc | apply Kd.R_drewN | apply Kd.R_drew)); exact HO367.out) hb); have n1_ := Aside0.mk (blk_below (g := gb349) (o := .cells #[.int .u64 a1_0, .int .u64 a1_1] 24 (0, 0)) (by (with_reducible repeat (first | refine blk_drewN ?_ _ | refine blk_drew ?_ | refine blk_alloc ?_ _)); exact BK349.out) hb); have n2_ := Aside0.mk (below_step (by repeat (first | (with_reducible first | exact HB.out | apply below_alloc | apply pw_below_drewN | apply below_drew1 | refine below_set ?_ GE349.out) | exact HB.out)) hb); clear HO367; clear BK349; clear HB; have HO367 := n0_; have BK349 := n1_; have HB := n2_; clear n0_ n1_ n2_; (try clear hb); (try clear hb2); (try clear hk); (try clear hi)))
              go_ret
              exact ⟨by first | rfl | (simp [errW_none, errW_some] <;> rfl) | (simp [*, errW_none, errW_some] <;> rfl), by repeat (first | (with_reducible first | exact HB.out | apply below_alloc | apply pw_below_drewN | apply below_drew1 | refine below_set ?_ GE349.out) | exact HB.out)⟩
  · rw [if_neg c5] at H
    have c5b0 : (t354 == 0) = false := beq_eq_false_iff_ne.mpr c5
    have c5b1 : (t354 != 0) = true := bne_iff_ne.mpr c5
    obtain rfl := Option.some.inj H
    go_enter Try.func6, Try.ntmps6
    go_wp2_with (first | ((with_reducible refine gate_dst (N := 3) rfl ?_); (try (refine gate_guard (by rfl) ?_; dsimp only)); refine box_event ?hg (N := 3) ?hd (cs := #[.int .u64 a1_0, .int .u64 a1_1]) (t := 24) ?hr ?_; (case hd => rfl); (case hg => rfl); (case hr => first | (go_simp; done) | (go_simp; rfl)); intro gb349 hg w79 hbox hb; have n0_ := Aside0.mk (below_step (by repeat (first | (with_reducible first | exact HB.out | apply below_alloc | apply pw_below_drewN | apply below_drew1) | exact HB.out)) hb); have n1_ := Aside0.mk (hbox); have n2_ := Aside0.mk ((by rw [hg]; exact (below_size (by repeat (first | (with_reducible first | exact HB.out | apply below_alloc | apply pw_below_drewN | apply below_drew1) | exact HB.out))) : w.heap.size ≤ gb349)); have n3_ := Aside0.mk ((by rw [hg]; exact (below_size (by repeat (first | (with_reducible first | exact HB.out | apply below_alloc | apply pw_below_drewN | apply below_drew1) | exact HB.out))) : w.heap.size ≤ gb349)); clear HB; have HB := n0_; have BK349 := n1_; have GW349 := n2_; have GE349 := n3_; clear n0_ n1_ n2_ n3_; clear hb hbox hg) | ((with_reducible refine gate_callee (f := 14) rfl ?_); refine goesL_ (some 20) rfl rfl Try.func14 (by kernel_rfl) rfl #[] rfl (by (try simp only [List.map_toArray, List.map_cons, List.map_nil]); first | done | rfl | (simp only [List.length_drop, List.length_take]; rfl)) ?_; (with_reducible refine (medlarlaw08_live.calls k  t350 _ A3.out).mono ?_); rintro e w80 ⟨rfl, hb⟩; refine ⟨_, rfl, ?_⟩; have n0_ := Aside0.mk (blk_below (g := gb349) (o := .cells #[.int .u64 a1_0, .int .u64 a1_1] 24 (0, 0)) (by (with_reducible repeat (first | refine blk_drewN ?_ _ | refine blk_drew ?_ | refine blk_alloc ?_ _)); exact BK349.out) hb); have n1_ := Aside0.mk (below_step (by repeat (first | (with_reducible first | exact HB.out | apply below_alloc | apply pw_below_drewN | apply below_drew1 | refine below_set ?_ GE349.out) | exact HB.out)) hb); clear BK349; clear HB; have BK349 := n0_; have HB := n1_; clear n0_ n1_; (try clear hb); (try clear hb2); (try clear hk); (try clear hi); have hcz81_0 : w80.cell? ⟨gb349, 0, none⟩ = some (.int .u64 a1_0) := (blk_cell BK349.out 0).trans rfl; have hcz81_1 : w80.cell? ⟨gb349, 1, none⟩ = some (.int .u64 a1_1) := (blk_cell BK349.out 1).trans rfl; have hfz81_0 := blk_frozen BK349.out 0; have hfz81_1 := blk_frozen BK349.out 1) | ((with_reducible refine gate_callee (f := 29) rfl ?_); refine goesL_ (some 24) rfl rfl Try.func29 (by kernel_rfl) rfl #[.int .i64 a0, .agg #[.int .u64 a1_0, .int .u64 a1_1]] rfl (by (try simp only [List.map_toArray, List.map_cons, List.map_nil]); first | done | rfl | (simp only [List.length_drop, List.length_take]; rfl)) ?_; (with_reducible refine (sub_Leaves.calls k a0 a1_0 a1_1 t351 t354 _ A4.out).mono ?_); rintro e w82 ⟨v352, rfl, ho0, hb⟩; refine ⟨_, rfl, ?_⟩; have n0_ := Aside0.mk (Kd.R_lower ho0 (below_size (by repeat (first | (with_reducible first | exact HB.out | apply below_alloc | apply pw_below_drewN | apply below_drew1 | refine below_set ?_ GE349.out) | exact HB.out)))); have n1_ := Aside0.mk (blk_below (g := gb349) (o := .cells #[.int .u64 a1_0, .int .u64 a1_1] 24 (0, 0)) (by (with_reducible repeat (first | refine blk_drewN ?_ _ | refine blk_drew ?_ | refine blk_alloc ?_ _)); exact BK349.out) hb); have n2_ := Aside0.mk (below_step (by repeat (first | (with_reducible first | exact HB.out | apply below_alloc | apply pw_below_drewN | apply below_drew1 | refine below_set ?_ GE349.out) | exact HB.out)) hb); clear BK349; clear HB; have HO353 := n0_; have BK349 := n1_; have HB := n2_; clear n0_ n1_ n2_; (try clear hb); (try clear hb2); (try clear hk); (try clear hi); (try clear ho0)))
    go_ret
    exact ⟨by first | rfl | (simp [errW_none, errW_some] <;> rfl) | (simp [*, errW_none, errW_some] <;> rfl), by repeat (first | (with_reducible first | exact HB.out | apply below_alloc | apply pw_below_drewN | apply below_drew1 | refine below_set ?_ GE349.out) | exact HB.out)⟩

/-- THE ONE PURE STATEMENT of medlarlaw08_SubWhole: yours. -/
def medlarlaw08_SubWhole.Pure : Prop := ∀ (a0 : Int) (a1_0 : Int) (a1_1 : Int), (Lit.int .i64 a0).wf = true → (Lit.int .u64 a1_0).wf = true → (Lit.int .u64 a1_1).wf = true → ∃ k, medlarlaw08_SubWhole.f k a0 a1_0 a1_1 = some true
theorem medlarlaw08_SubWhole.walk (P : medlarlaw08_SubWhole.Pure) (a0 : Int) (a1_0 : Int) (a1_1 : Int) (w : World) (w0 : (Lit.int .i64 a0).wf = true) (w1_0 : (Lit.int .u64 a1_0).wf = true) (w1_1 : (Lit.int .u64 a1_1).wf = true) :
    Calls Try.prog 6 #[.int .i64 a0, .agg #[.int .u64 a1_0, .int .u64 a1_1]] w fun e w' => e = .returned (.bool true) ∧ Below w.heap.size w w' := by
  obtain ⟨k, h⟩ := P a0 a1_0 a1_1 w0 w1_0 w1_1
  refine (medlarlaw08_SubWhole.calls k a0 a1_0 a1_1 true w h).mono ?_
  rintro e w' ⟨rfl, hd⟩
  exact ⟨rfl, hd⟩

end Go.Proofs.Ytmaaibcnfhbajaa.MP
