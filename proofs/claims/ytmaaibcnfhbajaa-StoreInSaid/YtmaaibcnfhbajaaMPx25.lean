-- written by a program of this session (wip/tools/mprint.sh) for this seat
import Derived.Test.YtmaaibcnfhbajaaMPx0
import Derived.Test.YtmaaibcnfhbajaaMPx1
import Derived.Test.YtmaaibcnfhbajaaMPx8
import Derived.Test.YtmaaibcnfhbajaaMPx12
import Derived.Test.YtmaaibcnfhbajaaMPx21
namespace Go.Proofs.Ytmaaibcnfhbajaa.MP
open Go.RowKit Go.Proofs.YtmaaibcnfhbajaaW.PrintWords Go.Proofs.YtmaaibcnfhbajaaW.PrintLast Go.Proofs.YtmaaibcnfhbajaaW.PrintMore
attribute [local go_sem] max2_int min2_int max_two min_two max_three min_three max_four min_four   -- for this text's walks alone
set_option linter.unusedVariables false
set_option linter.unusedSimpArgs false

attribute [local go_sem high] eqA24
/-! ### medlarlaw14_StoreIn: function 12 -/
def medlarlaw14_StoreIn.l0 : Nat → Int → Int → Int → Bool → Bool → List (S24) → Int → Int → Int → Int → Option (Bool)
  | 0, _, _, _, _, _, _, _, _, _, _ => none
  | k + 1, x0, x1, x2, x9, x12, x32, x33, x34, x559000, x559001 => if x34 < x33 then (if 0 ≤ x34 then (if x34 < (x32.length : Int) then ((sub_Has.f k x0 ((rd_T24 x32 x34).f0) ((rd_T24 x32 x34).f1) x2).bind fun bt566 => (if bt566.2 = 0 then (if bt566.1 = true then (if x12 = true then (medlarlaw14_StoreIn.l0 k x0 x1 x2 x9 true x32 x33 (wrap64 (x34 + 1)) x559000 x559001) else (medlarlaw14_StoreIn.l0 k x0 x1 x2 x9 (((rd_T24 x32 x34).f0) == x559000 && (((rd_T24 x32 x34).f1) == x559001)) x32 x33 (wrap64 (x34 + 1)) x559000 x559001)) else (some false)) else (some false))) else (none)) else (none)) else ((sub_Has.f k x0 x559000 x559001 x2).bind fun bt568 => (if bt568.2 = 0 then ((layer_May.f k x0 x1 x559000 x559001).bind fun bt570 => (if x12 = true then (if bt568.1 = true then (if bt570.2 = 0 then (if bt570.1 = true then (if x9 = true then (if x559001 = 0 then (some (x12 == bt568.1)) else (some true)) else (some false)) else (some false)) else (some false)) else (some false)) else (if x9 = true then (if bt570.2 = 0 then (if bt570.1 = true then (if x559001 = 0 then (some (x12 == bt568.1)) else (some true)) else (some true)) else (some true)) else (some false)))) else (if x9 = true then (some (!x12)) else (some false))))
def medlarlaw14_StoreIn.f (k : Nat) (a0 : Int) (a1 : Int) (a2 : Int) (a3_0 : Int) (a3_1 : Int) : Option (Bool) := (medlarlaw14_live.f k).bind fun t559 => ((store_Pairs.f k a0 a1 a2).bind fun bt560 => (if bt560.2 = 0 then (medlarlaw14_StoreIn.l0 k a0 a1 a2 t559 false bt560.1 (bt560.1.length : Int) 0 a3_0 a3_1) else (some t559)))
theorem medlarlaw14_StoreIn.mono_l : ∀ k, (∀ y0 y1 y2 y3 y4 y5 y6 y7 y8 y9, LeO (medlarlaw14_StoreIn.l0 k y0 y1 y2 y3 y4 y5 y6 y7 y8 y9) (medlarlaw14_StoreIn.l0 (k + 1) y0 y1 y2 y3 y4 y5 y6 y7 y8 y9))
  | 0 => fun _ _ _ _ _ _ _ _ _ _ r h => by simp [medlarlaw14_StoreIn.l0] at h
  | k + 1 => by
    have ih0 := medlarlaw14_StoreIn.mono_l k
    · intro y0 y1 y2 y3 y4 y5 y6 y7 y8 y9
      unfold medlarlaw14_StoreIn.l0
      repeat' first
      | (with_reducible exact ih0 _ _ _ _ _ _ _ _ _ _)
      | (with_reducible exact layer_May.mono _ _ _ _ _)
      | (with_reducible exact medlarlaw14_live.mono _)
      | (with_reducible exact store_Pairs.mono _ _ _ _)
      | (with_reducible exact sub_Has.mono _ _ _ _ _)
      | (with_reducible exact LeO.refl _)
      | (with_reducible exact LeO.none _)
      | (with_reducible refine LeO.ite ?_ ?_)
      | (with_reducible refine LeO.bind ?_ (fun _ => ?_))
      | exact ih0 _ _ _ _ _ _ _ _ _ _
      | exact layer_May.mono _ _ _ _ _
      | exact medlarlaw14_live.mono _
      | exact store_Pairs.mono _ _ _ _
      | exact sub_Has.mono _ _ _ _ _
      | exact LeO.none _
      | refine LeO.ite ?_ ?_
      | refine LeO.bind ?_ (fun _ => ?_)
theorem medlarlaw14_StoreIn.mono : ∀ a0 a1 a2 a3 a4 k, LeO (medlarlaw14_StoreIn.f k a0 a1 a2 a3 a4) (medlarlaw14_StoreIn.f (k + 1) a0 a1 a2 a3 a4) := by
  intro a0 a1 a2 a3 a4 k
  have ih0 := medlarlaw14_StoreIn.mono_l k
  unfold medlarlaw14_StoreIn.f
  repeat' first
      | (with_reducible exact ih0 _ _ _ _ _ _ _ _ _ _)
      | (with_reducible exact layer_May.mono _ _ _ _ _)
      | (with_reducible exact medlarlaw14_live.mono _)
      | (with_reducible exact store_Pairs.mono _ _ _ _)
      | (with_reducible exact sub_Has.mono _ _ _ _ _)
      | (with_reducible exact LeO.refl _)
      | (with_reducible exact LeO.none _)
      | (with_reducible refine LeO.ite ?_ ?_)
      | (with_reducible refine LeO.bind ?_ (fun _ => ?_))
      | exact ih0 _ _ _ _ _ _ _ _ _ _
      | exact layer_May.mono _ _ _ _ _
      | exact medlarlaw14_live.mono _
      | exact store_Pairs.mono _ _ _ _
      | exact sub_Has.mono _ _ _ _ _
      | exact LeO.none _
      | refine LeO.ite ?_ ?_
      | refine LeO.bind ?_ (fun _ => ?_)
set_option maxHeartbeats 8000000 in
set_option maxRecDepth 100000 in
theorem medlarlaw14_StoreIn.calls (k : Nat) (a0 : Int) (a1 : Int) (a2 : Int) (a3_0 : Int) (a3_1 : Int) (r : Bool) (w : World) (h : medlarlaw14_StoreIn.f k a0 a1 a2 a3_0 a3_1 = some r) (hT : Aside0 (r = true)) :
    Calls Try.prog 12 #[.int .i64 a0, .int .i64 a1, .int .u64 a2, .agg #[.int .u64 a3_0, .int .u64 a3_1]] w fun e w' => e = .returned (.bool r) ∧ Below w.heap.size w w' := by
  have hu24 := Try.underlying24
  have HB := Aside0.mk (Below.refl w.heap.size w)
  have H : ((medlarlaw14_live.f k).bind fun t559 => ((store_Pairs.f k a0 a1 a2).bind fun bt560 => (if bt560.2 = 0 then (medlarlaw14_StoreIn.l0 k a0 a1 a2 t559 false bt560.1 (bt560.1.length : Int) 0 a3_0 a3_1) else (some t559)))) = some r := h
  clear h
  replace H := Option.bind_eq_some_iff.mp H
  obtain ⟨t559, A50, H⟩ := H
  replace H : ((store_Pairs.f k a0 a1 a2).bind fun bt560 => (if bt560.2 = 0 then (medlarlaw14_StoreIn.l0 k a0 a1 a2 t559 false bt560.1 (bt560.1.length : Int) 0 a3_0 a3_1) else (some t559))) = some r := H
  have A5 := Aside0.mk A50
  clear A50
  replace H := Option.bind_eq_some_iff.mp H
  obtain ⟨⟨t560, t561⟩, A60, H⟩ := H
  replace H : (if t561 = 0 then (medlarlaw14_StoreIn.l0 k a0 a1 a2 t559 false t560 (t560.length : Int) 0 a3_0 a3_1) else (some t559)) = some r := H
  have A6 := Aside0.mk A60
  clear A60
  by_cases c7 : t561 = 0
  · rw [if_pos c7] at H
    have c7b0 : (t561 == 0) = true := beq_iff_eq.mpr c7
    have c7b1 : (t561 != 0) = false := bne_eq_false_iff_eq.mpr c7
    clear c7
    have H' := Aside0.mk H
    clear H
    go_enter Try.func12, Try.ntmps12
    go_wp2_with (first | ((with_reducible refine gate_dst (N := 7) rfl ?_); refine box_event ?hg (N := 7) ?hd (cs := #[.int .u64 a3_0, .int .u64 a3_1]) (t := 24) ?hr ?_; (case hd => rfl); (case hg => rfl); (case hr => first | (go_simp; done) | (go_simp; rfl)); intro gb558 hg w8 hbox hb; have n0_ := Aside0.mk (below_step (by repeat (first | (with_reducible first | exact HB.out | apply below_alloc | apply pw_below_drewN | apply below_drew1) | exact HB.out)) hb); have n1_ := Aside0.mk (hbox); have n2_ := Aside0.mk ((by rw [hg]; exact (below_size (by repeat (first | (with_reducible first | exact HB.out | apply below_alloc | apply pw_below_drewN | apply below_drew1) | exact HB.out))) : w.heap.size ≤ gb558)); have n3_ := Aside0.mk ((by rw [hg]; exact (below_size (by repeat (first | (with_reducible first | exact HB.out | apply below_alloc | apply pw_below_drewN | apply below_drew1) | exact HB.out))) : w.heap.size ≤ gb558)); clear HB; have HB := n0_; have BK558 := n1_; have GW558 := n2_; have GE558 := n3_; clear n0_ n1_ n2_ n3_; clear hb hbox hg) | ((with_reducible refine gate_callee (f := 22) rfl ?_); refine goesL_ (some 21) rfl rfl Try.func22 (by kernel_rfl) rfl #[] rfl (by (try simp only [List.map_toArray, List.map_cons, List.map_nil]); first | done | rfl | (simp only [List.length_drop, List.length_take]; rfl)) ?_; (with_reducible refine (medlarlaw14_live.calls k  t559 _ A5.out).mono ?_); rintro e w9 ⟨rfl, hb⟩; refine ⟨_, rfl, ?_⟩; have n0_ := Aside0.mk (blk_below (g := gb558) (o := .cells #[.int .u64 a3_0, .int .u64 a3_1] 24 (0, 0)) (by (with_reducible repeat (first | refine blk_drewN ?_ _ | refine blk_drew ?_ | refine blk_alloc ?_ _)); exact BK558.out) hb); have n1_ := Aside0.mk (below_step (by repeat (first | (with_reducible first | exact HB.out | apply below_alloc | apply pw_below_drewN | apply below_drew1 | refine below_set ?_ GE558.out) | exact HB.out)) hb); clear BK558; clear HB; have BK558 := n0_; have HB := n1_; clear n0_ n1_; (try clear hb); (try clear hb2); (try clear hk); (try clear hi)) | ((with_reducible refine gate_callee (f := 23) rfl ?_); refine goesL_ (some 26) rfl rfl Try.func23 (by kernel_rfl) rfl #[.int .i64 a0, .int .i64 a1, .int .u64 a2] rfl (by (try simp only [List.map_toArray, List.map_cons, List.map_nil]); first | done | rfl | (simp only [List.length_drop, List.length_take]; rfl)) ?_; (with_reducible refine (store_Pairs.calls k a0 a1 a2 t560 t561 _ A6.out).mono ?_); rintro e w10 ⟨v562, rfl, ho0, hb⟩; refine ⟨_, rfl, ?_⟩; have n0_ := Aside0.mk (Kd.R_lower (Kd.R_newB ho0 (g := gb558) (o := .cells #[.int .u64 a3_0, .int .u64 a3_1] 24 (0, 0)) (by (with_reducible repeat (first | refine blk_drewN ?_ _ | refine blk_drew ?_ | refine blk_alloc ?_ _)); exact BK558.out)) (below_size (by repeat (first | (with_reducible first | exact HB.out | apply below_alloc | apply pw_below_drewN | apply below_drew1 | refine below_set ?_ GE558.out) | exact HB.out)))); have n1_ := Aside0.mk (blk_below (g := gb558) (o := .cells #[.int .u64 a3_0, .int .u64 a3_1] 24 (0, 0)) (by (with_reducible repeat (first | refine blk_drewN ?_ _ | refine blk_drew ?_ | refine blk_alloc ?_ _)); exact BK558.out) hb); have n2_ := Aside0.mk (below_step (by repeat (first | (with_reducible first | exact HB.out | apply below_alloc | apply pw_below_drewN | apply below_drew1 | refine below_set ?_ GE558.out) | exact HB.out)) hb); clear BK558; clear HB; have HO563 := n0_; have BK558 := n1_; have HB := n2_; clear n0_ n1_ n2_; (try clear hb); (try clear hb2); (try clear hk); (try clear hi); (try clear ho0); obtain ⟨Ao11, co11, eo11⟩ := Kd.R_slice HO563.out; subst eo11))
    go_loopg [12, 34] k (fun kq v12 v34 w' => ∃ (x12_1 : Bool) (x34_1 : Int), v12 = .bool x12_1 ∧ v34 = .int .i64 x34_1 ∧ Aside0 (medlarlaw14_StoreIn.l0 kq a0 a1 a2 t559 x12_1 t560 (t560.length : Int) x34_1 a3_0 a3_1 = some r) ∧ Aside0 (kq ≤ k) ∧ Aside0 (Kd.R k24 24 w' w.heap.size (fun k_ => k_ ≠ gb558) (.slice Ao11 t560.length co11) t560) ∧ Aside0 (w'.heap[gb558]? = some (.cells #[.int .u64 a3_0, .int .u64 a3_1] 24 (0, 0))) ∧ Aside0 (Below w.heap.size w w'))
    case atStart => exact ⟨(false), (0), (by first | rfl | (simp; done) | (simp [*]; done)), (by first | rfl | (simp; done) | (simp [*]; done)), H', ⟨Nat.le_refl _⟩, ⟨by (with_reducible repeat (first | apply Kd.R_alloc | apply Kd.R_drewN | apply Kd.R_drew)); exact Kd.R_mono HO563.out (fun _ hk => hk.2)⟩, ⟨by (with_reducible repeat (first | refine blk_drewN ?_ _ | refine blk_drew ?_ | refine blk_alloc ?_ _)); exact BK558.out⟩, ⟨by repeat (first | (with_reducible first | exact HB.out | apply below_alloc | apply pw_below_drewN | apply below_drew1 | refine below_set ?_ GE558.out) | exact HB.out)⟩⟩
    case round =>
      clear H'
      try clear c1
      try clear c2
      try clear p2
      try clear c7
      try clear c7b0
      try clear c7b1
      obtain ⟨x12_1, x34_1, rfl, rfl, HA, HK1, HO_32, BK558, HB⟩ := hrel
      cases gk with
      | zero => exact absurd HA.out (by simp [medlarlaw14_StoreIn.l0])
      | succ k1 =>
        have H := HA.out
        clear HA
        simp only [medlarlaw14_StoreIn.l0] at H
        by_cases c12 : x34_1 < (t560.length : Int)
        · rw [if_pos c12] at H
          have c12b0 : decide (x34_1 < (t560.length : Int)) = true := decide_eq_true c12
          clear c12
          by_cases c13 : 0 ≤ x34_1
          · rw [if_pos c13] at H
            have c13b0 : decide (0 ≤ x34_1) = true := decide_eq_true c13
            clear c13
            by_cases c14 : x34_1 < (t560.length : Int)
            · rw [if_pos c14] at H
              have c14b0 : decide (x34_1 < (t560.length : Int)) = true := decide_eq_true c14
              clear c14
              replace H := Option.bind_eq_some_iff.mp H
              obtain ⟨⟨t566, t567⟩, A150, H⟩ := H
              replace H : (if t567 = 0 then (if t566 = true then (if x12_1 = true then (medlarlaw14_StoreIn.l0 k1 a0 a1 a2 t559 true t560 (t560.length : Int) (wrap64 (x34_1 + 1)) a3_0 a3_1) else (medlarlaw14_StoreIn.l0 k1 a0 a1 a2 t559 (((rd_T24 t560 x34_1).f0) == a3_0 && (((rd_T24 t560 x34_1).f1) == a3_1)) t560 (t560.length : Int) (wrap64 (x34_1 + 1)) a3_0 a3_1)) else (some false)) else (some false)) = some r := H
              have A15 := Aside0.mk A150
              clear A150
              by_cases c16 : t567 = 0
              · rw [if_pos c16] at H
                have c16b0 : (t567 == 0) = true := beq_iff_eq.mpr c16
                have c16b1 : (t567 != 0) = false := bne_eq_false_iff_eq.mpr c16
                clear c16
                by_cases c17 : t566 = true
                · subst c17
                  have H1 : (if x12_1 = true then (medlarlaw14_StoreIn.l0 k1 a0 a1 a2 t559 true t560 (t560.length : Int) (wrap64 (x34_1 + 1)) a3_0 a3_1) else (medlarlaw14_StoreIn.l0 k1 a0 a1 a2 t559 (((rd_T24 t560 x34_1).f0) == a3_0 && (((rd_T24 t560 x34_1).f1) == a3_1)) t560 (t560.length : Int) (wrap64 (x34_1 + 1)) a3_0 a3_1)) = some r := by rw [if_pos rfl] at H; exact H
                  clear H
                  have H := H1
                  clear H1
                  by_cases c18 : x12_1 = true
                  · subst c18
                    have H1 : (medlarlaw14_StoreIn.l0 k1 a0 a1 a2 t559 true t560 (t560.length : Int) (wrap64 (x34_1 + 1)) a3_0 a3_1) = some r := by rw [if_pos rfl] at H; exact H
                    clear H
                    have H := H1
                    clear H1
                    have H' := Aside0.mk H
                    clear H
                    have p564 : 0 ≤ (x34_1 : Int) := of_decide_eq_true (by first | (with_reducible assumption) | assumption)
                    have q564 : x34_1 < (t560.length : Int) := of_decide_eq_true (by first | (with_reducible assumption) | assumption)
                    obtain ⟨ad564, e564, hx564_0, hx564_1⟩ := at_T24 (Kd.R_reads' HO_32.out).2.2 x34_1 p564 q564
                    cases e564
                    replace p564 := eq_true p564
                    replace q564 := eq_true q564
                    go_wp2_with (first | ((with_reducible refine gate_dst (N := 14) rfl ?_); refine box_event ?hg (N := 14) ?hd (cs := #[.int .u64 0, .int .u64 0]) (t := 24) ?hr ?_; (case hd => rfl); (case hg => rfl); (case hr => first | (go_simp; done) | (go_simp; rfl)); intro gb565 hg w19 hbox hb; have n0_ := Aside0.mk (Kd.R_below (Kd.R_elderB (by (with_reducible repeat (first | apply Kd.R_alloc | apply Kd.R_drewN | apply Kd.R_drew)); exact HO_32.out) gb565 (Nat.le_of_eq hg.symm)) hb); have n1_ := Aside0.mk (blk_below (g := gb558) (o := .cells #[.int .u64 a3_0, .int .u64 a3_1] 24 (0, 0)) (by (with_reducible repeat (first | refine blk_drewN ?_ _ | refine blk_drew ?_ | refine blk_alloc ?_ _)); exact BK558.out) hb); have n2_ := Aside0.mk (below_step (by repeat (first | (with_reducible first | exact HB.out | apply below_alloc | apply pw_below_drewN | apply below_drew1 | refine below_set ?_ GE558.out) | exact HB.out)) hb); have n3_ := Aside0.mk (hbox); have n4_ := Aside0.mk ((by rw [hg]; exact (below_size (by repeat (first | (with_reducible first | exact HB.out | apply below_alloc | apply pw_below_drewN | apply below_drew1 | refine below_set ?_ GE558.out) | exact HB.out))) : w.heap.size ≤ gb565)); have n5_ := Aside0.mk ((by rw [hg]; exact (below_size (by repeat (first | (with_reducible first | exact HB.out | apply below_alloc | apply pw_below_drewN | apply below_drew1 | refine below_set ?_ GE558.out) | exact HB.out))) : w.heap.size ≤ gb565)); have n6_ := Aside0.mk ((by rw [hg]; exact Nat.ne_of_lt (blk_lt (g := gb558) (o := .cells #[.int .u64 a3_0, .int .u64 a3_1] 24 (0, 0)) (by (with_reducible repeat (first | refine blk_drewN ?_ _ | refine blk_drew ?_ | refine blk_alloc ?_ _)); exact BK558.out)) : gb558 ≠ gb565)); have n7_ := Aside0.mk ((by rw [hg]; exact Nat.ne_of_gt (blk_lt (g := gb558) (o := .cells #[.int .u64 a3_0, .int .u64 a3_1] 24 (0, 0)) (by (with_reducible repeat (first | refine blk_drewN ?_ _ | refine blk_drew ?_ | refine blk_alloc ?_ _)); exact BK558.out)) : gb565 ≠ gb558)); clear HO_32; clear BK558; clear HB; have HO_32 := n0_; have BK558 := n1_; have HB := n2_; have BK565 := n3_; have GW565 := n4_; have GE565 := n5_; have NB558_565 := n6_; have NB565_558 := n7_; clear n0_ n1_ n2_ n3_ n4_ n5_ n6_ n7_; clear hb hbox hg; have hnb20 := NB565_558.out; have hnc20 := NB558_565.out; have hcz21_0 : w19.cell? ⟨gb565, 0, none⟩ = some (.int .u64 0) := (blk_cell BK565.out 0).trans rfl; have hcz21_1 : w19.cell? ⟨gb565, 1, none⟩ = some (.int .u64 0) := (blk_cell BK565.out 1).trans rfl; have hfz21_0 := blk_frozen BK565.out 0; have hfz21_1 := blk_frozen BK565.out 1) | ((with_reducible refine gate_callee (f := 34) rfl ?_); refine goesL_ (some 42) rfl rfl Try.func34 (by kernel_rfl) rfl #[.int .i64 a0, .agg #[.int .u64 ((rd_T24 t560 x34_1).f0), .int .u64 ((rd_T24 t560 x34_1).f1)], .int .u64 a2] rfl (by (try simp only [List.map_toArray, List.map_cons, List.map_nil]); first | done | rfl | (simp only [List.length_drop, List.length_take]; rfl)) ?_; (with_reducible refine (sub_Has.calls k1 a0 ((rd_T24 t560 x34_1).f0) ((rd_T24 t560 x34_1).f1) a2 true t567 _ A15.out).mono ?_); rintro e w22 ⟨rfl, hb⟩; refine ⟨_, rfl, ?_⟩; have n0_ := Aside0.mk (Kd.R_below (by (with_reducible repeat (first | apply Kd.R_alloc | apply Kd.R_drewN | apply Kd.R_drew)); exact (Kd.R_mono (Kd.R_far (p := ⟨gb565, 1, none⟩) (Kd.R_far (p := ⟨gb565, 0, none⟩) (Kd.R_mono HO_32.out (fun k_ hk => (⟨hk, hk.2⟩ : _ ∧ k_ ≠ gb565))) (fun _ hk => hk.2) (.int .u64 ((rd_T24 t560 x34_1).f0))) (fun _ hk => hk.2) (.int .u64 ((rd_T24 t560 x34_1).f1))) (fun _ h_ => h_.1))) hb); have n1_ := Aside0.mk (blk_below (g := gb558) (o := .cells #[.int .u64 a3_0, .int .u64 a3_1] 24 (0, 0)) (by (with_reducible repeat (first | refine blk_drewN ?_ _ | refine blk_drew ?_ | refine blk_alloc ?_ _)); refine blk_far ?_ NB558_565.out _; (with_reducible repeat (first | refine blk_drewN ?_ _ | refine blk_drew ?_ | refine blk_alloc ?_ _)); refine blk_far ?_ NB558_565.out _; (with_reducible repeat (first | refine blk_drewN ?_ _ | refine blk_drew ?_ | refine blk_alloc ?_ _)); exact BK558.out) hb); have n2_ := Aside0.mk (blk_below (g := gb565) (o := .cells #[.int .u64 ((rd_T24 t560 x34_1).f0), .int .u64 ((rd_T24 t560 x34_1).f1)] 24 (0, 0)) (by (with_reducible repeat (first | refine blk_drewN ?_ _ | refine blk_drew ?_ | refine blk_alloc ?_ _)); refine blk_put (cs := #[.int .u64 ((rd_T24 t560 x34_1).f0), .int .u64 0]) ?_ 1 _ rfl; (with_reducible repeat (first | refine blk_drewN ?_ _ | refine blk_drew ?_ | refine blk_alloc ?_ _)); refine blk_put (cs := #[.int .u64 0, .int .u64 0]) ?_ 0 _ rfl; (with_reducible repeat (first | refine blk_drewN ?_ _ | refine blk_drew ?_ | refine blk_alloc ?_ _)); exact BK565.out) hb); have n3_ := Aside0.mk (below_step (by repeat (first | (with_reducible first | exact HB.out | apply below_alloc | apply pw_below_drewN | apply below_drew1 | refine below_set ?_ GE558.out | refine below_set ?_ GE565.out) | exact HB.out)) hb); clear HO_32; clear BK558; clear BK565; clear HB; have HO_32 := n0_; have BK558 := n1_; have BK565 := n2_; have HB := n3_; clear n0_ n1_ n2_ n3_; (try clear hb); (try clear hb2); (try clear hk); (try clear hi)))
                    go_roundg k1
                    case measure => have := HK1.out; omega
                    case rel => exact ⟨(true), (wrap64 (x34_1 + 1)), (by first | rfl | (simp; done) | (simp [*]; done)), (by first | rfl | (simp; done) | (simp [*]; done)), H', ⟨by have := HK1.out; omega⟩, ⟨by (with_reducible repeat (first | apply Kd.R_alloc | apply Kd.R_drewN | apply Kd.R_drew)); exact Kd.R_mono HO_32.out (fun _ hk => hk.1)⟩, ⟨by (with_reducible repeat (first | refine blk_drewN ?_ _ | refine blk_drew ?_ | refine blk_alloc ?_ _)); exact BK558.out⟩, ⟨by repeat (first | (with_reducible first | exact HB.out | apply below_alloc | apply pw_below_drewN | apply below_drew1 | refine below_set ?_ GE558.out | refine below_set ?_ GE565.out) | exact HB.out)⟩⟩
                  · replace c18 := Bool.eq_false_iff.mpr c18
                    subst c18
                    have H1 : (medlarlaw14_StoreIn.l0 k1 a0 a1 a2 t559 (((rd_T24 t560 x34_1).f0) == a3_0 && (((rd_T24 t560 x34_1).f1) == a3_1)) t560 (t560.length : Int) (wrap64 (x34_1 + 1)) a3_0 a3_1) = some r := by rw [if_neg (show ¬ (false = true) by decide)] at H; exact H
                    clear H
                    have H := H1
                    clear H1
                    have H' := Aside0.mk H
                    clear H
                    have p564 : 0 ≤ (x34_1 : Int) := of_decide_eq_true (by first | (with_reducible assumption) | assumption)
                    have q564 : x34_1 < (t560.length : Int) := of_decide_eq_true (by first | (with_reducible assumption) | assumption)
                    obtain ⟨ad564, e564, hx564_0, hx564_1⟩ := at_T24 (Kd.R_reads' HO_32.out).2.2 x34_1 p564 q564
                    cases e564
                    replace p564 := eq_true p564
                    replace q564 := eq_true q564
                    go_wp2_with (first | ((with_reducible refine gate_dst (N := 14) rfl ?_); refine box_event ?hg (N := 14) ?hd (cs := #[.int .u64 0, .int .u64 0]) (t := 24) ?hr ?_; (case hd => rfl); (case hg => rfl); (case hr => first | (go_simp; done) | (go_simp; rfl)); intro gb565 hg w23 hbox hb; have n0_ := Aside0.mk (Kd.R_below (Kd.R_elderB (by (with_reducible repeat (first | apply Kd.R_alloc | apply Kd.R_drewN | apply Kd.R_drew)); exact HO_32.out) gb565 (Nat.le_of_eq hg.symm)) hb); have n1_ := Aside0.mk (blk_below (g := gb558) (o := .cells #[.int .u64 a3_0, .int .u64 a3_1] 24 (0, 0)) (by (with_reducible repeat (first | refine blk_drewN ?_ _ | refine blk_drew ?_ | refine blk_alloc ?_ _)); exact BK558.out) hb); have n2_ := Aside0.mk (below_step (by repeat (first | (with_reducible first | exact HB.out | apply below_alloc | apply pw_below_drewN | apply below_drew1 | refine below_set ?_ GE558.out) | exact HB.out)) hb); have n3_ := Aside0.mk (hbox); have n4_ := Aside0.mk ((by rw [hg]; exact (below_size (by repeat (first | (with_reducible first | exact HB.out | apply below_alloc | apply pw_below_drewN | apply below_drew1 | refine below_set ?_ GE558.out) | exact HB.out))) : w.heap.size ≤ gb565)); have n5_ := Aside0.mk ((by rw [hg]; exact (below_size (by repeat (first | (with_reducible first | exact HB.out | apply below_alloc | apply pw_below_drewN | apply below_drew1 | refine below_set ?_ GE558.out) | exact HB.out))) : w.heap.size ≤ gb565)); have n6_ := Aside0.mk ((by rw [hg]; exact Nat.ne_of_lt (blk_lt (g := gb558) (o := .cells #[.int .u64 a3_0, .int .u64 a3_1] 24 (0, 0)) (by (with_reducible repeat (first | refine blk_drewN ?_ _ | refine blk_drew ?_ | refine blk_alloc ?_ _)); exact BK558.out)) : gb558 ≠ gb565)); have n7_ := Aside0.mk ((by rw [hg]; exact Nat.ne_of_gt (blk_lt (g := gb558) (o := .cells #[.int .u64 a3_0, .int .u64 a3_1] 24 (0, 0)) (by (with_reducible repeat (first | refine blk_drewN ?_ _ | refine blk_drew ?_ | refine blk_alloc ?_ _)); exact BK558.out)) : gb565 ≠ gb558)); clear HO_32; clear BK558; clear HB; have HO_32 := n0_; have BK558 := n1_; have HB := n2_; have BK565 := n3_; have GW565 := n4_; have GE565 := n5_; have NB558_565 := n6_; have NB565_558 := n7_; clear n0_ n1_ n2_ n3_ n4_ n5_ n6_ n7_; clear hb hbox hg; have hnb24 := NB565_558.out; have hnc24 := NB558_565.out; have hcz25_0 : w23.cell? ⟨gb565, 0, none⟩ = some (.int .u64 0) := (blk_cell BK565.out 0).trans rfl; have hcz25_1 : w23.cell? ⟨gb565, 1, none⟩ = some (.int .u64 0) := (blk_cell BK565.out 1).trans rfl; have hfz25_0 := blk_frozen BK565.out 0; have hfz25_1 := blk_frozen BK565.out 1) | ((with_reducible refine gate_callee (f := 34) rfl ?_); refine goesL_ (some 42) rfl rfl Try.func34 (by kernel_rfl) rfl #[.int .i64 a0, .agg #[.int .u64 ((rd_T24 t560 x34_1).f0), .int .u64 ((rd_T24 t560 x34_1).f1)], .int .u64 a2] rfl (by (try simp only [List.map_toArray, List.map_cons, List.map_nil]); first | done | rfl | (simp only [List.length_drop, List.length_take]; rfl)) ?_; (with_reducible refine (sub_Has.calls k1 a0 ((rd_T24 t560 x34_1).f0) ((rd_T24 t560 x34_1).f1) a2 true t567 _ A15.out).mono ?_); rintro e w26 ⟨rfl, hb⟩; refine ⟨_, rfl, ?_⟩; have n0_ := Aside0.mk (Kd.R_below (by (with_reducible repeat (first | apply Kd.R_alloc | apply Kd.R_drewN | apply Kd.R_drew)); exact (Kd.R_mono (Kd.R_far (p := ⟨gb565, 1, none⟩) (Kd.R_far (p := ⟨gb565, 0, none⟩) (Kd.R_mono HO_32.out (fun k_ hk => (⟨hk, hk.2⟩ : _ ∧ k_ ≠ gb565))) (fun _ hk => hk.2) (.int .u64 ((rd_T24 t560 x34_1).f0))) (fun _ hk => hk.2) (.int .u64 ((rd_T24 t560 x34_1).f1))) (fun _ h_ => h_.1))) hb); have n1_ := Aside0.mk (blk_below (g := gb558) (o := .cells #[.int .u64 a3_0, .int .u64 a3_1] 24 (0, 0)) (by (with_reducible repeat (first | refine blk_drewN ?_ _ | refine blk_drew ?_ | refine blk_alloc ?_ _)); refine blk_far ?_ NB558_565.out _; (with_reducible repeat (first | refine blk_drewN ?_ _ | refine blk_drew ?_ | refine blk_alloc ?_ _)); refine blk_far ?_ NB558_565.out _; (with_reducible repeat (first | refine blk_drewN ?_ _ | refine blk_drew ?_ | refine blk_alloc ?_ _)); exact BK558.out) hb); have n2_ := Aside0.mk (blk_below (g := gb565) (o := .cells #[.int .u64 ((rd_T24 t560 x34_1).f0), .int .u64 ((rd_T24 t560 x34_1).f1)] 24 (0, 0)) (by (with_reducible repeat (first | refine blk_drewN ?_ _ | refine blk_drew ?_ | refine blk_alloc ?_ _)); refine blk_put (cs := #[.int .u64 ((rd_T24 t560 x34_1).f0), .int .u64 0]) ?_ 1 _ rfl; (with_reducible repeat (first | refine blk_drewN ?_ _ | refine blk_drew ?_ | refine blk_alloc ?_ _)); refine blk_put (cs := #[.int .u64 0, .int .u64 0]) ?_ 0 _ rfl; (with_reducible repeat (first | refine blk_drewN ?_ _ | refine blk_drew ?_ | refine blk_alloc ?_ _)); exact BK565.out) hb); have n3_ := Aside0.mk (below_step (by repeat (first | (with_reducible first | exact HB.out | apply below_alloc | apply pw_below_drewN | apply below_drew1 | refine below_set ?_ GE558.out | refine below_set ?_ GE565.out) | exact HB.out)) hb); clear HO_32; clear BK558; clear BK565; clear HB; have HO_32 := n0_; have BK558 := n1_; have BK565 := n2_; have HB := n3_; clear n0_ n1_ n2_ n3_; (try clear hb); (try clear hb2); (try clear hk); (try clear hi); have hcz27_0 : w26.cell? ⟨gb565, 0, none⟩ = some (.int .u64 ((rd_T24 t560 x34_1).f0)) := (blk_cell BK565.out 0).trans rfl; have hcz27_1 : w26.cell? ⟨gb565, 1, none⟩ = some (.int .u64 ((rd_T24 t560 x34_1).f1)) := (blk_cell BK565.out 1).trans rfl; have hfz27_0 := blk_frozen BK565.out 0; have hfz27_1 := blk_frozen BK565.out 1; have hcz28_0 : w26.cell? ⟨gb558, 0, none⟩ = some (.int .u64 a3_0) := (blk_cell BK558.out 0).trans rfl; have hcz28_1 : w26.cell? ⟨gb558, 1, none⟩ = some (.int .u64 a3_1) := (blk_cell BK558.out 1).trans rfl; have hfz28_0 := blk_frozen BK558.out 0; have hfz28_1 := blk_frozen BK558.out 1))
                    go_roundg k1
                    case measure => have := HK1.out; omega
                    case rel => exact ⟨((((rd_T24 t560 x34_1).f0) == a3_0 && (((rd_T24 t560 x34_1).f1) == a3_1))), (wrap64 (x34_1 + 1)), (by first | rfl | (simp; done) | (simp [*]; done)), (by first | rfl | (simp; done) | (simp [*]; done)), H', ⟨by have := HK1.out; omega⟩, ⟨by (with_reducible repeat (first | apply Kd.R_alloc | apply Kd.R_drewN | apply Kd.R_drew)); exact Kd.R_mono HO_32.out (fun _ hk => hk.1)⟩, ⟨by (with_reducible repeat (first | refine blk_drewN ?_ _ | refine blk_drew ?_ | refine blk_alloc ?_ _)); exact BK558.out⟩, ⟨by repeat (first | (with_reducible first | exact HB.out | apply below_alloc | apply pw_below_drewN | apply below_drew1 | refine below_set ?_ GE558.out | refine below_set ?_ GE565.out) | exact HB.out)⟩⟩
                · replace c17 := Bool.eq_false_iff.mpr c17
                  subst c17
                  have H1 : (some false) = some r := by rw [if_neg (show ¬ (false = true) by decide)] at H; exact H
                  clear H
                  have H := H1
                  clear H1
                  exact absurd ((Option.some.inj H).trans hT.out) Bool.false_ne_true
              · rw [if_neg c16] at H
                have c16b0 : (t567 == 0) = false := beq_eq_false_iff_ne.mpr c16
                have c16b1 : (t567 != 0) = true := bne_iff_ne.mpr c16
                exact absurd ((Option.some.inj H).trans hT.out) Bool.false_ne_true
            · rw [if_neg c14] at H
              exact absurd H (by simp)
          · rw [if_neg c13] at H
            exact absurd H (by simp)
        · rw [if_neg c12] at H
          have c12b0 : decide (x34_1 < (t560.length : Int)) = false := decide_eq_false c12
          clear c12
          replace H := Option.bind_eq_some_iff.mp H
          obtain ⟨⟨t568, t569⟩, A290, H⟩ := H
          replace H : (if t569 = 0 then ((layer_May.f k1 a0 a1 a3_0 a3_1).bind fun bt570 => (if x12_1 = true then (if t568 = true then (if bt570.2 = 0 then (if bt570.1 = true then (if t559 = true then (if a3_1 = 0 then (some (x12_1 == t568)) else (some true)) else (some false)) else (some false)) else (some false)) else (some false)) else (if t559 = true then (if bt570.2 = 0 then (if bt570.1 = true then (if a3_1 = 0 then (some (x12_1 == t568)) else (some true)) else (some true)) else (some true)) else (some false)))) else (if t559 = true then (some (!x12_1)) else (some false))) = some r := H
          have A29 := Aside0.mk A290
          clear A290
          by_cases c30 : t569 = 0
          · rw [if_pos c30] at H
            have c30b0 : (t569 == 0) = true := beq_iff_eq.mpr c30
            have c30b1 : (t569 != 0) = false := bne_eq_false_iff_eq.mpr c30
            clear c30
            replace H := Option.bind_eq_some_iff.mp H
            obtain ⟨⟨t570, t571⟩, A310, H⟩ := H
            replace H : (if x12_1 = true then (if t568 = true then (if t571 = 0 then (if t570 = true then (if t559 = true then (if a3_1 = 0 then (some (x12_1 == t568)) else (some true)) else (some false)) else (some false)) else (some false)) else (some false)) else (if t559 = true then (if t571 = 0 then (if t570 = true then (if a3_1 = 0 then (some (x12_1 == t568)) else (some true)) else (some true)) else (some true)) else (some false))) = some r := H
            have A31 := Aside0.mk A310
            clear A310
            by_cases c32 : x12_1 = true
            · subst c32
              have H1 : (if t568 = true then (if t571 = 0 then (if t570 = true then (if t559 = true then (if a3_1 = 0 then (some (true == t568)) else (some true)) else (some false)) else (some false)) else (some false)) else (some false)) = some r := by rw [if_pos rfl] at H; exact H
              clear H
              have H := H1
              clear H1
              by_cases c33 : t568 = true
              · subst c33
                have H1 : (if t571 = 0 then (if t570 = true then (if t559 = true then (if a3_1 = 0 then (some (true == true)) else (some true)) else (some false)) else (some false)) else (some false)) = some r := by rw [if_pos rfl] at H; exact H
                clear H
                have H := H1
                clear H1
                by_cases c34 : t571 = 0
                · rw [if_pos c34] at H
                  have c34b0 : (t571 == 0) = true := beq_iff_eq.mpr c34
                  have c34b1 : (t571 != 0) = false := bne_eq_false_iff_eq.mpr c34
                  clear c34
                  by_cases c35 : t570 = true
                  · subst c35
                    have H1 : (if t559 = true then (if a3_1 = 0 then (some (true == true)) else (some true)) else (some false)) = some r := by rw [if_pos rfl] at H; exact H
                    clear H
                    have H := H1
                    clear H1
                    by_cases c36 : t559 = true
                    · subst c36
                      have H1 : (if a3_1 = 0 then (some (true == true)) else (some true)) = some r := by rw [if_pos rfl] at H; exact H
                      clear H
                      have H := H1
                      clear H1
                      by_cases c37 : a3_1 = 0
                      · rw [if_pos c37] at H
                        have c37b0 : (a3_1 == 0) = true := beq_iff_eq.mpr c37
                        have c37b1 : (a3_1 != 0) = false := bne_eq_false_iff_eq.mpr c37
                        clear c37
                        obtain rfl := Option.some.inj H
                        have hcz38_0 : wr.cell? ⟨gb558, 0, none⟩ = some (.int .u64 a3_0) := (blk_cell BK558.out 0).trans rfl
                        have hcz38_1 : wr.cell? ⟨gb558, 1, none⟩ = some (.int .u64 a3_1) := (blk_cell BK558.out 1).trans rfl
                        have hfz38_0 := blk_frozen BK558.out 0
                        have hfz38_1 := blk_frozen BK558.out 1
                        go_wp2_with (first | ((with_reducible refine gate_callee (f := 34) rfl ?_); refine goesL_ (some 62) rfl rfl Try.func34 (by kernel_rfl) rfl #[.int .i64 a0, .agg #[.int .u64 a3_0, .int .u64 a3_1], .int .u64 a2] rfl (by (try simp only [List.map_toArray, List.map_cons, List.map_nil]); first | done | rfl | (simp only [List.length_drop, List.length_take]; rfl)) ?_; (with_reducible refine (sub_Has.calls k1 a0 a3_0 a3_1 a2 true t569 _ A29.out).mono ?_); rintro e w39 ⟨rfl, hb⟩; refine ⟨_, rfl, ?_⟩; have n0_ := Aside0.mk (Kd.R_below (by (with_reducible repeat (first | apply Kd.R_alloc | apply Kd.R_drewN | apply Kd.R_drew)); exact HO_32.out) hb); have n1_ := Aside0.mk (blk_below (g := gb558) (o := .cells #[.int .u64 a3_0, .int .u64 a3_1] 24 (0, 0)) (by (with_reducible repeat (first | refine blk_drewN ?_ _ | refine blk_drew ?_ | refine blk_alloc ?_ _)); exact BK558.out) hb); have n2_ := Aside0.mk (below_step (by repeat (first | (with_reducible first | exact HB.out | apply below_alloc | apply pw_below_drewN | apply below_drew1 | refine below_set ?_ GE558.out) | exact HB.out)) hb); clear HO_32; clear BK558; clear HB; have HO_32 := n0_; have BK558 := n1_; have HB := n2_; clear n0_ n1_ n2_; (try clear hb); (try clear hb2); (try clear hk); (try clear hi); have hcz40_0 : w39.cell? ⟨gb558, 0, none⟩ = some (.int .u64 a3_0) := (blk_cell BK558.out 0).trans rfl; have hcz40_1 : w39.cell? ⟨gb558, 1, none⟩ = some (.int .u64 a3_1) := (blk_cell BK558.out 1).trans rfl; have hfz40_0 := blk_frozen BK558.out 0; have hfz40_1 := blk_frozen BK558.out 1) | ((with_reducible refine gate_callee (f := 28) rfl ?_); refine goesL_ (some 76) rfl rfl Try.func28 (by kernel_rfl) rfl #[.int .i64 a0, .int .i64 a1, .agg #[.int .u64 a3_0, .int .u64 a3_1]] rfl (by (try simp only [List.map_toArray, List.map_cons, List.map_nil]); first | done | rfl | (simp only [List.length_drop, List.length_take]; rfl)) ?_; (with_reducible refine (layer_May.calls k1 a0 a1 a3_0 a3_1 true t571 _ A31.out).mono ?_); rintro e w41 ⟨rfl, hb⟩; refine ⟨_, rfl, ?_⟩; have n0_ := Aside0.mk (Kd.R_below (by (with_reducible repeat (first | apply Kd.R_alloc | apply Kd.R_drewN | apply Kd.R_drew)); exact HO_32.out) hb); have n1_ := Aside0.mk (blk_below (g := gb558) (o := .cells #[.int .u64 a3_0, .int .u64 a3_1] 24 (0, 0)) (by (with_reducible repeat (first | refine blk_drewN ?_ _ | refine blk_drew ?_ | refine blk_alloc ?_ _)); exact BK558.out) hb); have n2_ := Aside0.mk (below_step (by repeat (first | (with_reducible first | exact HB.out | apply below_alloc | apply pw_below_drewN | apply below_drew1 | refine below_set ?_ GE558.out) | exact HB.out)) hb); clear HO_32; clear BK558; clear HB; have HO_32 := n0_; have BK558 := n1_; have HB := n2_; clear n0_ n1_ n2_; (try clear hb); (try clear hb2); (try clear hk); (try clear hi); have hcz42_0 : w41.cell? ⟨gb558, 0, none⟩ = some (.int .u64 a3_0) := (blk_cell BK558.out 0).trans rfl; have hcz42_1 : w41.cell? ⟨gb558, 1, none⟩ = some (.int .u64 a3_1) := (blk_cell BK558.out 1).trans rfl; have hfz42_0 := blk_frozen BK558.out 0; have hfz42_1 := blk_frozen BK558.out 1))
                        go_ret
                        exact ⟨by first | rfl | (simp [errW_none, errW_some] <;> rfl) | (simp [*, errW_none, errW_some] <;> rfl), by repeat (first | (with_reducible first | exact HB.out | apply below_alloc | apply pw_below_drewN | apply below_drew1 | refine below_set ?_ GE558.out) | exact HB.out)⟩
                      · rw [if_neg c37] at H
                        have c37b0 : (a3_1 == 0) = false := beq_eq_false_iff_ne.mpr c37
                        have c37b1 : (a3_1 != 0) = true := bne_iff_ne.mpr c37
                        obtain rfl := Option.some.inj H
                        have hcz43_0 : wr.cell? ⟨gb558, 0, none⟩ = some (.int .u64 a3_0) := (blk_cell BK558.out 0).trans rfl
                        have hcz43_1 : wr.cell? ⟨gb558, 1, none⟩ = some (.int .u64 a3_1) := (blk_cell BK558.out 1).trans rfl
                        have hfz43_0 := blk_frozen BK558.out 0
                        have hfz43_1 := blk_frozen BK558.out 1
                        go_wp2_with (first | ((with_reducible refine gate_callee (f := 34) rfl ?_); refine goesL_ (some 62) rfl rfl Try.func34 (by kernel_rfl) rfl #[.int .i64 a0, .agg #[.int .u64 a3_0, .int .u64 a3_1], .int .u64 a2] rfl (by (try simp only [List.map_toArray, List.map_cons, List.map_nil]); first | done | rfl | (simp only [List.length_drop, List.length_take]; rfl)) ?_; (with_reducible refine (sub_Has.calls k1 a0 a3_0 a3_1 a2 true t569 _ A29.out).mono ?_); rintro e w44 ⟨rfl, hb⟩; refine ⟨_, rfl, ?_⟩; have n0_ := Aside0.mk (Kd.R_below (by (with_reducible repeat (first | apply Kd.R_alloc | apply Kd.R_drewN | apply Kd.R_drew)); exact HO_32.out) hb); have n1_ := Aside0.mk (blk_below (g := gb558) (o := .cells #[.int .u64 a3_0, .int .u64 a3_1] 24 (0, 0)) (by (with_reducible repeat (first | refine blk_drewN ?_ _ | refine blk_drew ?_ | refine blk_alloc ?_ _)); exact BK558.out) hb); have n2_ := Aside0.mk (below_step (by repeat (first | (with_reducible first | exact HB.out | apply below_alloc | apply pw_below_drewN | apply below_drew1 | refine below_set ?_ GE558.out) | exact HB.out)) hb); clear HO_32; clear BK558; clear HB; have HO_32 := n0_; have BK558 := n1_; have HB := n2_; clear n0_ n1_ n2_; (try clear hb); (try clear hb2); (try clear hk); (try clear hi); have hcz45_0 : w44.cell? ⟨gb558, 0, none⟩ = some (.int .u64 a3_0) := (blk_cell BK558.out 0).trans rfl; have hcz45_1 : w44.cell? ⟨gb558, 1, none⟩ = some (.int .u64 a3_1) := (blk_cell BK558.out 1).trans rfl; have hfz45_0 := blk_frozen BK558.out 0; have hfz45_1 := blk_frozen BK558.out 1) | ((with_reducible refine gate_callee (f := 28) rfl ?_); refine goesL_ (some 76) rfl rfl Try.func28 (by kernel_rfl) rfl #[.int .i64 a0, .int .i64 a1, .agg #[.int .u64 a3_0, .int .u64 a3_1]] rfl (by (try simp only [List.map_toArray, List.map_cons, List.map_nil]); first | done | rfl | (simp only [List.length_drop, List.length_take]; rfl)) ?_; (with_reducible refine (layer_May.calls k1 a0 a1 a3_0 a3_1 true t571 _ A31.out).mono ?_); rintro e w46 ⟨rfl, hb⟩; refine ⟨_, rfl, ?_⟩; have n0_ := Aside0.mk (Kd.R_below (by (with_reducible repeat (first | apply Kd.R_alloc | apply Kd.R_drewN | apply Kd.R_drew)); exact HO_32.out) hb); have n1_ := Aside0.mk (blk_below (g := gb558) (o := .cells #[.int .u64 a3_0, .int .u64 a3_1] 24 (0, 0)) (by (with_reducible repeat (first | refine blk_drewN ?_ _ | refine blk_drew ?_ | refine blk_alloc ?_ _)); exact BK558.out) hb); have n2_ := Aside0.mk (below_step (by repeat (first | (with_reducible first | exact HB.out | apply below_alloc | apply pw_below_drewN | apply below_drew1 | refine below_set ?_ GE558.out) | exact HB.out)) hb); clear HO_32; clear BK558; clear HB; have HO_32 := n0_; have BK558 := n1_; have HB := n2_; clear n0_ n1_ n2_; (try clear hb); (try clear hb2); (try clear hk); (try clear hi); have hcz47_0 : w46.cell? ⟨gb558, 0, none⟩ = some (.int .u64 a3_0) := (blk_cell BK558.out 0).trans rfl; have hcz47_1 : w46.cell? ⟨gb558, 1, none⟩ = some (.int .u64 a3_1) := (blk_cell BK558.out 1).trans rfl; have hfz47_0 := blk_frozen BK558.out 0; have hfz47_1 := blk_frozen BK558.out 1))
                        go_ret
                        exact ⟨by first | rfl | (simp [errW_none, errW_some] <;> rfl) | (simp [*, errW_none, errW_some] <;> rfl), by repeat (first | (with_reducible first | exact HB.out | apply below_alloc | apply pw_below_drewN | apply below_drew1 | refine below_set ?_ GE558.out) | exact HB.out)⟩
                    · replace c36 := Bool.eq_false_iff.mpr c36
                      subst c36
                      have H1 : (some false) = some r := by rw [if_neg (show ¬ (false = true) by decide)] at H; exact H
                      clear H
                      have H := H1
                      clear H1
                      exact absurd ((Option.some.inj H).trans hT.out) Bool.false_ne_true
                  · replace c35 := Bool.eq_false_iff.mpr c35
                    subst c35
                    have H1 : (some false) = some r := by rw [if_neg (show ¬ (false = true) by decide)] at H; exact H
                    clear H
                    have H := H1
                    clear H1
                    exact absurd ((Option.some.inj H).trans hT.out) Bool.false_ne_true
                · rw [if_neg c34] at H
                  have c34b0 : (t571 == 0) = false := beq_eq_false_iff_ne.mpr c34
                  have c34b1 : (t571 != 0) = true := bne_iff_ne.mpr c34
                  exact absurd ((Option.some.inj H).trans hT.out) Bool.false_ne_true
              · replace c33 := Bool.eq_false_iff.mpr c33
                subst c33
                have H1 : (some false) = some r := by rw [if_neg (show ¬ (false = true) by decide)] at H; exact H
                clear H
                have H := H1
                clear H1
                exact absurd ((Option.some.inj H).trans hT.out) Bool.false_ne_true
            · replace c32 := Bool.eq_false_iff.mpr c32
              subst c32
              have H1 : (if t559 = true then (if t571 = 0 then (if t570 = true then (if a3_1 = 0 then (some (false == t568)) else (some true)) else (some true)) else (some true)) else (some false)) = some r := by rw [if_neg (show ¬ (false = true) by decide)] at H; exact H
              clear H
              have H := H1
              clear H1
              by_cases c48 : t559 = true
              · subst c48
                have H1 : (if t571 = 0 then (if t570 = true then (if a3_1 = 0 then (some (false == t568)) else (some true)) else (some true)) else (some true)) = some r := by rw [if_pos rfl] at H; exact H
                clear H
                have H := H1
                clear H1
                by_cases c49 : t571 = 0
                · rw [if_pos c49] at H
                  have c49b0 : (t571 == 0) = true := beq_iff_eq.mpr c49
                  have c49b1 : (t571 != 0) = false := bne_eq_false_iff_eq.mpr c49
                  clear c49
                  by_cases c50 : t570 = true
                  · subst c50
                    have H1 : (if a3_1 = 0 then (some (false == t568)) else (some true)) = some r := by rw [if_pos rfl] at H; exact H
                    clear H
                    have H := H1
                    clear H1
                    by_cases c51 : a3_1 = 0
                    · rw [if_pos c51] at H
                      have c51b0 : (a3_1 == 0) = true := beq_iff_eq.mpr c51
                      have c51b1 : (a3_1 != 0) = false := bne_eq_false_iff_eq.mpr c51
                      clear c51
                      obtain rfl := Option.some.inj H
                      have hcz52_0 : wr.cell? ⟨gb558, 0, none⟩ = some (.int .u64 a3_0) := (blk_cell BK558.out 0).trans rfl
                      have hcz52_1 : wr.cell? ⟨gb558, 1, none⟩ = some (.int .u64 a3_1) := (blk_cell BK558.out 1).trans rfl
                      have hfz52_0 := blk_frozen BK558.out 0
                      have hfz52_1 := blk_frozen BK558.out 1
                      go_wp2_with (first | ((with_reducible refine gate_callee (f := 34) rfl ?_); refine goesL_ (some 62) rfl rfl Try.func34 (by kernel_rfl) rfl #[.int .i64 a0, .agg #[.int .u64 a3_0, .int .u64 a3_1], .int .u64 a2] rfl (by (try simp only [List.map_toArray, List.map_cons, List.map_nil]); first | done | rfl | (simp only [List.length_drop, List.length_take]; rfl)) ?_; (with_reducible refine (sub_Has.calls k1 a0 a3_0 a3_1 a2 t568 t569 _ A29.out).mono ?_); rintro e w53 ⟨rfl, hb⟩; refine ⟨_, rfl, ?_⟩; have n0_ := Aside0.mk (Kd.R_below (by (with_reducible repeat (first | apply Kd.R_alloc | apply Kd.R_drewN | apply Kd.R_drew)); exact HO_32.out) hb); have n1_ := Aside0.mk (blk_below (g := gb558) (o := .cells #[.int .u64 a3_0, .int .u64 a3_1] 24 (0, 0)) (by (with_reducible repeat (first | refine blk_drewN ?_ _ | refine blk_drew ?_ | refine blk_alloc ?_ _)); exact BK558.out) hb); have n2_ := Aside0.mk (below_step (by repeat (first | (with_reducible first | exact HB.out | apply below_alloc | apply pw_below_drewN | apply below_drew1 | refine below_set ?_ GE558.out) | exact HB.out)) hb); clear HO_32; clear BK558; clear HB; have HO_32 := n0_; have BK558 := n1_; have HB := n2_; clear n0_ n1_ n2_; (try clear hb); (try clear hb2); (try clear hk); (try clear hi); have hcz54_0 : w53.cell? ⟨gb558, 0, none⟩ = some (.int .u64 a3_0) := (blk_cell BK558.out 0).trans rfl; have hcz54_1 : w53.cell? ⟨gb558, 1, none⟩ = some (.int .u64 a3_1) := (blk_cell BK558.out 1).trans rfl; have hfz54_0 := blk_frozen BK558.out 0; have hfz54_1 := blk_frozen BK558.out 1) | ((with_reducible refine gate_callee (f := 28) rfl ?_); refine goesL_ (some 76) rfl rfl Try.func28 (by kernel_rfl) rfl #[.int .i64 a0, .int .i64 a1, .agg #[.int .u64 a3_0, .int .u64 a3_1]] rfl (by (try simp only [List.map_toArray, List.map_cons, List.map_nil]); first | done | rfl | (simp only [List.length_drop, List.length_take]; rfl)) ?_; (with_reducible refine (layer_May.calls k1 a0 a1 a3_0 a3_1 true t571 _ A31.out).mono ?_); rintro e w55 ⟨rfl, hb⟩; refine ⟨_, rfl, ?_⟩; have n0_ := Aside0.mk (Kd.R_below (by (with_reducible repeat (first | apply Kd.R_alloc | apply Kd.R_drewN | apply Kd.R_drew)); exact HO_32.out) hb); have n1_ := Aside0.mk (blk_below (g := gb558) (o := .cells #[.int .u64 a3_0, .int .u64 a3_1] 24 (0, 0)) (by (with_reducible repeat (first | refine blk_drewN ?_ _ | refine blk_drew ?_ | refine blk_alloc ?_ _)); exact BK558.out) hb); have n2_ := Aside0.mk (below_step (by repeat (first | (with_reducible first | exact HB.out | apply below_alloc | apply pw_below_drewN | apply below_drew1 | refine below_set ?_ GE558.out) | exact HB.out)) hb); clear HO_32; clear BK558; clear HB; have HO_32 := n0_; have BK558 := n1_; have HB := n2_; clear n0_ n1_ n2_; (try clear hb); (try clear hb2); (try clear hk); (try clear hi); have hcz56_0 : w55.cell? ⟨gb558, 0, none⟩ = some (.int .u64 a3_0) := (blk_cell BK558.out 0).trans rfl; have hcz56_1 : w55.cell? ⟨gb558, 1, none⟩ = some (.int .u64 a3_1) := (blk_cell BK558.out 1).trans rfl; have hfz56_0 := blk_frozen BK558.out 0; have hfz56_1 := blk_frozen BK558.out 1))
                      go_ret
                      exact ⟨by first | rfl | (simp [errW_none, errW_some] <;> rfl) | (simp [*, errW_none, errW_some] <;> rfl), by repeat (first | (with_reducible first | exact HB.out | apply below_alloc | apply pw_below_drewN | apply below_drew1 | refine below_set ?_ GE558.out) | exact HB.out)⟩
                    · rw [if_neg c51] at H
                      have c51b0 : (a3_1 == 0) = false := beq_eq_false_iff_ne.mpr c51
                      have c51b1 : (a3_1 != 0) = true := bne_iff_ne.mpr c51
                      obtain rfl := Option.some.inj H
                      have hcz57_0 : wr.cell? ⟨gb558, 0, none⟩ = some (.int .u64 a3_0) := (blk_cell BK558.out 0).trans rfl
                      have hcz57_1 : wr.cell? ⟨gb558, 1, none⟩ = some (.int .u64 a3_1) := (blk_cell BK558.out 1).trans rfl
                      have hfz57_0 := blk_frozen BK558.out 0
                      have hfz57_1 := blk_frozen BK558.out 1
                      go_wp2_with (first | ((with_reducible refine gate_callee (f := 34) rfl ?_); refine goesL_ (some 62) rfl rfl Try.func34 (by kernel_rfl) rfl #[.int .i64 a0, .agg #[.int .u64 a3_0, .int .u64 a3_1], .int .u64 a2] rfl (by (try simp only [List.map_toArray, List.map_cons, List.map_nil]); first | done | rfl | (simp only [List.length_drop, List.length_take]; rfl)) ?_; (with_reducible refine (sub_Has.calls k1 a0 a3_0 a3_1 a2 t568 t569 _ A29.out).mono ?_); rintro e w58 ⟨rfl, hb⟩; refine ⟨_, rfl, ?_⟩; have n0_ := Aside0.mk (Kd.R_below (by (with_reducible repeat (first | apply Kd.R_alloc | apply Kd.R_drewN | apply Kd.R_drew)); exact HO_32.out) hb); have n1_ := Aside0.mk (blk_below (g := gb558) (o := .cells #[.int .u64 a3_0, .int .u64 a3_1] 24 (0, 0)) (by (with_reducible repeat (first | refine blk_drewN ?_ _ | refine blk_drew ?_ | refine blk_alloc ?_ _)); exact BK558.out) hb); have n2_ := Aside0.mk (below_step (by repeat (first | (with_reducible first | exact HB.out | apply below_alloc | apply pw_below_drewN | apply below_drew1 | refine below_set ?_ GE558.out) | exact HB.out)) hb); clear HO_32; clear BK558; clear HB; have HO_32 := n0_; have BK558 := n1_; have HB := n2_; clear n0_ n1_ n2_; (try clear hb); (try clear hb2); (try clear hk); (try clear hi); have hcz59_0 : w58.cell? ⟨gb558, 0, none⟩ = some (.int .u64 a3_0) := (blk_cell BK558.out 0).trans rfl; have hcz59_1 : w58.cell? ⟨gb558, 1, none⟩ = some (.int .u64 a3_1) := (blk_cell BK558.out 1).trans rfl; have hfz59_0 := blk_frozen BK558.out 0; have hfz59_1 := blk_frozen BK558.out 1) | ((with_reducible refine gate_callee (f := 28) rfl ?_); refine goesL_ (some 76) rfl rfl Try.func28 (by kernel_rfl) rfl #[.int .i64 a0, .int .i64 a1, .agg #[.int .u64 a3_0, .int .u64 a3_1]] rfl (by (try simp only [List.map_toArray, List.map_cons, List.map_nil]); first | done | rfl | (simp only [List.length_drop, List.length_take]; rfl)) ?_; (with_reducible refine (layer_May.calls k1 a0 a1 a3_0 a3_1 true t571 _ A31.out).mono ?_); rintro e w60 ⟨rfl, hb⟩; refine ⟨_, rfl, ?_⟩; have n0_ := Aside0.mk (Kd.R_below (by (with_reducible repeat (first | apply Kd.R_alloc | apply Kd.R_drewN | apply Kd.R_drew)); exact HO_32.out) hb); have n1_ := Aside0.mk (blk_below (g := gb558) (o := .cells #[.int .u64 a3_0, .int .u64 a3_1] 24 (0, 0)) (by (with_reducible repeat (first | refine blk_drewN ?_ _ | refine blk_drew ?_ | refine blk_alloc ?_ _)); exact BK558.out) hb); have n2_ := Aside0.mk (below_step (by repeat (first | (with_reducible first | exact HB.out | apply below_alloc | apply pw_below_drewN | apply below_drew1 | refine below_set ?_ GE558.out) | exact HB.out)) hb); clear HO_32; clear BK558; clear HB; have HO_32 := n0_; have BK558 := n1_; have HB := n2_; clear n0_ n1_ n2_; (try clear hb); (try clear hb2); (try clear hk); (try clear hi); have hcz61_0 : w60.cell? ⟨gb558, 0, none⟩ = some (.int .u64 a3_0) := (blk_cell BK558.out 0).trans rfl; have hcz61_1 : w60.cell? ⟨gb558, 1, none⟩ = some (.int .u64 a3_1) := (blk_cell BK558.out 1).trans rfl; have hfz61_0 := blk_frozen BK558.out 0; have hfz61_1 := blk_frozen BK558.out 1))
                      go_ret
                      exact ⟨by first | rfl | (simp [errW_none, errW_some] <;> rfl) | (simp [*, errW_none, errW_some] <;> rfl), by repeat (first | (with_reducible first | exact HB.out | apply below_alloc | apply pw_below_drewN | apply below_drew1 | refine below_set ?_ GE558.out) | exact HB.out)⟩
                  · replace c50 := Bool.eq_false_iff.mpr c50
                    subst c50
                    have H1 : (some true) = some r := by rw [if_neg (show ¬ (false = true) by decide)] at H; exact H
                    clear H
                    have H := H1
                    clear H1
                    obtain rfl := Option.some.inj H
                    have hcz62_0 : wr.cell? ⟨gb558, 0, none⟩ = some (.int .u64 a3_0) := (blk_cell BK558.out 0).trans rfl
                    have hcz62_1 : wr.cell? ⟨gb558, 1, none⟩ = some (.int .u64 a3_1) := (blk_cell BK558.out 1).trans rfl
                    have hfz62_0 := blk_frozen BK558.out 0
                    have hfz62_1 := blk_frozen BK558.out 1
                    go_wp2_with (first | ((with_reducible refine gate_callee (f := 34) rfl ?_); refine goesL_ (some 62) rfl rfl Try.func34 (by kernel_rfl) rfl #[.int .i64 a0, .agg #[.int .u64 a3_0, .int .u64 a3_1], .int .u64 a2] rfl (by (try simp only [List.map_toArray, List.map_cons, List.map_nil]); first | done | rfl | (simp only [List.length_drop, List.length_take]; rfl)) ?_; (with_reducible refine (sub_Has.calls k1 a0 a3_0 a3_1 a2 t568 t569 _ A29.out).mono ?_); rintro e w63 ⟨rfl, hb⟩; refine ⟨_, rfl, ?_⟩; have n0_ := Aside0.mk (Kd.R_below (by (with_reducible repeat (first | apply Kd.R_alloc | apply Kd.R_drewN | apply Kd.R_drew)); exact HO_32.out) hb); have n1_ := Aside0.mk (blk_below (g := gb558) (o := .cells #[.int .u64 a3_0, .int .u64 a3_1] 24 (0, 0)) (by (with_reducible repeat (first | refine blk_drewN ?_ _ | refine blk_drew ?_ | refine blk_alloc ?_ _)); exact BK558.out) hb); have n2_ := Aside0.mk (below_step (by repeat (first | (with_reducible first | exact HB.out | apply below_alloc | apply pw_below_drewN | apply below_drew1 | refine below_set ?_ GE558.out) | exact HB.out)) hb); clear HO_32; clear BK558; clear HB; have HO_32 := n0_; have BK558 := n1_; have HB := n2_; clear n0_ n1_ n2_; (try clear hb); (try clear hb2); (try clear hk); (try clear hi); have hcz64_0 : w63.cell? ⟨gb558, 0, none⟩ = some (.int .u64 a3_0) := (blk_cell BK558.out 0).trans rfl; have hcz64_1 : w63.cell? ⟨gb558, 1, none⟩ = some (.int .u64 a3_1) := (blk_cell BK558.out 1).trans rfl; have hfz64_0 := blk_frozen BK558.out 0; have hfz64_1 := blk_frozen BK558.out 1) | ((with_reducible refine gate_callee (f := 28) rfl ?_); refine goesL_ (some 76) rfl rfl Try.func28 (by kernel_rfl) rfl #[.int .i64 a0, .int .i64 a1, .agg #[.int .u64 a3_0, .int .u64 a3_1]] rfl (by (try simp only [List.map_toArray, List.map_cons, List.map_nil]); first | done | rfl | (simp only [List.length_drop, List.length_take]; rfl)) ?_; (with_reducible refine (layer_May.calls k1 a0 a1 a3_0 a3_1 false t571 _ A31.out).mono ?_); rintro e w65 ⟨rfl, hb⟩; refine ⟨_, rfl, ?_⟩; have n0_ := Aside0.mk (Kd.R_below (by (with_reducible repeat (first | apply Kd.R_alloc | apply Kd.R_drewN | apply Kd.R_drew)); exact HO_32.out) hb); have n1_ := Aside0.mk (blk_below (g := gb558) (o := .cells #[.int .u64 a3_0, .int .u64 a3_1] 24 (0, 0)) (by (with_reducible repeat (first | refine blk_drewN ?_ _ | refine blk_drew ?_ | refine blk_alloc ?_ _)); exact BK558.out) hb); have n2_ := Aside0.mk (below_step (by repeat (first | (with_reducible first | exact HB.out | apply below_alloc | apply pw_below_drewN | apply below_drew1 | refine below_set ?_ GE558.out) | exact HB.out)) hb); clear HO_32; clear BK558; clear HB; have HO_32 := n0_; have BK558 := n1_; have HB := n2_; clear n0_ n1_ n2_; (try clear hb); (try clear hb2); (try clear hk); (try clear hi)))
                    go_ret
                    exact ⟨by first | rfl | (simp [errW_none, errW_some] <;> rfl) | (simp [*, errW_none, errW_some] <;> rfl), by repeat (first | (with_reducible first | exact HB.out | apply below_alloc | apply pw_below_drewN | apply below_drew1 | refine below_set ?_ GE558.out) | exact HB.out)⟩
                · rw [if_neg c49] at H
                  have c49b0 : (t571 == 0) = false := beq_eq_false_iff_ne.mpr c49
                  have c49b1 : (t571 != 0) = true := bne_iff_ne.mpr c49
                  obtain rfl := Option.some.inj H
                  have hcz66_0 : wr.cell? ⟨gb558, 0, none⟩ = some (.int .u64 a3_0) := (blk_cell BK558.out 0).trans rfl
                  have hcz66_1 : wr.cell? ⟨gb558, 1, none⟩ = some (.int .u64 a3_1) := (blk_cell BK558.out 1).trans rfl
                  have hfz66_0 := blk_frozen BK558.out 0
                  have hfz66_1 := blk_frozen BK558.out 1
                  go_wp2_with (first | ((with_reducible refine gate_callee (f := 34) rfl ?_); refine goesL_ (some 62) rfl rfl Try.func34 (by kernel_rfl) rfl #[.int .i64 a0, .agg #[.int .u64 a3_0, .int .u64 a3_1], .int .u64 a2] rfl (by (try simp only [List.map_toArray, List.map_cons, List.map_nil]); first | done | rfl | (simp only [List.length_drop, List.length_take]; rfl)) ?_; (with_reducible refine (sub_Has.calls k1 a0 a3_0 a3_1 a2 t568 t569 _ A29.out).mono ?_); rintro e w67 ⟨rfl, hb⟩; refine ⟨_, rfl, ?_⟩; have n0_ := Aside0.mk (Kd.R_below (by (with_reducible repeat (first | apply Kd.R_alloc | apply Kd.R_drewN | apply Kd.R_drew)); exact HO_32.out) hb); have n1_ := Aside0.mk (blk_below (g := gb558) (o := .cells #[.int .u64 a3_0, .int .u64 a3_1] 24 (0, 0)) (by (with_reducible repeat (first | refine blk_drewN ?_ _ | refine blk_drew ?_ | refine blk_alloc ?_ _)); exact BK558.out) hb); have n2_ := Aside0.mk (below_step (by repeat (first | (with_reducible first | exact HB.out | apply below_alloc | apply pw_below_drewN | apply below_drew1 | refine below_set ?_ GE558.out) | exact HB.out)) hb); clear HO_32; clear BK558; clear HB; have HO_32 := n0_; have BK558 := n1_; have HB := n2_; clear n0_ n1_ n2_; (try clear hb); (try clear hb2); (try clear hk); (try clear hi); have hcz68_0 : w67.cell? ⟨gb558, 0, none⟩ = some (.int .u64 a3_0) := (blk_cell BK558.out 0).trans rfl; have hcz68_1 : w67.cell? ⟨gb558, 1, none⟩ = some (.int .u64 a3_1) := (blk_cell BK558.out 1).trans rfl; have hfz68_0 := blk_frozen BK558.out 0; have hfz68_1 := blk_frozen BK558.out 1) | ((with_reducible refine gate_callee (f := 28) rfl ?_); refine goesL_ (some 76) rfl rfl Try.func28 (by kernel_rfl) rfl #[.int .i64 a0, .int .i64 a1, .agg #[.int .u64 a3_0, .int .u64 a3_1]] rfl (by (try simp only [List.map_toArray, List.map_cons, List.map_nil]); first | done | rfl | (simp only [List.length_drop, List.length_take]; rfl)) ?_; (with_reducible refine (layer_May.calls k1 a0 a1 a3_0 a3_1 t570 t571 _ A31.out).mono ?_); rintro e w69 ⟨rfl, hb⟩; refine ⟨_, rfl, ?_⟩; have n0_ := Aside0.mk (Kd.R_below (by (with_reducible repeat (first | apply Kd.R_alloc | apply Kd.R_drewN | apply Kd.R_drew)); exact HO_32.out) hb); have n1_ := Aside0.mk (blk_below (g := gb558) (o := .cells #[.int .u64 a3_0, .int .u64 a3_1] 24 (0, 0)) (by (with_reducible repeat (first | refine blk_drewN ?_ _ | refine blk_drew ?_ | refine blk_alloc ?_ _)); exact BK558.out) hb); have n2_ := Aside0.mk (below_step (by repeat (first | (with_reducible first | exact HB.out | apply below_alloc | apply pw_below_drewN | apply below_drew1 | refine below_set ?_ GE558.out) | exact HB.out)) hb); clear HO_32; clear BK558; clear HB; have HO_32 := n0_; have BK558 := n1_; have HB := n2_; clear n0_ n1_ n2_; (try clear hb); (try clear hb2); (try clear hk); (try clear hi)))
                  go_ret
                  exact ⟨by first | rfl | (simp [errW_none, errW_some] <;> rfl) | (simp [*, errW_none, errW_some] <;> rfl), by repeat (first | (with_reducible first | exact HB.out | apply below_alloc | apply pw_below_drewN | apply below_drew1 | refine below_set ?_ GE558.out) | exact HB.out)⟩
              · replace c48 := Bool.eq_false_iff.mpr c48
                subst c48
                have H1 : (some false) = some r := by rw [if_neg (show ¬ (false = true) by decide)] at H; exact H
                clear H
                have H := H1
                clear H1
                exact absurd ((Option.some.inj H).trans hT.out) Bool.false_ne_true
          · rw [if_neg c30] at H
            have c30b0 : (t569 == 0) = false := beq_eq_false_iff_ne.mpr c30
            have c30b1 : (t569 != 0) = true := bne_iff_ne.mpr c30
            by_cases c70 : t559 = true
            · subst c70
              have H1 : (some (!x12_1)) = some r := by rw [if_pos rfl] at H; exact H
              clear H
              have H := H1
              clear H1
              obtain rfl := Option.some.inj H
              have hcz71_0 : wr.cell? ⟨gb558, 0, none⟩ = some (.int .u64 a3_0) := (blk_cell BK558.out 0).trans rfl
              have hcz71_1 : wr.cell? ⟨gb558, 1, none⟩ = some (.int .u64 a3_1) := (blk_cell BK558.out 1).trans rfl
              have hfz71_0 := blk_frozen BK558.out 0
              have hfz71_1 := blk_frozen BK558.out 1
              go_wp2_with (first | ((with_reducible refine gate_callee (f := 34) rfl ?_); refine goesL_ (some 62) rfl rfl Try.func34 (by kernel_rfl) rfl #[.int .i64 a0, .agg #[.int .u64 a3_0, .int .u64 a3_1], .int .u64 a2] rfl (by (try simp only [List.map_toArray, List.map_cons, List.map_nil]); first | done | rfl | (simp only [List.length_drop, List.length_take]; rfl)) ?_; (with_reducible refine (sub_Has.calls k1 a0 a3_0 a3_1 a2 t568 t569 _ A29.out).mono ?_); rintro e w72 ⟨rfl, hb⟩; refine ⟨_, rfl, ?_⟩; have n0_ := Aside0.mk (Kd.R_below (by (with_reducible repeat (first | apply Kd.R_alloc | apply Kd.R_drewN | apply Kd.R_drew)); exact HO_32.out) hb); have n1_ := Aside0.mk (blk_below (g := gb558) (o := .cells #[.int .u64 a3_0, .int .u64 a3_1] 24 (0, 0)) (by (with_reducible repeat (first | refine blk_drewN ?_ _ | refine blk_drew ?_ | refine blk_alloc ?_ _)); exact BK558.out) hb); have n2_ := Aside0.mk (below_step (by repeat (first | (with_reducible first | exact HB.out | apply below_alloc | apply pw_below_drewN | apply below_drew1 | refine below_set ?_ GE558.out) | exact HB.out)) hb); clear HO_32; clear BK558; clear HB; have HO_32 := n0_; have BK558 := n1_; have HB := n2_; clear n0_ n1_ n2_; (try clear hb); (try clear hb2); (try clear hk); (try clear hi)))
              go_ret
              exact ⟨by first | rfl | (simp [errW_none, errW_some] <;> rfl) | (simp [*, errW_none, errW_some] <;> rfl), by repeat (first | (with_reducible first | exact HB.out | apply below_alloc | apply pw_below_drewN | apply below_drew1 | refine below_set ?_ GE558.out) | exact HB.out)⟩
            · replace c70 := Bool.eq_false_iff.mpr c70
              subst c70
              have H1 : (some false) = some r := by rw [if_neg (show ¬ (false = true) by decide)] at H; exact H
              clear H
              have H := H1
              clear H1
              exact absurd ((Option.some.inj H).trans hT.out) Bool.false_ne_true
  · rw [if_neg c7] at H
    have c7b0 : (t561 == 0) = false := beq_eq_false_iff_ne.mpr c7
    have c7b1 : (t561 != 0) = true := bne_iff_ne.mpr c7
    obtain rfl := Option.some.inj H
    go_enter Try.func12, Try.ntmps12
    go_wp2_with (first | ((with_reducible refine gate_dst (N := 7) rfl ?_); refine box_event ?hg (N := 7) ?hd (cs := #[.int .u64 a3_0, .int .u64 a3_1]) (t := 24) ?hr ?_; (case hd => rfl); (case hg => rfl); (case hr => first | (go_simp; done) | (go_simp; rfl)); intro gb558 hg w73 hbox hb; have n0_ := Aside0.mk (below_step (by repeat (first | (with_reducible first | exact HB.out | apply below_alloc | apply pw_below_drewN | apply below_drew1) | exact HB.out)) hb); have n1_ := Aside0.mk (hbox); have n2_ := Aside0.mk ((by rw [hg]; exact (below_size (by repeat (first | (with_reducible first | exact HB.out | apply below_alloc | apply pw_below_drewN | apply below_drew1) | exact HB.out))) : w.heap.size ≤ gb558)); have n3_ := Aside0.mk ((by rw [hg]; exact (below_size (by repeat (first | (with_reducible first | exact HB.out | apply below_alloc | apply pw_below_drewN | apply below_drew1) | exact HB.out))) : w.heap.size ≤ gb558)); clear HB; have HB := n0_; have BK558 := n1_; have GW558 := n2_; have GE558 := n3_; clear n0_ n1_ n2_ n3_; clear hb hbox hg) | ((with_reducible refine gate_callee (f := 22) rfl ?_); refine goesL_ (some 21) rfl rfl Try.func22 (by kernel_rfl) rfl #[] rfl (by (try simp only [List.map_toArray, List.map_cons, List.map_nil]); first | done | rfl | (simp only [List.length_drop, List.length_take]; rfl)) ?_; (with_reducible refine (medlarlaw14_live.calls k  t559 _ A5.out).mono ?_); rintro e w74 ⟨rfl, hb⟩; refine ⟨_, rfl, ?_⟩; have n0_ := Aside0.mk (blk_below (g := gb558) (o := .cells #[.int .u64 a3_0, .int .u64 a3_1] 24 (0, 0)) (by (with_reducible repeat (first | refine blk_drewN ?_ _ | refine blk_drew ?_ | refine blk_alloc ?_ _)); exact BK558.out) hb); have n1_ := Aside0.mk (below_step (by repeat (first | (with_reducible first | exact HB.out | apply below_alloc | apply pw_below_drewN | apply below_drew1 | refine below_set ?_ GE558.out) | exact HB.out)) hb); clear BK558; clear HB; have BK558 := n0_; have HB := n1_; clear n0_ n1_; (try clear hb); (try clear hb2); (try clear hk); (try clear hi)) | ((with_reducible refine gate_callee (f := 23) rfl ?_); refine goesL_ (some 26) rfl rfl Try.func23 (by kernel_rfl) rfl #[.int .i64 a0, .int .i64 a1, .int .u64 a2] rfl (by (try simp only [List.map_toArray, List.map_cons, List.map_nil]); first | done | rfl | (simp only [List.length_drop, List.length_take]; rfl)) ?_; (with_reducible refine (store_Pairs.calls k a0 a1 a2 t560 t561 _ A6.out).mono ?_); rintro e w75 ⟨v562, rfl, ho0, hb⟩; refine ⟨_, rfl, ?_⟩; have n0_ := Aside0.mk (Kd.R_lower (Kd.R_newB ho0 (g := gb558) (o := .cells #[.int .u64 a3_0, .int .u64 a3_1] 24 (0, 0)) (by (with_reducible repeat (first | refine blk_drewN ?_ _ | refine blk_drew ?_ | refine blk_alloc ?_ _)); exact BK558.out)) (below_size (by repeat (first | (with_reducible first | exact HB.out | apply below_alloc | apply pw_below_drewN | apply below_drew1 | refine below_set ?_ GE558.out) | exact HB.out)))); have n1_ := Aside0.mk (blk_below (g := gb558) (o := .cells #[.int .u64 a3_0, .int .u64 a3_1] 24 (0, 0)) (by (with_reducible repeat (first | refine blk_drewN ?_ _ | refine blk_drew ?_ | refine blk_alloc ?_ _)); exact BK558.out) hb); have n2_ := Aside0.mk (below_step (by repeat (first | (with_reducible first | exact HB.out | apply below_alloc | apply pw_below_drewN | apply below_drew1 | refine below_set ?_ GE558.out) | exact HB.out)) hb); clear BK558; clear HB; have HO563 := n0_; have BK558 := n1_; have HB := n2_; clear n0_ n1_ n2_; (try clear hb); (try clear hb2); (try clear hk); (try clear hi); (try clear ho0)))
    go_ret
    exact ⟨by first | rfl | (simp [errW_none, errW_some] <;> rfl) | (simp [*, errW_none, errW_some] <;> rfl), by repeat (first | (with_reducible first | exact HB.out | apply below_alloc | apply pw_below_drewN | apply below_drew1 | refine below_set ?_ GE558.out) | exact HB.out)⟩

/-- THE ONE PURE STATEMENT of medlarlaw14_StoreIn: yours. -/
def medlarlaw14_StoreIn.Pure : Prop := ∀ (a0 : Int) (a1 : Int) (a2 : Int) (a3_0 : Int) (a3_1 : Int), (Lit.int .i64 a0).wf = true → (Lit.int .i64 a1).wf = true → (Lit.int .u64 a2).wf = true → (Lit.int .u64 a3_0).wf = true → (Lit.int .u64 a3_1).wf = true → ∃ k, medlarlaw14_StoreIn.f k a0 a1 a2 a3_0 a3_1 = some true
theorem medlarlaw14_StoreIn.walk (P : medlarlaw14_StoreIn.Pure) (a0 : Int) (a1 : Int) (a2 : Int) (a3_0 : Int) (a3_1 : Int) (w : World) (w0 : (Lit.int .i64 a0).wf = true) (w1 : (Lit.int .i64 a1).wf = true) (w2 : (Lit.int .u64 a2).wf = true) (w3_0 : (Lit.int .u64 a3_0).wf = true) (w3_1 : (Lit.int .u64 a3_1).wf = true) :
    Calls Try.prog 12 #[.int .i64 a0, .int .i64 a1, .int .u64 a2, .agg #[.int .u64 a3_0, .int .u64 a3_1]] w fun e w' => e = .returned (.bool true) ∧ Below w.heap.size w w' := by
  obtain ⟨k, h⟩ := P a0 a1 a2 a3_0 a3_1 w0 w1 w2 w3_0 w3_1
  refine (medlarlaw14_StoreIn.calls k a0 a1 a2 a3_0 a3_1 true w h ⟨rfl⟩).mono ?_
  rintro e w' ⟨rfl, hd⟩
  exact ⟨rfl, hd⟩

end Go.Proofs.Ytmaaibcnfhbajaa.MP
