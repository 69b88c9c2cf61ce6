-- written by a program of this session (wip/tools/mprint.sh) for this seat
import Derived.Test.YtmffkfakcbopcaaMPx0
import Derived.Test.YtmffkfakcbopcaaMPx2
import Derived.Test.YtmffkfakcbopcaaMPx3
import Derived.Test.YtmffkfakcbopcaaMPx5
import Derived.Test.YtmffkfakcbopcaaMPx10
namespace Go.Proofs.Ytmffkfakcbopcaa.MP
open Go.RowKit Go.Proofs.YtmffkfakcbopcaaW.PrintWords Go.Proofs.YtmffkfakcbopcaaW.PrintLast Go.Proofs.YtmffkfakcbopcaaW.PrintMore
attribute [local go_sem] max2_int min2_int max_two min_two max_three min_three max_four min_four   -- for this text's walks alone
set_option linter.unusedVariables false
set_option linter.unusedSimpArgs false

/-! ### medlarlaw11_DiffNone: function 4 -/
mutual
def medlarlaw11_DiffNone.l0 : Nat → Int → List Int → Bool → List (S34) → Int → Int → Option (Bool)
  | 0, _, _, _, _, _, _ => none
  | k + 1, x0, x1, x5, x32, x33, x34 => if x34 < x33 then (if 0 ≤ x34 then (if x34 < (x32.length : Int) then (medlarlaw11_DiffNone.l1 k x0 x1 x5 x32 x33 x34 x1 (x1.length : Int) 0 ((rd_T34 x32 x34).f0) ((rd_T34 x32 x34).f1)) else (none)) else (none)) else (some x5)
def medlarlaw11_DiffNone.l1 : Nat → Int → List Int → Bool → List (S34) → Int → Int → List Int → Int → Int → Int → Int → Option (Bool)
  | 0, _, _, _, _, _, _, _, _, _, _, _ => none
  | k + 1, x0, x1, x5, x32, x33, x34, x38, x39, x40, x394000, x394001 => if x40 < x39 then (if 0 ≤ x40 then (if x40 < (x38.length : Int) then ((sub_Has.f k x0 x394000 x394001 (rd x38 x40)).bind fun bt395 => (if bt395.2 = 0 then (if bt395.1 = true then (some false) else (medlarlaw11_DiffNone.l1 k x0 x1 x5 x32 x33 x34 x38 x39 (wrap64 (x40 + 1)) x394000 x394001)) else (some false))) else (none)) else (none)) else (if x394001 = 0 then (if (x1.length : Int) > 0 then (some false) else (if x394000 = 1 then (medlarlaw11_DiffNone.l0 k x0 x1 x5 x32 x33 (wrap64 (x34 + 1))) else (some false))) else ((leaf_Below.f k x0 x1 x394000).bind fun bt397 => ((leaf_Below.f k x0 x1 x394001).bind fun bt401 => (if bt397.2 = 0 then (if bt401.2 = 0 then (if (bt397.1.length : Int) = (bt401.1.length : Int) then (if (bt397.1.length : Int) = 0 then (some false) else (medlarlaw11_DiffNone.l0 k x0 x1 x5 x32 x33 (wrap64 (x34 + 1)))) else (some false)) else (some false)) else (some false)))))
end
def medlarlaw11_DiffNone.f (k : Nat) (a0 : Int) (l1 : List Int) : Option (Bool) := (medlarlaw11_live.f k).bind fun t387 => (if (l1.length : Int) > 30 then (some t387) else ((diff_Cover.f k a0 l1).bind fun bt388 => (if bt388.2 = 0 then (medlarlaw11_DiffNone.l0 k a0 l1 t387 bt388.1 (bt388.1.length : Int) 0) else (some t387))))
theorem medlarlaw11_DiffNone.mono_l : ∀ k, (∀ y0 y1 y2 y3 y4 y5, LeO (medlarlaw11_DiffNone.l0 k y0 y1 y2 y3 y4 y5) (medlarlaw11_DiffNone.l0 (k + 1) y0 y1 y2 y3 y4 y5)) ∧ (∀ y0 y1 y2 y3 y4 y5 y6 y7 y8 y9 y10, LeO (medlarlaw11_DiffNone.l1 k y0 y1 y2 y3 y4 y5 y6 y7 y8 y9 y10) (medlarlaw11_DiffNone.l1 (k + 1) y0 y1 y2 y3 y4 y5 y6 y7 y8 y9 y10))
  | 0 => ⟨fun _ _ _ _ _ _ r h => by simp [medlarlaw11_DiffNone.l0] at h, fun _ _ _ _ _ _ _ _ _ _ _ r h => by simp [medlarlaw11_DiffNone.l1] at h⟩
  | k + 1 => by
    obtain ⟨ih0, ih1⟩ := medlarlaw11_DiffNone.mono_l k
    refine ⟨?_, ?_⟩
    · intro y0 y1 y2 y3 y4 y5
      unfold medlarlaw11_DiffNone.l0
      repeat' first
      | (with_reducible exact ih0 _ _ _ _ _ _)
      | (with_reducible exact ih1 _ _ _ _ _ _ _ _ _ _ _)
      | (with_reducible exact diff_Cover.mono _ _ _)
      | (with_reducible exact leaf_Below.mono _ _ _ _)
      | (with_reducible exact medlarlaw11_live.mono _)
      | (with_reducible exact sub_Has.mono _ _ _ _ _)
      | (with_reducible exact LeO.refl _)
      | (with_reducible exact LeO.none _)
      | (with_reducible refine LeO.ite ?_ ?_)
      | (with_reducible refine LeO.bind ?_ (fun _ => ?_))
      | exact ih0 _ _ _ _ _ _
      | exact ih1 _ _ _ _ _ _ _ _ _ _ _
      | exact diff_Cover.mono _ _ _
      | exact leaf_Below.mono _ _ _ _
      | exact medlarlaw11_live.mono _
      | exact sub_Has.mono _ _ _ _ _
      | exact LeO.none _
      | refine LeO.ite ?_ ?_
      | refine LeO.bind ?_ (fun _ => ?_)
    · intro y0 y1 y2 y3 y4 y5 y6 y7 y8 y9 y10
      unfold medlarlaw11_DiffNone.l1
      repeat' first
      | (with_reducible exact ih0 _ _ _ _ _ _)
      | (with_reducible exact ih1 _ _ _ _ _ _ _ _ _ _ _)
      | (with_reducible exact diff_Cover.mono _ _ _)
      | (with_reducible exact leaf_Below.mono _ _ _ _)
      | (with_reducible exact medlarlaw11_live.mono _)
      | (with_reducible exact sub_Has.mono _ _ _ _ _)
      | (with_reducible exact LeO.refl _)
      | (with_reducible exact LeO.none _)
      | (with_reducible refine LeO.ite ?_ ?_)
      | (with_reducible refine LeO.bind ?_ (fun _ => ?_))
      | exact ih0 _ _ _ _ _ _
      | exact ih1 _ _ _ _ _ _ _ _ _ _ _
      | exact diff_Cover.mono _ _ _
      | exact leaf_Below.mono _ _ _ _
      | exact medlarlaw11_live.mono _
      | exact sub_Has.mono _ _ _ _ _
      | exact LeO.none _
      | refine LeO.ite ?_ ?_
      | refine LeO.bind ?_ (fun _ => ?_)
theorem medlarlaw11_DiffNone.mono : ∀ a0 a1 k, LeO (medlarlaw11_DiffNone.f k a0 a1) (medlarlaw11_DiffNone.f (k + 1) a0 a1) := by
  intro a0 a1 k
  obtain ⟨ih0, ih1⟩ := medlarlaw11_DiffNone.mono_l k
  unfold medlarlaw11_DiffNone.f
  repeat' first
      | (with_reducible exact ih0 _ _ _ _ _ _)
      | (with_reducible exact ih1 _ _ _ _ _ _ _ _ _ _ _)
      | (with_reducible exact diff_Cover.mono _ _ _)
      | (with_reducible exact leaf_Below.mono _ _ _ _)
      | (with_reducible exact medlarlaw11_live.mono _)
      | (with_reducible exact sub_Has.mono _ _ _ _ _)
      | (with_reducible exact LeO.refl _)
      | (with_reducible exact LeO.none _)
      | (with_reducible refine LeO.ite ?_ ?_)
      | (with_reducible refine LeO.bind ?_ (fun _ => ?_))
      | exact ih0 _ _ _ _ _ _
      | exact ih1 _ _ _ _ _ _ _ _ _ _ _
      | exact diff_Cover.mono _ _ _
      | exact leaf_Below.mono _ _ _ _
      | exact medlarlaw11_live.mono _
      | exact sub_Has.mono _ _ _ _ _
      | exact LeO.none _
      | refine LeO.ite ?_ ?_
      | refine LeO.bind ?_ (fun _ => ?_)
set_option maxHeartbeats 8000000 in
set_option maxRecDepth 100000 in
theorem medlarlaw11_DiffNone.calls (k : Nat) (a0 : Int) (A1 : Option Addr) (c1 : Nat) (l1 : List Int) (r : Bool) (w : World) (hr1 : Kd.C (Kd.int .u64) w A1 l1.length l1) (hc1 : l1.length ≤ c1) (h : medlarlaw11_DiffNone.f k a0 l1 = some r) (hT : Aside0 (r = true)) :
    Calls Try.prog 4 #[.int .i64 a0, .slice A1 l1.length c1] w fun e w' => e = .returned (.bool r) ∧ Below w.heap.size w w' := by
  have hu34 := Try.underlying34
  have HR1 := Aside0.mk hr1
  have HC1 := Aside0.mk hc1
  clear hr1 hc1
  have HB := Aside0.mk (Below.refl w.heap.size w)
  have H : ((medlarlaw11_live.f k).bind fun t387 => (if (l1.length : Int) > 30 then (some t387) else ((diff_Cover.f k a0 l1).bind fun bt388 => (if bt388.2 = 0 then (medlarlaw11_DiffNone.l0 k a0 l1 t387 bt388.1 (bt388.1.length : Int) 0) else (some t387))))) = some r := h
  clear h
  replace H := Option.bind_eq_some_iff.mp H
  obtain ⟨t387, A30, H⟩ := H
  replace H : (if (l1.length : Int) > 30 then (some t387) else ((diff_Cover.f k a0 l1).bind fun bt388 => (if bt388.2 = 0 then (medlarlaw11_DiffNone.l0 k a0 l1 t387 bt388.1 (bt388.1.length : Int) 0) else (some t387)))) = some r := H
  have A3 := Aside0.mk A30
  clear A30
  by_cases c4 : (l1.length : Int) > 30
  · rw [if_pos c4] at H
    have c4b0 : decide (30 < (l1.length : Int)) = true := decide_eq_true c4
    have c4b1 : decide (30 < l1.length) = true := decide_eq_true (by omega)
    clear c4
    obtain rfl := Option.some.inj H
    go_enter Try.func4, Try.ntmps4
    go_wp2_with (first | ((with_reducible refine gate_callee (f := 14) rfl ?_); refine goesL_ (some 18) rfl rfl Try.func14 (by kernel_rfl) rfl #[] rfl (by (try simp only [List.map_toArray, List.map_cons, List.map_nil]); first | done | rfl | (simp only [List.length_drop, List.length_take]; rfl)) ?_; (with_reducible refine (medlarlaw11_live.calls k  t387 _ A3.out).mono ?_); rintro e w5 ⟨rfl, hb⟩; refine ⟨_, rfl, ?_⟩; have n0_ := Aside0.mk (below_step (by repeat (first | (with_reducible first | exact HB.out | apply below_alloc | apply pw_below_drewN | apply below_drew1) | exact HB.out)) hb); clear HB; have HB := n0_; clear n0_; (try clear hb); (try clear hb2); (try clear hk); (try clear hi)))
    go_ret
    exact ⟨by first | rfl | (simp [errW_none, errW_some] <;> rfl) | (simp [*, errW_none, errW_some] <;> rfl), by repeat (first | (with_reducible first | exact HB.out | apply below_alloc | apply pw_below_drewN | apply below_drew1) | exact HB.out)⟩
  · rw [if_neg c4] at H
    have c4b0 : decide (30 < (l1.length : Int)) = false := decide_eq_false c4
    have c4b1 : decide (30 < l1.length) = false := decide_eq_false (by omega)
    clear c4
    replace H := Option.bind_eq_some_iff.mp H
    obtain ⟨⟨t388, t389⟩, A60, H⟩ := H
    replace H : (if t389 = 0 then (medlarlaw11_DiffNone.l0 k a0 l1 t387 t388 (t388.length : Int) 0) else (some t387)) = some r := H
    have A6 := Aside0.mk A60
    clear A60
    by_cases c7 : t389 = 0
    · rw [if_pos c7] at H
      have c7b0 : (t389 == 0) = true := beq_iff_eq.mpr c7
      have c7b1 : (t389 != 0) = false := bne_eq_false_iff_eq.mpr c7
      clear c7
      have H' := Aside0.mk H
      clear H
      go_enter Try.func4, Try.ntmps4
      go_wp2_with (first | ((with_reducible refine gate_callee (f := 14) rfl ?_); refine goesL_ (some 18) rfl rfl Try.func14 (by kernel_rfl) rfl #[] rfl (by (try simp only [List.map_toArray, List.map_cons, List.map_nil]); first | done | rfl | (simp only [List.length_drop, List.length_take]; rfl)) ?_; (with_reducible refine (medlarlaw11_live.calls k  t387 _ A3.out).mono ?_); rintro e w8 ⟨rfl, hb⟩; refine ⟨_, rfl, ?_⟩; have n0_ := Aside0.mk (below_step (by repeat (first | (with_reducible first | exact HB.out | apply below_alloc | apply pw_below_drewN | apply below_drew1) | exact HB.out)) hb); clear HB; have HB := n0_; clear n0_; (try clear hb); (try clear hb2); (try clear hk); (try clear hi)) | ((with_reducible refine gate_callee (f := 15) rfl ?_); refine goesL_ (some 26) rfl rfl Try.func15 (by kernel_rfl) rfl #[.int .i64 a0, .slice A1 l1.length c1] rfl (by (try simp only [List.map_toArray, List.map_cons, List.map_nil]); first | done | rfl | (simp only [List.length_drop, List.length_take]; rfl)) ?_; (with_reducible refine (diff_Cover.calls k a0 _ _ l1 t388 t389 _ ?side1 ?side2 A6.out).mono ?_); (case side1 => repeat (first | exact (Kd.C_below HR1.out HB.out) | (with_reducible refine Kd.C_alloc ?_ _) | (with_reducible refine Kd.C_drewN ?_ _) | (with_reducible refine Kd.C_drew ?_))); (case side2 => exact HC1.out); rintro e w9 ⟨v390, rfl, ho0, hb⟩; refine ⟨_, rfl, ?_⟩; have n0_ := Aside0.mk (Kd.R_lower ho0 (below_size (by repeat (first | (with_reducible first | exact HB.out | apply below_alloc | apply pw_below_drewN | apply below_drew1) | exact HB.out)))); have n1_ := Aside0.mk (below_step (by repeat (first | (with_reducible first | exact HB.out | apply below_alloc | apply pw_below_drewN | apply below_drew1) | exact HB.out)) hb); clear HB; have HO391 := n0_; have HB := n1_; clear n0_ n1_; (try clear hb); (try clear hb2); (try clear hk); (try clear hi); (try clear ho0); obtain ⟨Ao10, co10, eo10⟩ := Kd.R_slice HO391.out; subst eo10))
      go_loopg [34] k (fun kq v34 w' => ∃ (x34_1 : Int), v34 = .int .i64 x34_1 ∧ Aside0 (medlarlaw11_DiffNone.l0 kq a0 l1 t387 t388 (t388.length : Int) x34_1 = some r) ∧ Aside0 (kq ≤ k) ∧ Aside0 (Kd.R k34 34 w' w.heap.size (fun _ => True) (.slice Ao10 t388.length co10) t388) ∧ Aside0 (Below w.heap.size w w'))
      case atStart => exact ⟨(0), (by first | rfl | (simp; done) | (simp [*]; done)), H', ⟨Nat.le_refl _⟩, ⟨by (with_reducible repeat (first | apply Kd.R_alloc | apply Kd.R_drewN | apply Kd.R_drew)); exact HO391.out⟩, ⟨by repeat (first | (with_reducible first | exact HB.out | apply below_alloc | apply pw_below_drewN | apply below_drew1) | exact HB.out)⟩⟩
      case round =>
        clear H'
        try clear c1
        try clear p2
        try clear c4
        try clear c4b0
        try clear c4b1
        try clear c7
        try clear c7b0
        try clear c7b1
        obtain ⟨x34_1, rfl, HA, HK1, HO_32, HB⟩ := hrel
        cases gk with
        | zero => exact absurd HA.out (by simp [medlarlaw11_DiffNone.l0])
        | succ k1 =>
          have H := HA.out
          clear HA
          simp only [medlarlaw11_DiffNone.l0] at H
          by_cases c11 : x34_1 < (t388.length : Int)
          · rw [if_pos c11] at H
            have c11b0 : decide (x34_1 < (t388.length : Int)) = true := decide_eq_true c11
            clear c11
            by_cases c12 : 0 ≤ x34_1
            · rw [if_pos c12] at H
              have c12b0 : decide (0 ≤ x34_1) = true := decide_eq_true c12
              clear c12
              by_cases c13 : x34_1 < (t388.length : Int)
              · rw [if_pos c13] at H
                have c13b0 : decide (x34_1 < (t388.length : Int)) = true := decide_eq_true c13
                clear c13
                have H' := Aside0.mk H
                clear H
                have p392 : 0 ≤ (x34_1 : Int) := of_decide_eq_true (by first | (with_reducible assumption) | assumption)
                have q392 : x34_1 < (t388.length : Int) := of_decide_eq_true (by first | (with_reducible assumption) | assumption)
                obtain ⟨ad392, e392, hx392_0, hx392_1⟩ := at_T34 (Kd.R_reads' HO_32.out).2.2 x34_1 p392 q392
                cases e392
                replace p392 := eq_true p392
                replace q392 := eq_true q392
                go_wp2_with (first | ((with_reducible refine gate_dst (N := 9) rfl ?_); (try (refine gate_guard (by rfl) ?_; dsimp only)); refine box_event ?hg (N := 9) ?hd (cs := #[.int .u64 0, .int .u64 0]) (t := 34) ?hr ?_; (case hd => rfl); (case hg => rfl); (case hr => first | (go_simp; done) | (go_simp; rfl)); intro gb393 hg w14 hbox hb; have n0_ := Aside0.mk (Kd.R_below (Kd.R_elderB (by (with_reducible repeat (first | apply Kd.R_alloc | apply Kd.R_drewN | apply Kd.R_drew)); exact HO_32.out) gb393 (Nat.le_of_eq hg.symm)) hb); have n1_ := Aside0.mk (below_step (by repeat (first | (with_reducible first | exact HB.out | apply below_alloc | apply pw_below_drewN | apply below_drew1) | exact HB.out)) hb); have n2_ := Aside0.mk (hbox); have n3_ := Aside0.mk ((by rw [hg]; exact (below_size (by repeat (first | (with_reducible first | exact HB.out | apply below_alloc | apply pw_below_drewN | apply below_drew1) | exact HB.out))) : w.heap.size ≤ gb393)); have n4_ := Aside0.mk ((by rw [hg]; exact (below_size (by repeat (first | (with_reducible first | exact HB.out | apply below_alloc | apply pw_below_drewN | apply below_drew1) | exact HB.out))) : w.heap.size ≤ gb393)); clear HO_32; clear HB; have HO_32 := n0_; have HB := n1_; have BK393 := n2_; have GW393 := n3_; have GE393 := n4_; clear n0_ n1_ n2_ n3_ n4_; clear hb hbox hg; have hcz15_0 : w14.cell? ⟨gb393, 0, none⟩ = some (.int .u64 0) := (blk_cell BK393.out 0).trans rfl; have hcz15_1 : w14.cell? ⟨gb393, 1, none⟩ = some (.int .u64 0) := (blk_cell BK393.out 1).trans rfl; have hfz15_0 := blk_frozen BK393.out 0; have hfz15_1 := blk_frozen BK393.out 1))
                go_loopg [40] k1 (fun kq v40 w' => ∃ (x40_2 : Int), v40 = .int .i64 x40_2 ∧ Aside0 (medlarlaw11_DiffNone.l1 kq a0 l1 t387 t388 (t388.length : Int) x34_1 l1 (l1.length : Int) x40_2 ((rd_T34 t388 x34_1).f0) ((rd_T34 t388 x34_1).f1) = some r) ∧ Aside0 (kq ≤ k1) ∧ Aside0 (Kd.R k34 34 w' w.heap.size (fun k_ => k_ ≠ gb393) (.slice (some ad392) t388.length co10) t388) ∧ Aside0 (w'.heap[gb393]? = some (.cells #[.int .u64 ((rd_T34 t388 x34_1).f0), .int .u64 ((rd_T34 t388 x34_1).f1)] 34 (0, 0))) ∧ Aside0 (Below w.heap.size w w'))
                case atStart => exact ⟨(0), (by first | rfl | (simp; done) | (simp [*]; done)), H', ⟨Nat.le_refl _⟩, ⟨by (with_reducible repeat (first | apply Kd.R_alloc | apply Kd.R_drewN | apply Kd.R_drew)); exact Kd.R_mono (Kd.R_far (p := ⟨gb393, 1, none⟩) (Kd.R_far (p := ⟨gb393, 0, none⟩) (Kd.R_mono HO_32.out (fun k_ hk => (⟨hk, hk.2⟩ : _ ∧ k_ ≠ gb393))) (fun _ hk => hk.2) (.int .u64 ((rd_T34 t388 x34_1).f0))) (fun _ hk => hk.2) (.int .u64 ((rd_T34 t388 x34_1).f1))) (fun _ hk => hk.1.2)⟩, ⟨by (with_reducible repeat (first | refine blk_drewN ?_ _ | refine blk_drew ?_ | refine blk_alloc ?_ _)); refine blk_put (cs := #[.int .u64 ((rd_T34 t388 x34_1).f0), .int .u64 0]) ?_ 1 _ rfl; (with_reducible repeat (first | refine blk_drewN ?_ _ | refine blk_drew ?_ | refine blk_alloc ?_ _)); refine blk_put (cs := #[.int .u64 0, .int .u64 0]) ?_ 0 _ rfl; (with_reducible repeat (first | refine blk_drewN ?_ _ | refine blk_drew ?_ | refine blk_alloc ?_ _)); exact BK393.out⟩, ⟨by repeat (first | (with_reducible first | exact HB.out | apply below_alloc | apply pw_below_drewN | apply below_drew1 | refine below_set ?_ GE393.out) | exact HB.out)⟩⟩
                case round =>
                  clear H'
                  try clear c1
                  try clear p2
                  try clear p3
                  try clear q3
                  try clear hx3
                  try clear c4
                  try clear c4b0
                  try clear c4b1
                  try clear c7
                  try clear c7b0
                  try clear c7b1
                  try clear c11
                  try clear c11b0
                  try clear c12
                  try clear c12b0
                  try clear c13
                  try clear c13b0
                  try clear c14
                  try clear c15
                  try clear hcz15_0
                  try clear hcz15_1
                  try clear hfz15_0
                  try clear hfz15_1
                  try clear hx392_0
                  try clear hx392_1
                  try clear p2
                  try clear p392
                  try clear q392
                  obtain ⟨x40_2, rfl, HA, HK2, HO_32, BK393, HB⟩ := hrel
                  cases gk with
                  | zero => exact absurd HA.out (by simp [medlarlaw11_DiffNone.l1])
                  | succ k2 =>
                    have H := HA.out
                    clear HA
                    simp only [medlarlaw11_DiffNone.l1] at H
                    by_cases c16 : x40_2 < (l1.length : Int)
                    · rw [if_pos c16] at H
                      have c16b0 : decide (x40_2 < (l1.length : Int)) = true := decide_eq_true c16
                      clear c16
                      by_cases c17 : 0 ≤ x40_2
                      · rw [if_pos c17] at H
                        have c17b0 : decide (0 ≤ x40_2) = true := decide_eq_true c17
                        clear c17
                        by_cases c18 : x40_2 < (l1.length : Int)
                        · rw [if_pos c18] at H
                          have c18b0 : decide (x40_2 < (l1.length : Int)) = true := decide_eq_true c18
                          clear c18
                          replace H := Option.bind_eq_some_iff.mp H
                          obtain ⟨⟨t395, t396⟩, A190, H⟩ := H
                          replace H : (if t396 = 0 then (if t395 = true then (some false) else (medlarlaw11_DiffNone.l1 k2 a0 l1 t387 t388 (t388.length : Int) x34_1 l1 (l1.length : Int) (wrap64 (x40_2 + 1)) ((rd_T34 t388 x34_1).f0) ((rd_T34 t388 x34_1).f1))) else (some false)) = some r := H
                          have A19 := Aside0.mk A190
                          clear A190
                          by_cases c20 : t396 = 0
                          · rw [if_pos c20] at H
                            have c20b0 : (t396 == 0) = true := beq_iff_eq.mpr c20
                            have c20b1 : (t396 != 0) = false := bne_eq_false_iff_eq.mpr c20
                            clear c20
                            by_cases c21 : t395 = true
                            · subst c21
                              have H1 : (some false) = some r := by rw [if_pos rfl] at H; exact H
                              clear H
                              have H := H1
                              clear H1
                              exact absurd ((Option.some.inj H).trans hT.out) Bool.false_ne_true
                            · replace c21 := Bool.eq_false_iff.mpr c21
                              subst c21
                              have H1 : (medlarlaw11_DiffNone.l1 k2 a0 l1 t387 t388 (t388.length : Int) x34_1 l1 (l1.length : Int) (wrap64 (x40_2 + 1)) ((rd_T34 t388 x34_1).f0) ((rd_T34 t388 x34_1).f1)) = some r := by rw [if_neg (show ¬ (false = true) by decide)] at H; exact H
                              clear H
                              have H := H1
                              clear H1
                              have H' := Aside0.mk H
                              clear H
                              have p394 : 0 ≤ (x40_2 : Int) := of_decide_eq_true (by first | (with_reducible assumption) | assumption)
                              have q394 : x40_2 < (l1.length : Int) := of_decide_eq_true (by first | (with_reducible assumption) | assumption)
                              obtain ⟨ad394, e394, hx394_0⟩ := Kd.at_int HR1.out x40_2 p394 q394
                              cases e394
                              replace hx394_0 := (HB.out.cell (World.block_lt_of_cell? w _ hx394_0)).trans hx394_0
                              replace p394 := eq_true p394
                              replace q394 := eq_true q394
                              have hcz22_0 : wr.cell? ⟨gb393, 0, none⟩ = some (.int .u64 ((rd_T34 t388 x34_1).f0)) := (blk_cell BK393.out 0).trans rfl
                              have hcz22_1 : wr.cell? ⟨gb393, 1, none⟩ = some (.int .u64 ((rd_T34 t388 x34_1).f1)) := (blk_cell BK393.out 1).trans rfl
                              have hfz22_0 := blk_frozen BK393.out 0
                              have hfz22_1 := blk_frozen BK393.out 1
                              go_wp2_with (first | ((with_reducible refine gate_callee (f := 20) rfl ?_); refine goesL_ (some 48) rfl rfl Try.func20 (by kernel_rfl) rfl #[.int .i64 a0, .agg #[.int .u64 ((rd_T34 t388 x34_1).f0), .int .u64 ((rd_T34 t388 x34_1).f1)], .int .u64 (rd l1 x40_2)] rfl (by (try simp only [List.map_toArray, List.map_cons, List.map_nil]); first | done | rfl | (simp only [List.length_drop, List.length_take]; rfl)) ?_; (with_reducible refine (sub_Has.calls k2 a0 ((rd_T34 t388 x34_1).f0) ((rd_T34 t388 x34_1).f1) (rd l1 x40_2) false t396 _ A19.out).mono ?_); rintro e w23 ⟨rfl, hb⟩; refine ⟨_, rfl, ?_⟩; have n0_ := Aside0.mk (Kd.R_below (by (with_reducible repeat (first | apply Kd.R_alloc | apply Kd.R_drewN | apply Kd.R_drew)); exact HO_32.out) hb); have n1_ := Aside0.mk (blk_below (g := gb393) (o := .cells #[.int .u64 ((rd_T34 t388 x34_1).f0), .int .u64 ((rd_T34 t388 x34_1).f1)] 34 (0, 0)) (by (with_reducible repeat (first | refine blk_drewN ?_ _ | refine blk_drew ?_ | refine blk_alloc ?_ _)); exact BK393.out) hb); have n2_ := Aside0.mk (below_step (by repeat (first | (with_reducible first | exact HB.out | apply below_alloc | apply pw_below_drewN | apply below_drew1 | refine below_set ?_ GE393.out) | exact HB.out)) hb); clear HO_32; clear BK393; clear HB; have HO_32 := n0_; have BK393 := n1_; have HB := n2_; clear n0_ n1_ n2_; (try clear hb); (try clear hb2); (try clear hk); (try clear hi)))
                              go_roundg k2
                              case measure => have := HK1.out; have := HK2.out; omega
                              case rel => exact ⟨(wrap64 (x40_2 + 1)), (by first | rfl | (simp; done) | (simp [*]; done)), H', ⟨by have := HK1.out; have := HK2.out; omega⟩, ⟨by (with_reducible repeat (first | apply Kd.R_alloc | apply Kd.R_drewN | apply Kd.R_drew)); exact HO_32.out⟩, ⟨by (with_reducible repeat (first | refine blk_drewN ?_ _ | refine blk_drew ?_ | refine blk_alloc ?_ _)); exact BK393.out⟩, ⟨by repeat (first | (with_reducible first | exact HB.out | apply below_alloc | apply pw_below_drewN | apply below_drew1 | refine below_set ?_ GE393.out) | exact HB.out)⟩⟩
                          · rw [if_neg c20] at H
                            have c20b0 : (t396 == 0) = false := beq_eq_false_iff_ne.mpr c20
                            have c20b1 : (t396 != 0) = true := bne_iff_ne.mpr c20
                            exact absurd ((Option.some.inj H).trans hT.out) Bool.false_ne_true
                        · rw [if_neg c18] at H
                          exact absurd H (by simp)
                      · rw [if_neg c17] at H
                        exact absurd H (by simp)
                    · rw [if_neg c16] at H
                      have c16b0 : decide (x40_2 < (l1.length : Int)) = false := decide_eq_false c16
                      clear c16
                      by_cases c24 : ((rd_T34 t388 x34_1).f1) = 0
                      · rw [if_pos c24] at H
                        have c24b0 : (((rd_T34 t388 x34_1).f1) == 0) = true := beq_iff_eq.mpr c24
                        have c24b1 : (((rd_T34 t388 x34_1).f1) != 0) = false := bne_eq_false_iff_eq.mpr c24
                        clear c24
                        by_cases c25 : (l1.length : Int) > 0
                        · rw [if_pos c25] at H
                          have c25b0 : decide (0 < (l1.length : Int)) = true := decide_eq_true c25
                          have c25b1 : decide (0 < l1.length) = true := decide_eq_true (by omega)
                          clear c25
                          exact absurd ((Option.some.inj H).trans hT.out) Bool.false_ne_true
                        · rw [if_neg c25] at H
                          have c25b0 : decide (0 < (l1.length : Int)) = false := decide_eq_false c25
                          have c25b1 : decide (0 < l1.length) = false := decide_eq_false (by omega)
                          clear c25
                          by_cases c26 : ((rd_T34 t388 x34_1).f0) = 1
                          · rw [if_pos c26] at H
                            have c26b0 : (((rd_T34 t388 x34_1).f0) == 1) = true := beq_iff_eq.mpr c26
                            have c26b1 : (((rd_T34 t388 x34_1).f0) != 1) = false := bne_eq_false_iff_eq.mpr c26
                            clear c26
                            have H' := Aside0.mk H
                            clear H
                            have hcz27_0 : wr.cell? ⟨gb393, 0, none⟩ = some (.int .u64 ((rd_T34 t388 x34_1).f0)) := (blk_cell BK393.out 0).trans rfl
                            have hcz27_1 : wr.cell? ⟨gb393, 1, none⟩ = some (.int .u64 ((rd_T34 t388 x34_1).f1)) := (blk_cell BK393.out 1).trans rfl
                            have hfz27_0 := blk_frozen BK393.out 0
                            have hfz27_1 := blk_frozen BK393.out 1
                            go_wp2
                            go_roundg k2
                            case measure => have := HK1.out; have := HK2.out; omega
                            case rel => exact ⟨(wrap64 (x34_1 + 1)), (by first | rfl | (simp; done) | (simp [*]; done)), H', ⟨by have := HK1.out; have := HK2.out; omega⟩, ⟨by (with_reducible repeat (first | apply Kd.R_alloc | apply Kd.R_drewN | apply Kd.R_drew)); exact Kd.R_mono HO_32.out (fun _ hk => trivial)⟩, ⟨by repeat (first | (with_reducible first | exact HB.out | apply below_alloc | apply pw_below_drewN | apply below_drew1 | refine below_set ?_ GE393.out) | exact HB.out)⟩⟩
                          · rw [if_neg c26] at H
                            have c26b0 : (((rd_T34 t388 x34_1).f0) == 1) = false := beq_eq_false_iff_ne.mpr c26
                            have c26b1 : (((rd_T34 t388 x34_1).f0) != 1) = true := bne_iff_ne.mpr c26
                            exact absurd ((Option.some.inj H).trans hT.out) Bool.false_ne_true
                      · rw [if_neg c24] at H
                        have c24b0 : (((rd_T34 t388 x34_1).f1) == 0) = false := beq_eq_false_iff_ne.mpr c24
                        have c24b1 : (((rd_T34 t388 x34_1).f1) != 0) = true := bne_iff_ne.mpr c24
                        replace H := Option.bind_eq_some_iff.mp H
                        obtain ⟨⟨t397, t398⟩, A280, H⟩ := H
                        replace H : ((leaf_Below.f k2 a0 l1 ((rd_T34 t388 x34_1).f1)).bind fun bt401 => (if t398 = 0 then (if bt401.2 = 0 then (if (t397.length : Int) = (bt401.1.length : Int) then (if (t397.length : Int) = 0 then (some false) else (medlarlaw11_DiffNone.l0 k2 a0 l1 t387 t388 (t388.length : Int) (wrap64 (x34_1 + 1)))) else (some false)) else (some false)) else (some false))) = some r := H
                        have A28 := Aside0.mk A280
                        clear A280
                        replace H := Option.bind_eq_some_iff.mp H
                        obtain ⟨⟨t401, t402⟩, A290, H⟩ := H
                        replace H : (if t398 = 0 then (if t402 = 0 then (if (t397.length : Int) = (t401.length : Int) then (if (t397.length : Int) = 0 then (some false) else (medlarlaw11_DiffNone.l0 k2 a0 l1 t387 t388 (t388.length : Int) (wrap64 (x34_1 + 1)))) else (some false)) else (some false)) else (some false)) = some r := H
                        have A29 := Aside0.mk A290
                        clear A290
                        by_cases c30 : t398 = 0
                        · rw [if_pos c30] at H
                          have c30b0 : (t398 == 0) = true := beq_iff_eq.mpr c30
                          have c30b1 : (t398 != 0) = false := bne_eq_false_iff_eq.mpr c30
                          clear c30
                          by_cases c31 : t402 = 0
                          · rw [if_pos c31] at H
                            have c31b0 : (t402 == 0) = true := beq_iff_eq.mpr c31
                            have c31b1 : (t402 != 0) = false := bne_eq_false_iff_eq.mpr c31
                            clear c31
                            by_cases c32 : (t397.length : Int) = (t401.length : Int)
                            · rw [if_pos c32] at H
                              have c32b0 : ((t397.length : Int) == (t401.length : Int)) = true := beq_iff_eq.mpr c32
                              have c32b1 : ((t397.length : Int) != (t401.length : Int)) = false := bne_eq_false_iff_eq.mpr c32
                              have c32b2 : (t397.length == t401.length) = true := by first | simpa using c32 | (simp at c32 ⊢; omega)
                              clear c32
                              by_cases c33 : (t397.length : Int) = 0
                              · rw [if_pos c33] at H
                                have c33b0 : ((t397.length : Int) == 0) = true := beq_iff_eq.mpr c33
                                have c33b1 : ((t397.length : Int) != 0) = false := bne_eq_false_iff_eq.mpr c33
                                clear c33
                                exact absurd ((Option.some.inj H).trans hT.out) Bool.false_ne_true
                              · rw [if_neg c33] at H
                                have c33b0 : ((t397.length : Int) == 0) = false := beq_eq_false_iff_ne.mpr c33
                                have c33b1 : ((t397.length : Int) != 0) = true := bne_iff_ne.mpr c33
                                have c33b2 : ¬ (t397 = []) := fun h_ => c33 (by rw [h_]; rfl)
                                have H' := Aside0.mk H
                                clear H
                                have hcz34_0 : wr.cell? ⟨gb393, 0, none⟩ = some (.int .u64 ((rd_T34 t388 x34_1).f0)) := (blk_cell BK393.out 0).trans rfl
                                have hcz34_1 : wr.cell? ⟨gb393, 1, none⟩ = some (.int .u64 ((rd_T34 t388 x34_1).f1)) := (blk_cell BK393.out 1).trans rfl
                                have hfz34_0 := blk_frozen BK393.out 0
                                have hfz34_1 := blk_frozen BK393.out 1
                                go_wp2_with (first | ((with_reducible refine gate_callee (f := 21) rfl ?_); refine goesL_ (some 73) rfl rfl Try.func21 (by kernel_rfl) rfl #[.int .i64 a0, .slice A1 l1.length c1, .int .u64 ((rd_T34 t388 x34_1).f0)] rfl (by (try simp only [List.map_toArray, List.map_cons, List.map_nil]); first | done | rfl | (simp only [List.length_drop, List.length_take]; rfl)) ?_; (with_reducible refine (leaf_Below.calls k2 a0 _ _ l1 ((rd_T34 t388 x34_1).f0) t397 t398 _ ?side1 ?side2 A28.out).mono ?_); (case side1 => repeat (first | exact (Kd.C_below HR1.out HB.out) | (with_reducible refine Kd.C_alloc ?_ _) | (with_reducible refine Kd.C_drewN ?_ _) | (with_reducible refine Kd.C_drew ?_))); (case side2 => exact HC1.out); rintro e w35 ⟨v399, rfl, ho0, hb⟩; refine ⟨_, rfl, ?_⟩; have n0_ := Aside0.mk (Kd.R_below (by (with_reducible repeat (first | apply Kd.R_alloc | apply Kd.R_drewN | apply Kd.R_drew)); exact HO_32.out) hb); have n1_ := Aside0.mk (Kd.R_lower ho0 (below_size (by repeat (first | (with_reducible first | exact HB.out | apply below_alloc | apply pw_below_drewN | apply below_drew1 | refine below_set ?_ GE393.out) | exact HB.out)))); have n2_ := Aside0.mk (blk_below (g := gb393) (o := .cells #[.int .u64 ((rd_T34 t388 x34_1).f0), .int .u64 ((rd_T34 t388 x34_1).f1)] 34 (0, 0)) (by (with_reducible repeat (first | refine blk_drewN ?_ _ | refine blk_drew ?_ | refine blk_alloc ?_ _)); exact BK393.out) hb); have n3_ := Aside0.mk (below_step (by repeat (first | (with_reducible first | exact HB.out | apply below_alloc | apply pw_below_drewN | apply below_drew1 | refine below_set ?_ GE393.out) | exact HB.out)) hb); clear HO_32; clear BK393; clear HB; have HO_32 := n0_; have HO400 := n1_; have BK393 := n2_; have HB := n3_; clear n0_ n1_ n2_ n3_; (try clear hb); (try clear hb2); (try clear hk); (try clear hi); (try clear ho0); have hcz36_0 : w35.cell? ⟨gb393, 0, none⟩ = some (.int .u64 ((rd_T34 t388 x34_1).f0)) := (blk_cell BK393.out 0).trans rfl; have hcz36_1 : w35.cell? ⟨gb393, 1, none⟩ = some (.int .u64 ((rd_T34 t388 x34_1).f1)) := (blk_cell BK393.out 1).trans rfl; have hfz36_0 := blk_frozen BK393.out 0; have hfz36_1 := blk_frozen BK393.out 1) | ((with_reducible refine gate_callee (f := 21) rfl ?_); refine goesL_ (some 81) rfl rfl Try.func21 (by kernel_rfl) rfl #[.int .i64 a0, .slice A1 l1.length c1, .int .u64 ((rd_T34 t388 x34_1).f1)] rfl (by (try simp only [List.map_toArray, List.map_cons, List.map_nil]); first | done | rfl | (simp only [List.length_drop, List.length_take]; rfl)) ?_; (with_reducible refine (leaf_Below.calls k2 a0 _ _ l1 ((rd_T34 t388 x34_1).f1) t401 t402 _ ?side1 ?side2 A29.out).mono ?_); (case side1 => repeat (first | exact (Kd.C_below HR1.out HB.out) | (with_reducible refine Kd.C_alloc ?_ _) | (with_reducible refine Kd.C_drewN ?_ _) | (with_reducible refine Kd.C_drew ?_))); (case side2 => exact HC1.out); rintro e w37 ⟨v403, rfl, ho0, hb⟩; refine ⟨_, rfl, ?_⟩; have n0_ := Aside0.mk (Kd.R_below (by (with_reducible repeat (first | apply Kd.R_alloc | apply Kd.R_drewN | apply Kd.R_drew)); exact HO_32.out) hb); have n1_ := Aside0.mk (Kd.R_elder' (by (with_reducible repeat (first | apply Kd.R_alloc | apply Kd.R_drewN | apply Kd.R_drew)); exact HO400.out) (Kd.R_base ho0) hb); have n2_ := Aside0.mk (Kd.R_lower (Kd.R_new' ho0 (Kd.R_lt (by (with_reducible repeat (first | apply Kd.R_alloc | apply Kd.R_drewN | apply Kd.R_drew)); exact HO400.out))) (below_size (by repeat (first | (with_reducible first | exact HB.out | apply below_alloc | apply pw_below_drewN | apply below_drew1 | refine below_set ?_ GE393.out) | exact HB.out)))); have n3_ := Aside0.mk (blk_below (g := gb393) (o := .cells #[.int .u64 ((rd_T34 t388 x34_1).f0), .int .u64 ((rd_T34 t388 x34_1).f1)] 34 (0, 0)) (by (with_reducible repeat (first | refine blk_drewN ?_ _ | refine blk_drew ?_ | refine blk_alloc ?_ _)); exact BK393.out) hb); have n4_ := Aside0.mk (below_step (by repeat (first | (with_reducible first | exact HB.out | apply below_alloc | apply pw_below_drewN | apply below_drew1 | refine below_set ?_ GE393.out) | exact HB.out)) hb); clear HO_32; clear HO400; clear BK393; clear HB; have HO_32 := n0_; have HO400 := n1_; have HO404 := n2_; have BK393 := n3_; have HB := n4_; clear n0_ n1_ n2_ n3_ n4_; (try clear hb); (try clear hb2); (try clear hk); (try clear hi); (try clear ho0); obtain ⟨Ao38, co38, eo38⟩ := Kd.R_slice HO400.out; subst eo38; obtain ⟨Ao39, co39, eo39⟩ := Kd.R_slice HO404.out; subst eo39))
                                go_roundg k2
                                case measure => have := HK1.out; have := HK2.out; omega
                                case rel => exact ⟨(wrap64 (x34_1 + 1)), (by first | rfl | (simp; done) | (simp [*]; done)), H', ⟨by have := HK1.out; have := HK2.out; omega⟩, ⟨by (with_reducible repeat (first | apply Kd.R_alloc | apply Kd.R_drewN | apply Kd.R_drew)); exact Kd.R_mono HO_32.out (fun _ hk => trivial)⟩, ⟨by repeat (first | (with_reducible first | exact HB.out | apply below_alloc | apply pw_below_drewN | apply below_drew1 | refine below_set ?_ GE393.out) | exact HB.out)⟩⟩
                            · rw [if_neg c32] at H
                              have c32b0 : ((t397.length : Int) == (t401.length : Int)) = false := beq_eq_false_iff_ne.mpr c32
                              have c32b1 : ((t397.length : Int) != (t401.length : Int)) = true := bne_iff_ne.mpr c32
                              have c32b2 : (t397.length == t401.length) = false := by first | simpa using c32 | (simp at c32 ⊢; omega)
                              exact absurd ((Option.some.inj H).trans hT.out) Bool.false_ne_true
                          · rw [if_neg c31] at H
                            have c31b0 : (t402 == 0) = false := beq_eq_false_iff_ne.mpr c31
                            have c31b1 : (t402 != 0) = true := bne_iff_ne.mpr c31
                            exact absurd ((Option.some.inj H).trans hT.out) Bool.false_ne_true
                        · rw [if_neg c30] at H
                          have c30b0 : (t398 == 0) = false := beq_eq_false_iff_ne.mpr c30
                          have c30b1 : (t398 != 0) = true := bne_iff_ne.mpr c30
                          exact absurd ((Option.some.inj H).trans hT.out) Bool.false_ne_true
              · rw [if_neg c13] at H
                exact absurd H (by simp)
            · rw [if_neg c12] at H
              exact absurd H (by simp)
          · rw [if_neg c11] at H
            have c11b0 : decide (x34_1 < (t388.length : Int)) = false := decide_eq_false c11
            clear c11
            obtain rfl := Option.some.inj H
            go_wp2
            go_ret
            exact ⟨by first | rfl | (simp [errW_none, errW_some] <;> rfl) | (simp [*, errW_none, errW_some] <;> rfl), by repeat (first | (with_reducible first | exact HB.out | apply below_alloc | apply pw_below_drewN | apply below_drew1) | exact HB.out)⟩
    · rw [if_neg c7] at H
      have c7b0 : (t389 == 0) = false := beq_eq_false_iff_ne.mpr c7
      have c7b1 : (t389 != 0) = true := bne_iff_ne.mpr c7
      obtain rfl := Option.some.inj H
      go_enter Try.func4, Try.ntmps4
      go_wp2_with (first | ((with_reducible refine gate_callee (f := 14) rfl ?_); refine goesL_ (some 18) rfl rfl Try.func14 (by kernel_rfl) rfl #[] rfl (by (try simp only [List.map_toArray, List.map_cons, List.map_nil]); first | done | rfl | (simp only [List.length_drop, List.length_take]; rfl)) ?_; (with_reducible refine (medlarlaw11_live.calls k  t387 _ A3.out).mono ?_); rintro e w40 ⟨rfl, hb⟩; refine ⟨_, rfl, ?_⟩; have n0_ := Aside0.mk (below_step (by repeat (first | (with_reducible first | exact HB.out | apply below_alloc | apply pw_below_drewN | apply below_drew1) | exact HB.out)) hb); clear HB; have HB := n0_; clear n0_; (try clear hb); (try clear hb2); (try clear hk); (try clear hi)) | ((with_reducible refine gate_callee (f := 15) rfl ?_); refine goesL_ (some 26) rfl rfl Try.func15 (by kernel_rfl) rfl #[.int .i64 a0, .slice A1 l1.length c1] rfl (by (try simp only [List.map_toArray, List.map_cons, List.map_nil]); first | done | rfl | (simp only [List.length_drop, List.length_take]; rfl)) ?_; (with_reducible refine (diff_Cover.calls k a0 _ _ l1 t388 t389 _ ?side1 ?side2 A6.out).mono ?_); (case side1 => repeat (first | exact (Kd.C_below HR1.out HB.out) | (with_reducible refine Kd.C_alloc ?_ _) | (with_reducible refine Kd.C_drewN ?_ _) | (with_reducible refine Kd.C_drew ?_))); (case side2 => exact HC1.out); rintro e w41 ⟨v390, rfl, ho0, hb⟩; refine ⟨_, rfl, ?_⟩; have n0_ := Aside0.mk (Kd.R_lower ho0 (below_size (by repeat (first | (with_reducible first | exact HB.out | apply below_alloc | apply pw_below_drewN | apply below_drew1) | exact HB.out)))); have n1_ := Aside0.mk (below_step (by repeat (first | (with_reducible first | exact HB.out | apply below_alloc | apply pw_below_drewN | apply below_drew1) | exact HB.out)) hb); clear HB; have HO391 := n0_; have HB := n1_; clear n0_ n1_; (try clear hb); (try clear hb2); (try clear hk); (try clear hi); (try clear ho0)))
      go_ret
      exact ⟨by first | rfl | (simp [errW_none, errW_some] <;> rfl) | (simp [*, errW_none, errW_some] <;> rfl), by repeat (first | (with_reducible first | exact HB.out | apply below_alloc | apply pw_below_drewN | apply below_drew1) | exact HB.out)⟩

/-- THE ONE PURE STATEMENT of medlarlaw11_DiffNone: yours. -/
def medlarlaw11_DiffNone.Pure : Prop := ∀ (a0 : Int) (l1 : List Int), (Lit.int .i64 a0).wf = true → l1.length ≤ maxLen → l1.length * 8 ≤ 140737488351232 → (∀ x ∈ l1, (Lit.int .u64 x).wf = true) → ∃ k, medlarlaw11_DiffNone.f k a0 l1 = some true
theorem medlarlaw11_DiffNone.walk (P : medlarlaw11_DiffNone.Pure) (a0 : Int) (a1 : Option Addr) (len1 cap1 : Nat) (z1 : List Int) (w : World) (w0 : (Lit.int .i64 a0).wf = true) (w1 : (a1 = none ∧ len1 = 0 ∧ cap1 = 0 ∧ z1 = []) ∨ ∃ x, a1 = some x ∧ len1 ≤ cap1 ∧ cap1 ≤ maxLen ∧ z1.length = cap1 ∧ (∀ i, i < z1.length → w.cell? (x.add i) = some (.int .u64 (z1.getD i 0))) ∧ ∀ n ∈ z1, (Lit.int .u64 n).wf = true) (y1 : len1 * 8 ≤ 140737488351232) :
    Calls Try.prog 4 #[.int .i64 a0, .slice a1 len1 cap1] w fun e w' => e = .returned (.bool true) ∧ Below w.heap.size w w' := by
  obtain ⟨l1, rfl, hr1, hm1, hw1, hc1⟩ := ReadsInt.ofRowC w1
  obtain ⟨k, h⟩ := P a0 l1 w0 hm1 y1 hw1
  refine (medlarlaw11_DiffNone.calls k a0 _ _ l1 true w (Kd.C_of_reads (d := (0 : Int)) (h1 := fun _ => rfl) hr1) hc1 h ⟨rfl⟩).mono ?_
  rintro e w' ⟨rfl, hd⟩
  exact ⟨rfl, hd⟩

end Go.Proofs.Ytmffkfakcbopcaa.MP
