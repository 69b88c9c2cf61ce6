-- written by a program of this session (wip/tools/mprint.sh) for this seat
import Derived.Test.YtoikjfcdpiikbaaMPx0
import Derived.Test.YtoikjfcdpiikbaaMPx11
import Derived.Test.YtoikjfcdpiikbaaMPx13
namespace Go.Proofs.Ytoikjfcdpiikbaa.MP
open Go.RowKit Go.Proofs.YtoikjfcdpiikbaaW.PrintWords Go.Proofs.YtoikjfcdpiikbaaW.PrintLast Go.Proofs.YtoikjfcdpiikbaaW.PrintMore
attribute [local go_sem] max2_int min2_int max_two min_two max_three min_three max_four min_four   -- for this text's walks alone
set_option linter.unusedVariables false
set_option linter.unusedSimpArgs false

/-! ### medlarlaw10_WholeBeside: function 5 -/
def medlarlaw10_WholeBeside.l0 : Nat → Int → List Int → Bool → List (S43) → List (S43) → Int → Int → Option (Bool)
  | 0, _, _, _, _, _, _, _ => none
  | k + 1, x0, x1, x5, x6, x27, x28, x29 => if x29 < x28 then (if 0 ≤ x29 then (if x29 < (x27.length : Int) then (if ((rd_T43 x27 x29).f0) = 1 then (if x5 = true then (if (x6.length : Int) = 1 then (some ((x1.length : Int) == 0)) else (some false)) else (some false)) else ((leaf_Below.f k x0 x1 (Go.bits .xor .u64 ((rd_T43 x27 x29).f0) 1)).bind fun bt274 => (if bt274.2 = 0 then (if (bt274.1.length : Int) = 0 then (some false) else (medlarlaw10_WholeBeside.l0 k x0 x1 x5 x6 x27 x28 (wrap64 (x29 + 1)))) else (some false)))) else (none)) else (none)) else (some x5)
def medlarlaw10_WholeBeside.f (k : Nat) (a0 : Int) (l1 : List Int) : Option (Bool) := (medlarlaw10_live.f k).bind fun t267 => (if (l1.length : Int) > 30 then (some t267) else ((whole_Cover.f k a0 l1).bind fun bt268 => (if bt268.2 = 0 then (medlarlaw10_WholeBeside.l0 k a0 l1 t267 bt268.1 bt268.1 (bt268.1.length : Int) 0) else (some t267))))
theorem medlarlaw10_WholeBeside.mono_l : ∀ k, (∀ y0 y1 y2 y3 y4 y5 y6, LeO (medlarlaw10_WholeBeside.l0 k y0 y1 y2 y3 y4 y5 y6) (medlarlaw10_WholeBeside.l0 (k + 1) y0 y1 y2 y3 y4 y5 y6))
  | 0 => fun _ _ _ _ _ _ _ r h => by simp [medlarlaw10_WholeBeside.l0] at h
  | k + 1 => by
    have ih0 := medlarlaw10_WholeBeside.mono_l k
    · intro y0 y1 y2 y3 y4 y5 y6
      unfold medlarlaw10_WholeBeside.l0
      repeat' first
      | (with_reducible exact ih0 _ _ _ _ _ _ _)
      | (with_reducible exact leaf_Below.mono _ _ _ _)
      | (with_reducible exact medlarlaw10_live.mono _)
      | (with_reducible exact whole_Cover.mono _ _ _)
      | (with_reducible exact LeO.refl _)
      | (with_reducible exact LeO.none _)
      | (with_reducible refine LeO.ite ?_ ?_)
      | (with_reducible refine LeO.bind ?_ (fun _ => ?_))
      | exact ih0 _ _ _ _ _ _ _
      | exact leaf_Below.mono _ _ _ _
      | exact medlarlaw10_live.mono _
      | exact whole_Cover.mono _ _ _
      | exact LeO.none _
      | refine LeO.ite ?_ ?_
      | refine LeO.bind ?_ (fun _ => ?_)
theorem medlarlaw10_WholeBeside.mono : ∀ a0 a1 k, LeO (medlarlaw10_WholeBeside.f k a0 a1) (medlarlaw10_WholeBeside.f (k + 1) a0 a1) := by
  intro a0 a1 k
  have ih0 := medlarlaw10_WholeBeside.mono_l k
  unfold medlarlaw10_WholeBeside.f
  repeat' first
      | (with_reducible exact ih0 _ _ _ _ _ _ _)
      | (with_reducible exact leaf_Below.mono _ _ _ _)
      | (with_reducible exact medlarlaw10_live.mono _)
      | (with_reducible exact whole_Cover.mono _ _ _)
      | (with_reducible exact LeO.refl _)
      | (with_reducible exact LeO.none _)
      | (with_reducible refine LeO.ite ?_ ?_)
      | (with_reducible refine LeO.bind ?_ (fun _ => ?_))
      | exact ih0 _ _ _ _ _ _ _
      | exact leaf_Below.mono _ _ _ _
      | exact medlarlaw10_live.mono _
      | exact whole_Cover.mono _ _ _
      | exact LeO.none _
      | refine LeO.ite ?_ ?_
      | refine LeO.bind ?_ (fun _ => ?_)
set_option maxHeartbeats 8000000 in
set_option maxRecDepth 100000 in
theorem medlarlaw10_WholeBeside.calls (k : Nat) (a0 : Int) (A1 : Option Addr) (c1 : Nat) (l1 : List Int) (r : Bool) (w : World) (hr1 : Kd.C (Kd.int .u64) w A1 l1.length l1) (hc1 : l1.length ≤ c1) (h : medlarlaw10_WholeBeside.f k a0 l1 = some r) (hT : Aside0 (r = true)) :
    Calls Try.prog 5 #[.int .i64 a0, .slice A1 l1.length c1] w fun e w' => e = .returned (.bool r) ∧ Below w.heap.size w w' := by
  have hu43 := Try.underlying43
  have HR1 := Aside0.mk hr1
  have HC1 := Aside0.mk hc1
  clear hr1 hc1
  have HB := Aside0.mk (Below.refl w.heap.size w)
  have H : ((medlarlaw10_live.f k).bind fun t267 => (if (l1.length : Int) > 30 then (some t267) else ((whole_Cover.f k a0 l1).bind fun bt268 => (if bt268.2 = 0 then (medlarlaw10_WholeBeside.l0 k a0 l1 t267 bt268.1 bt268.1 (bt268.1.length : Int) 0) else (some t267))))) = some r := h
  clear h
  replace H := Option.bind_eq_some_iff.mp H
  obtain ⟨t267, A30, H⟩ := H
  replace H : (if (l1.length : Int) > 30 then (some t267) else ((whole_Cover.f k a0 l1).bind fun bt268 => (if bt268.2 = 0 then (medlarlaw10_WholeBeside.l0 k a0 l1 t267 bt268.1 bt268.1 (bt268.1.length : Int) 0) else (some t267)))) = some r := H
  have A3 := Aside0.mk A30
  clear A30
  by_cases c4 : (l1.length : Int) > 30
  · rw [if_pos c4] at H
    have c4b0 : decide (30 < (l1.length : Int)) = true := decide_eq_true c4
    have c4b1 : decide (30 < l1.length) = true := decide_eq_true (by omega)
    clear c4
    obtain rfl := Option.some.inj H
    go_enter Try.func5, Try.ntmps5
    go_wp2_with (first | ((with_reducible refine gate_callee (f := 21) rfl ?_); refine goesL_ (some 13) rfl rfl Try.func21 (by kernel_rfl) rfl #[] rfl (by (try simp only [List.map_toArray, List.map_cons, List.map_nil]); first | done | rfl | (simp only [List.length_drop, List.length_take]; rfl)) ?_; (with_reducible refine (medlarlaw10_live.calls k  t267 _ A3.out).mono ?_); rintro e w5 ⟨rfl, hb⟩; refine ⟨_, rfl, ?_⟩; have n0_ := Aside0.mk (below_step (by repeat (first | (with_reducible first | exact HB.out | apply below_alloc | apply pw_below_drewN | apply below_drew1) | exact HB.out)) hb); clear HB; have HB := n0_; clear n0_; (try clear hb); (try clear hb2); (try clear hk); (try clear hi)))
    go_ret
    exact ⟨by first | rfl | (simp [errW_none, errW_some] <;> rfl) | (simp [*, errW_none, errW_some] <;> rfl), by repeat (first | (with_reducible first | exact HB.out | apply below_alloc | apply pw_below_drewN | apply below_drew1) | exact HB.out)⟩
  · rw [if_neg c4] at H
    have c4b0 : decide (30 < (l1.length : Int)) = false := decide_eq_false c4
    have c4b1 : decide (30 < l1.length) = false := decide_eq_false (by omega)
    clear c4
    replace H := Option.bind_eq_some_iff.mp H
    obtain ⟨⟨t268, t269⟩, A60, H⟩ := H
    replace H : (if t269 = 0 then (medlarlaw10_WholeBeside.l0 k a0 l1 t267 t268 t268 (t268.length : Int) 0) else (some t267)) = some r := H
    have A6 := Aside0.mk A60
    clear A60
    by_cases c7 : t269 = 0
    · rw [if_pos c7] at H
      have c7b0 : (t269 == 0) = true := beq_iff_eq.mpr c7
      have c7b1 : (t269 != 0) = false := bne_eq_false_iff_eq.mpr c7
      clear c7
      have H' := Aside0.mk H
      clear H
      go_enter Try.func5, Try.ntmps5
      go_wp2_with (first | ((with_reducible refine gate_callee (f := 21) rfl ?_); refine goesL_ (some 13) rfl rfl Try.func21 (by kernel_rfl) rfl #[] rfl (by (try simp only [List.map_toArray, List.map_cons, List.map_nil]); first | done | rfl | (simp only [List.length_drop, List.length_take]; rfl)) ?_; (with_reducible refine (medlarlaw10_live.calls k  t267 _ A3.out).mono ?_); rintro e w8 ⟨rfl, hb⟩; refine ⟨_, rfl, ?_⟩; have n0_ := Aside0.mk (below_step (by repeat (first | (with_reducible first | exact HB.out | apply below_alloc | apply pw_below_drewN | apply below_drew1) | exact HB.out)) hb); clear HB; have HB := n0_; clear n0_; (try clear hb); (try clear hb2); (try clear hk); (try clear hi)) | ((with_reducible refine gate_callee (f := 22) rfl ?_); refine goesL_ (some 21) rfl rfl Try.func22 (by kernel_rfl) rfl #[.int .i64 a0, .slice A1 l1.length c1] rfl (by (try simp only [List.map_toArray, List.map_cons, List.map_nil]); first | done | rfl | (simp only [List.length_drop, List.length_take]; rfl)) ?_; (with_reducible refine (whole_Cover.calls k a0 _ _ l1 t268 t269 _ ?side1 ?side2 A6.out).mono ?_); (case side1 => repeat (first | exact (Kd.C_below HR1.out HB.out) | (with_reducible refine Kd.C_alloc ?_ _) | (with_reducible refine Kd.C_drewN ?_ _) | (with_reducible refine Kd.C_drew ?_))); (case side2 => exact HC1.out); rintro e w9 ⟨v270, rfl, ho0, hb⟩; refine ⟨_, rfl, ?_⟩; have n0_ := Aside0.mk (Kd.R_lower ho0 (below_size (by repeat (first | (with_reducible first | exact HB.out | apply below_alloc | apply pw_below_drewN | apply below_drew1) | exact HB.out)))); have n1_ := Aside0.mk (below_step (by repeat (first | (with_reducible first | exact HB.out | apply below_alloc | apply pw_below_drewN | apply below_drew1) | exact HB.out)) hb); clear HB; have HO271 := n0_; have HB := n1_; clear n0_ n1_; (try clear hb); (try clear hb2); (try clear hk); (try clear hi); (try clear ho0); obtain ⟨Ao10, co10, eo10⟩ := Kd.R_slice HO271.out; subst eo10))
      go_loopg [29] k (fun kq v29 w' => ∃ (x29_1 : Int), v29 = .int .i64 x29_1 ∧ Aside0 (medlarlaw10_WholeBeside.l0 kq a0 l1 t267 t268 t268 (t268.length : Int) x29_1 = some r) ∧ Aside0 (kq ≤ k) ∧ Aside0 (Kd.R k43 43 w' w.heap.size (fun _ => True) (.slice Ao10 t268.length co10) t268) ∧ Aside0 (Kd.R k43 43 w' w.heap.size (fun _ => True) (.slice Ao10 t268.length co10) t268) ∧ Aside0 (Below w.heap.size w w'))
      case atStart => exact ⟨(0), (by first | rfl | (simp; done) | (simp [*]; done)), H', ⟨Nat.le_refl _⟩, ⟨by (with_reducible repeat (first | apply Kd.R_alloc | apply Kd.R_drewN | apply Kd.R_drew)); exact HO271.out⟩, ⟨by (with_reducible repeat (first | apply Kd.R_alloc | apply Kd.R_drewN | apply Kd.R_drew)); exact HO271.out⟩, ⟨by repeat (first | (with_reducible first | exact HB.out | apply below_alloc | apply pw_below_drewN | apply below_drew1) | exact HB.out)⟩⟩
      case round =>
        clear H'
        try clear c1
        try clear c2
        try clear p2
        try clear c4
        try clear c4b0
        try clear c4b1
        try clear c5
        try clear c7
        try clear c7b0
        try clear c7b1
        obtain ⟨x29_1, rfl, HA, HK1, HO_6, HO_27, HB⟩ := hrel
        cases gk with
        | zero => exact absurd HA.out (by simp [medlarlaw10_WholeBeside.l0])
        | succ k1 =>
          have H := HA.out
          clear HA
          simp only [medlarlaw10_WholeBeside.l0] at H
          by_cases c11 : x29_1 < (t268.length : Int)
          · rw [if_pos c11] at H
            have c11b0 : decide (x29_1 < (t268.length : Int)) = true := decide_eq_true c11
            clear c11
            by_cases c12 : 0 ≤ x29_1
            · rw [if_pos c12] at H
              have c12b0 : decide (0 ≤ x29_1) = true := decide_eq_true c12
              clear c12
              by_cases c13 : x29_1 < (t268.length : Int)
              · rw [if_pos c13] at H
                have c13b0 : decide (x29_1 < (t268.length : Int)) = true := decide_eq_true c13
                clear c13
                by_cases c14 : ((rd_T43 t268 x29_1).f0) = 1
                · rw [if_pos c14] at H
                  have c14b0 : (((rd_T43 t268 x29_1).f0) == 1) = true := beq_iff_eq.mpr c14
                  have c14b1 : (((rd_T43 t268 x29_1).f0) != 1) = false := bne_eq_false_iff_eq.mpr c14
                  clear c14
                  by_cases c15 : t267 = true
                  · subst c15
                    have H1 : (if (t268.length : Int) = 1 then (some ((l1.length : Int) == 0)) else (some false)) = some r := by rw [if_pos rfl] at H; exact H
                    clear H
                    have H := H1
                    clear H1
                    by_cases c16 : (t268.length : Int) = 1
                    · rw [if_pos c16] at H
                      have c16b0 : ((t268.length : Int) == 1) = true := beq_iff_eq.mpr c16
                      have c16b1 : ((t268.length : Int) != 1) = false := bne_eq_false_iff_eq.mpr c16
                      clear c16
                      obtain rfl := Option.some.inj H
                      have p272 : 0 ≤ (x29_1 : Int) := of_decide_eq_true (by first | (with_reducible assumption) | assumption)
                      have q272 : x29_1 < (t268.length : Int) := of_decide_eq_true (by first | (with_reducible assumption) | assumption)
                      obtain ⟨ad272, e272, hx272_0, hx272_1⟩ := at_T43 (Kd.R_reads' HO_27.out).2.2 x29_1 p272 q272
                      cases e272
                      replace p272 := eq_true p272
                      replace q272 := eq_true q272
                      go_wp2_with (first | ((with_reducible refine gate_dst (N := 9) rfl ?_); (try (refine gate_guard (by rfl) ?_; dsimp only)); refine box_event ?hg (N := 9) ?hd (cs := #[.int .u64 0, .int .u64 0]) (t := 43) ?hr ?_; (case hd => rfl); (case hg => rfl); (case hr => first | (go_simp; done) | (go_simp; rfl)); intro gb273 hg w17 hbox hb; have n0_ := Aside0.mk (Kd.R_below (Kd.R_elderB (by (with_reducible repeat (first | apply Kd.R_alloc | apply Kd.R_drewN | apply Kd.R_drew)); exact HO_6.out) gb273 (Nat.le_of_eq hg.symm)) hb); have n1_ := Aside0.mk (Kd.R_below (Kd.R_elderB (by (with_reducible repeat (first | apply Kd.R_alloc | apply Kd.R_drewN | apply Kd.R_drew)); exact HO_27.out) gb273 (Nat.le_of_eq hg.symm)) hb); have n2_ := Aside0.mk (below_step (by repeat (first | (with_reducible first | exact HB.out | apply below_alloc | apply pw_below_drewN | apply below_drew1) | exact HB.out)) hb); have n3_ := Aside0.mk (hbox); have n4_ := Aside0.mk ((by rw [hg]; exact (below_size (by repeat (first | (with_reducible first | exact HB.out | apply below_alloc | apply pw_below_drewN | apply below_drew1) | exact HB.out))) : w.heap.size ≤ gb273)); have n5_ := Aside0.mk ((by rw [hg]; exact (below_size (by repeat (first | (with_reducible first | exact HB.out | apply below_alloc | apply pw_below_drewN | apply below_drew1) | exact HB.out))) : w.heap.size ≤ gb273)); clear HO_6; clear HO_27; clear HB; have HO_6 := n0_; have HO_27 := n1_; have HB := n2_; have BK273 := n3_; have GW273 := n4_; have GE273 := n5_; clear n0_ n1_ n2_ n3_ n4_ n5_; clear hb hbox hg; have hcz18_0 : w17.cell? ⟨gb273, 0, none⟩ = some (.int .u64 0) := (blk_cell BK273.out 0).trans rfl; have hcz18_1 : w17.cell? ⟨gb273, 1, none⟩ = some (.int .u64 0) := (blk_cell BK273.out 1).trans rfl; have hfz18_0 := blk_frozen BK273.out 0; have hfz18_1 := blk_frozen BK273.out 1))
                      go_ret
                      exact ⟨by first | rfl | (simp [errW_none, errW_some] <;> rfl) | (simp [*, errW_none, errW_some] <;> rfl), by repeat (first | (with_reducible first | exact HB.out | apply below_alloc | apply pw_below_drewN | apply below_drew1 | refine below_set ?_ GE273.out) | exact HB.out)⟩
                    · rw [if_neg c16] at H
                      have c16b0 : ((t268.length : Int) == 1) = false := beq_eq_false_iff_ne.mpr c16
                      have c16b1 : ((t268.length : Int) != 1) = true := bne_iff_ne.mpr c16
                      exact absurd ((Option.some.inj H).trans hT.out) Bool.false_ne_true
                  · replace c15 := Bool.eq_false_iff.mpr c15
                    subst c15
                    have H1 : (some false) = some r := by rw [if_neg (show ¬ (false = true) by decide)] at H; exact H
                    clear H
                    have H := H1
                    clear H1
                    exact absurd ((Option.some.inj H).trans hT.out) Bool.false_ne_true
                · rw [if_neg c14] at H
                  have c14b0 : (((rd_T43 t268 x29_1).f0) == 1) = false := beq_eq_false_iff_ne.mpr c14
                  have c14b1 : (((rd_T43 t268 x29_1).f0) != 1) = true := bne_iff_ne.mpr c14
                  replace H := Option.bind_eq_some_iff.mp H
                  obtain ⟨⟨t274, t275⟩, A190, H⟩ := H
                  replace H : (if t275 = 0 then (if (t274.length : Int) = 0 then (some false) else (medlarlaw10_WholeBeside.l0 k1 a0 l1 t267 t268 t268 (t268.length : Int) (wrap64 (x29_1 + 1)))) else (some false)) = some r := H
                  have A19 := Aside0.mk A190
                  clear A190
                  by_cases c20 : t275 = 0
                  · rw [if_pos c20] at H
                    have c20b0 : (t275 == 0) = true := beq_iff_eq.mpr c20
                    have c20b1 : (t275 != 0) = false := bne_eq_false_iff_eq.mpr c20
                    clear c20
                    by_cases c21 : (t274.length : Int) = 0
                    · rw [if_pos c21] at H
                      have c21b0 : ((t274.length : Int) == 0) = true := beq_iff_eq.mpr c21
                      have c21b1 : ((t274.length : Int) != 0) = false := bne_eq_false_iff_eq.mpr c21
                      clear c21
                      exact absurd ((Option.some.inj H).trans hT.out) Bool.false_ne_true
                    · rw [if_neg c21] at H
                      have c21b0 : ((t274.length : Int) == 0) = false := beq_eq_false_iff_ne.mpr c21
                      have c21b1 : ((t274.length : Int) != 0) = true := bne_iff_ne.mpr c21
                      have c21b2 : ¬ (t274 = []) := fun h_ => c21 (by rw [h_]; rfl)
                      have H' := Aside0.mk H
                      clear H
                      have p272 : 0 ≤ (x29_1 : Int) := of_decide_eq_true (by first | (with_reducible assumption) | assumption)
                      have q272 : x29_1 < (t268.length : Int) := of_decide_eq_true (by first | (with_reducible assumption) | assumption)
                      obtain ⟨ad272, e272, hx272_0, hx272_1⟩ := at_T43 (Kd.R_reads' HO_27.out).2.2 x29_1 p272 q272
                      cases e272
                      replace p272 := eq_true p272
                      replace q272 := eq_true q272
                      go_wp2_with (first | ((with_reducible refine gate_dst (N := 9) rfl ?_); (try (refine gate_guard (by rfl) ?_; dsimp only)); refine box_event ?hg (N := 9) ?hd (cs := #[.int .u64 0, .int .u64 0]) (t := 43) ?hr ?_; (case hd => rfl); (case hg => rfl); (case hr => first | (go_simp; done) | (go_simp; rfl)); intro gb273 hg w22 hbox hb; have n0_ := Aside0.mk (Kd.R_below (Kd.R_elderB (by (with_reducible repeat (first | apply Kd.R_alloc | apply Kd.R_drewN | apply Kd.R_drew)); exact HO_6.out) gb273 (Nat.le_of_eq hg.symm)) hb); have n1_ := Aside0.mk (Kd.R_below (Kd.R_elderB (by (with_reducible repeat (first | apply Kd.R_alloc | apply Kd.R_drewN | apply Kd.R_drew)); exact HO_27.out) gb273 (Nat.le_of_eq hg.symm)) hb); have n2_ := Aside0.mk (below_step (by repeat (first | (with_reducible first | exact HB.out | apply below_alloc | apply pw_below_drewN | apply below_drew1) | exact HB.out)) hb); have n3_ := Aside0.mk (hbox); have n4_ := Aside0.mk ((by rw [hg]; exact (below_size (by repeat (first | (with_reducible first | exact HB.out | apply below_alloc | apply pw_below_drewN | apply below_drew1) | exact HB.out))) : w.heap.size ≤ gb273)); have n5_ := Aside0.mk ((by rw [hg]; exact (below_size (by repeat (first | (with_reducible first | exact HB.out | apply below_alloc | apply pw_below_drewN | apply below_drew1) | exact HB.out))) : w.heap.size ≤ gb273)); clear HO_6; clear HO_27; clear HB; have HO_6 := n0_; have HO_27 := n1_; have HB := n2_; have BK273 := n3_; have GW273 := n4_; have GE273 := n5_; clear n0_ n1_ n2_ n3_ n4_ n5_; clear hb hbox hg; have hcz23_0 : w22.cell? ⟨gb273, 0, none⟩ = some (.int .u64 0) := (blk_cell BK273.out 0).trans rfl; have hcz23_1 : w22.cell? ⟨gb273, 1, none⟩ = some (.int .u64 0) := (blk_cell BK273.out 1).trans rfl; have hfz23_0 := blk_frozen BK273.out 0; have hfz23_1 := blk_frozen BK273.out 1) | ((with_reducible refine gate_callee (f := 20) rfl ?_); refine goesL_ (some 54) rfl rfl Try.func20 (by kernel_rfl) rfl #[.int .i64 a0, .slice A1 l1.length c1, .int .u64 (Go.bits .xor .u64 ((rd_T43 t268 x29_1).f0) 1)] rfl (by (try simp only [List.map_toArray, List.map_cons, List.map_nil]); first | done | rfl | (simp only [List.length_drop, List.length_take]; rfl)) ?_; (with_reducible refine (leaf_Below.calls k1 a0 _ _ l1 (Go.bits .xor .u64 ((rd_T43 t268 x29_1).f0) 1) t274 t275 _ ?side1 ?side2 A19.out).mono ?_); (case side1 => exact Kd.C_below HR1.out (by repeat (first | (with_reducible first | exact HB.out | apply below_alloc | apply pw_below_drewN | apply below_drew1 | refine below_set ?_ GE273.out) | exact HB.out))); (case side2 => exact HC1.out); rintro e w24 ⟨v276, rfl, ho0, hb⟩; refine ⟨_, rfl, ?_⟩; have n0_ := Aside0.mk (Kd.R_below (by (with_reducible repeat (first | apply Kd.R_alloc | apply Kd.R_drewN | apply Kd.R_drew)); exact (Kd.R_mono (Kd.R_far (p := ⟨gb273, 1, none⟩) (Kd.R_far (p := ⟨gb273, 0, none⟩) (Kd.R_mono HO_6.out (fun k_ hk => (⟨hk, hk.2⟩ : _ ∧ k_ ≠ gb273))) (fun _ hk => hk.2) (.int .u64 ((rd_T43 t268 x29_1).f0))) (fun _ hk => hk.2) (.int .u64 ((rd_T43 t268 x29_1).f1))) (fun _ h_ => h_.1))) hb); have n1_ := Aside0.mk (Kd.R_below (by (with_reducible repeat (first | apply Kd.R_alloc | apply Kd.R_drewN | apply Kd.R_drew)); exact (Kd.R_mono (Kd.R_far (p := ⟨gb273, 1, none⟩) (Kd.R_far (p := ⟨gb273, 0, none⟩) (Kd.R_mono HO_27.out (fun k_ hk => (⟨hk, hk.2⟩ : _ ∧ k_ ≠ gb273))) (fun _ hk => hk.2) (.int .u64 ((rd_T43 t268 x29_1).f0))) (fun _ hk => hk.2) (.int .u64 ((rd_T43 t268 x29_1).f1))) (fun _ h_ => h_.1))) hb); have n2_ := Aside0.mk (Kd.R_lower ho0 (below_size (by repeat (first | (with_reducible first | exact HB.out | apply below_alloc | apply pw_below_drewN | apply below_drew1 | refine below_set ?_ GE273.out) | exact HB.out)))); have n3_ := Aside0.mk (blk_below (g := gb273) (o := .cells #[.int .u64 ((rd_T43 t268 x29_1).f0), .int .u64 ((rd_T43 t268 x29_1).f1)] 43 (0, 0)) (by (with_reducible repeat (first | refine blk_drewN ?_ _ | refine blk_drew ?_ | refine blk_alloc ?_ _)); refine blk_put (cs := #[.int .u64 ((rd_T43 t268 x29_1).f0), .int .u64 0]) ?_ 1 _ rfl; (with_reducible repeat (first | refine blk_drewN ?_ _ | refine blk_drew ?_ | refine blk_alloc ?_ _)); refine blk_put (cs := #[.int .u64 0, .int .u64 0]) ?_ 0 _ rfl; (with_reducible repeat (first | refine blk_drewN ?_ _ | refine blk_drew ?_ | refine blk_alloc ?_ _)); exact BK273.out) hb); have n4_ := Aside0.mk (below_step (by repeat (first | (with_reducible first | exact HB.out | apply below_alloc | apply pw_below_drewN | apply below_drew1 | refine below_set ?_ GE273.out) | exact HB.out)) hb); clear HO_6; clear HO_27; clear BK273; clear HB; have HO_6 := n0_; have HO_27 := n1_; have HO277 := n2_; have BK273 := n3_; have HB := n4_; clear n0_ n1_ n2_ n3_ n4_; (try clear hb); (try clear hb2); (try clear hk); (try clear hi); (try clear ho0); obtain ⟨Ao25, co25, eo25⟩ := Kd.R_slice HO277.out; subst eo25))
                      go_roundg k1
                      case measure => have := HK1.out; omega
                      case rel => exact ⟨(wrap64 (x29_1 + 1)), (by first | rfl | (simp; done) | (simp [*]; done)), H', ⟨by have := HK1.out; omega⟩, ⟨by (with_reducible repeat (first | apply Kd.R_alloc | apply Kd.R_drewN | apply Kd.R_drew)); exact Kd.R_mono HO_6.out (fun _ hk => trivial)⟩, ⟨by (with_reducible repeat (first | apply Kd.R_alloc | apply Kd.R_drewN | apply Kd.R_drew)); exact Kd.R_mono HO_27.out (fun _ hk => trivial)⟩, ⟨by repeat (first | (with_reducible first | exact HB.out | apply below_alloc | apply pw_below_drewN | apply below_drew1 | refine below_set ?_ GE273.out) | exact HB.out)⟩⟩
                  · rw [if_neg c20] at H
                    have c20b0 : (t275 == 0) = false := beq_eq_false_iff_ne.mpr c20
                    have c20b1 : (t275 != 0) = true := bne_iff_ne.mpr c20
                    exact absurd ((Option.some.inj H).trans hT.out) Bool.false_ne_true
              · rw [if_neg c13] at H
                exact absurd H (by simp)
            · rw [if_neg c12] at H
              exact absurd H (by simp)
          · rw [if_neg c11] at H
            have c11b0 : decide (x29_1 < (t268.length : Int)) = false := decide_eq_false c11
            clear c11
            obtain rfl := Option.some.inj H
            go_wp2
            go_ret
            exact ⟨by first | rfl | (simp [errW_none, errW_some] <;> rfl) | (simp [*, errW_none, errW_some] <;> rfl), by repeat (first | (with_reducible first | exact HB.out | apply below_alloc | apply pw_below_drewN | apply below_drew1) | exact HB.out)⟩
    · rw [if_neg c7] at H
      have c7b0 : (t269 == 0) = false := beq_eq_false_iff_ne.mpr c7
      have c7b1 : (t269 != 0) = true := bne_iff_ne.mpr c7
      obtain rfl := Option.some.inj H
      go_enter Try.func5, Try.ntmps5
      go_wp2_with (first | ((with_reducible refine gate_callee (f := 21) rfl ?_); refine goesL_ (some 13) rfl rfl Try.func21 (by kernel_rfl) rfl #[] rfl (by (try simp only [List.map_toArray, List.map_cons, List.map_nil]); first | done | rfl | (simp only [List.length_drop, List.length_take]; rfl)) ?_; (with_reducible refine (medlarlaw10_live.calls k  t267 _ A3.out).mono ?_); rintro e w26 ⟨rfl, hb⟩; refine ⟨_, rfl, ?_⟩; have n0_ := Aside0.mk (below_step (by repeat (first | (with_reducible first | exact HB.out | apply below_alloc | apply pw_below_drewN | apply below_drew1) | exact HB.out)) hb); clear HB; have HB := n0_; clear n0_; (try clear hb); (try clear hb2); (try clear hk); (try clear hi)) | ((with_reducible refine gate_callee (f := 22) rfl ?_); refine goesL_ (some 21) rfl rfl Try.func22 (by kernel_rfl) rfl #[.int .i64 a0, .slice A1 l1.length c1] rfl (by (try simp only [List.map_toArray, List.map_cons, List.map_nil]); first | done | rfl | (simp only [List.length_drop, List.length_take]; rfl)) ?_; (with_reducible refine (whole_Cover.calls k a0 _ _ l1 t268 t269 _ ?side1 ?side2 A6.out).mono ?_); (case side1 => repeat (first | exact (Kd.C_below HR1.out HB.out) | (with_reducible refine Kd.C_alloc ?_ _) | (with_reducible refine Kd.C_drewN ?_ _) | (with_reducible refine Kd.C_drew ?_))); (case side2 => exact HC1.out); rintro e w27 ⟨v270, rfl, ho0, hb⟩; refine ⟨_, rfl, ?_⟩; have n0_ := Aside0.mk (Kd.R_lower ho0 (below_size (by repeat (first | (with_reducible first | exact HB.out | apply below_alloc | apply pw_below_drewN | apply below_drew1) | exact HB.out)))); have n1_ := Aside0.mk (below_step (by repeat (first | (with_reducible first | exact HB.out | apply below_alloc | apply pw_below_drewN | apply below_drew1) | exact HB.out)) hb); clear HB; have HO271 := n0_; have HB := n1_; clear n0_ n1_; (try clear hb); (try clear hb2); (try clear hk); (try clear hi); (try clear ho0)))
      go_ret
      exact ⟨by first | rfl | (simp [errW_none, errW_some] <;> rfl) | (simp [*, errW_none, errW_some] <;> rfl), by repeat (first | (with_reducible first | exact HB.out | apply below_alloc | apply pw_below_drewN | apply below_drew1) | exact HB.out)⟩

/-- THE ONE PURE STATEMENT of medlarlaw10_WholeBeside: yours. -/
def medlarlaw10_WholeBeside.Pure : Prop := ∀ (a0 : Int) (l1 : List Int), (Lit.int .i64 a0).wf = true → l1.length ≤ maxLen → l1.length * 8 ≤ 140737488351232 → (∀ x ∈ l1, (Lit.int .u64 x).wf = true) → ∃ k, medlarlaw10_WholeBeside.f k a0 l1 = some true
theorem medlarlaw10_WholeBeside.walk (P : medlarlaw10_WholeBeside.Pure) (a0 : Int) (a1 : Option Addr) (len1 cap1 : Nat) (z1 : List Int) (w : World) (w0 : (Lit.int .i64 a0).wf = true) (w1 : (a1 = none ∧ len1 = 0 ∧ cap1 = 0 ∧ z1 = []) ∨ ∃ x, a1 = some x ∧ len1 ≤ cap1 ∧ cap1 ≤ maxLen ∧ z1.length = cap1 ∧ (∀ i, i < z1.length → w.cell? (x.add i) = some (.int .u64 (z1.getD i 0))) ∧ ∀ n ∈ z1, (Lit.int .u64 n).wf = true) (y1 : len1 * 8 ≤ 140737488351232) :
    Calls Try.prog 5 #[.int .i64 a0, .slice a1 len1 cap1] w fun e w' => e = .returned (.bool true) ∧ Below w.heap.size w w' := by
  obtain ⟨l1, rfl, hr1, hm1, hw1, hc1⟩ := ReadsInt.ofRowC w1
  obtain ⟨k, h⟩ := P a0 l1 w0 hm1 y1 hw1
  refine (medlarlaw10_WholeBeside.calls k a0 _ _ l1 true w (Kd.C_of_reads (d := (0 : Int)) (h1 := fun _ => rfl) hr1) hc1 h ⟨rfl⟩).mono ?_
  rintro e w' ⟨rfl, hd⟩
  exact ⟨rfl, hd⟩

end Go.Proofs.Ytoikjfcdpiikbaa.MP
