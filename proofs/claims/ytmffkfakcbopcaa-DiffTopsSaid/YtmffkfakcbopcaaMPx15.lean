-- written by a program of this session (wip/tools/mprint.sh) for this seat
import Derived.Test.YtmffkfakcbopcaaMPx0
import Derived.Test.YtmffkfakcbopcaaMPx3
import Derived.Test.YtmffkfakcbopcaaMPx5
import Derived.Test.YtmffkfakcbopcaaMPx14
namespace Go.Proofs.Ytmffkfakcbopcaa.MP
open Go.RowKit Go.Proofs.YtmffkfakcbopcaaW.PrintWords Go.Proofs.YtmffkfakcbopcaaW.PrintLast Go.Proofs.YtmffkfakcbopcaaW.PrintMore
attribute [local go_sem] max2_int min2_int max_two min_two max_three min_three max_four min_four   -- for this text's walks alone
set_option linter.unusedVariables false
set_option linter.unusedSimpArgs false

/-! ### medlarlaw11_DiffTops: function 5 -/
mutual
def medlarlaw11_DiffTops.l0 : Nat → Bool → List (S34) → List Int → Int → List (S34) → Int → Int → Option (Bool)
  | 0, _, _, _, _, _, _, _ => none
  | k + 1, x5, x6, x8, x9, x42, x43, x44 => if x44 < x43 then (if 0 ≤ x44 then (if x44 < (x42.length : Int) then (medlarlaw11_DiffTops.l1 k x5 x6 x8 x9 x44 (((rd_T34 x42 x44).f0) == 1) x42 x43 x44 x8 (x8.length : Int) 0 ((rd_T34 x42 x44).f0) ((rd_T34 x42 x44).f1)) else (none)) else (none)) else (if x5 = true then (some (x9 == 0)) else (some false))
def medlarlaw11_DiffTops.l1 : Nat → Bool → List (S34) → List Int → Int → Int → Bool → List (S34) → Int → Int → List Int → Int → Int → Int → Int → Option (Bool)
  | 0, _, _, _, _, _, _, _, _, _, _, _, _, _, _ => none
  | k + 1, x5, x6, x8, x9, x10, x12, x42, x43, x44, x52, x53, x54, x460000, x460001 => if x54 < x53 then (if 0 ≤ x54 then (if x54 < (x52.length : Int) then (if x12 = true then (medlarlaw11_DiffTops.l1 k x5 x6 x8 x9 x10 true x42 x43 x44 x52 x53 (wrap64 (x54 + 1)) x460000 x460001) else (medlarlaw11_DiffTops.l1 k x5 x6 x8 x9 x10 ((x460000 / 2) == (rd x52 x54)) x42 x43 x44 x52 x53 (wrap64 (x54 + 1)) x460000 x460001)) else (none)) else (none)) else (if x12 = true then (if x10 > 0 then (if 0 ≤ (wrap64 (x10 - 1)) then (if (wrap64 (x10 - 1)) < (x6.length : Int) then (medlarlaw11_DiffTops.j2 k x5 x6 x8 x9 x42 x43 x44 (((rd_T34 x6 (wrap64 (x10 - 1))).f0) == x460000) x460000 x460001) else (none)) else (none)) else (medlarlaw11_DiffTops.j2 k x5 x6 x8 x9 x42 x43 x44 false x460000 x460001)) else (medlarlaw11_DiffTops.j2 k x5 x6 x8 x9 x42 x43 x44 true x460000 x460001))
def medlarlaw11_DiffTops.j2 : Nat → Bool → List (S34) → List Int → Int → List (S34) → Int → Int → Bool → Int → Int → Option (Bool)
  | 0, _, _, _, _, _, _, _, _, _, _ => none
  | k + 1, x5, x6, x8, x9, x42, x43, x44, x83, x460000, x460001 => if x83 = true then (some false) else (medlarlaw11_DiffTops.l2 k x5 x6 x8 x9 x42 x43 x44 x6 (x6.length : Int) 0 x460000 x460001)
def medlarlaw11_DiffTops.l2 : Nat → Bool → List (S34) → List Int → Int → List (S34) → Int → Int → List (S34) → Int → Int → Int → Int → Option (Bool)
  | 0, _, _, _, _, _, _, _, _, _, _, _, _ => none
  | k + 1, x5, x6, x8, x9, x42, x43, x44, x84, x85, x86, x460000, x460001 => if x86 < x85 then (if 0 ≤ x86 then (if x86 < (x84.length : Int) then (if ((rd_T34 x84 x86).f1) = x460000 then (some false) else (medlarlaw11_DiffTops.l2 k x5 x6 x8 x9 x42 x43 x44 x84 x85 (wrap64 (x86 + 1)) x460000 x460001)) else (none)) else (none)) else (medlarlaw11_DiffTops.l0 k x5 x6 x8 x9 x42 x43 (wrap64 (x44 + 1)))
end
def medlarlaw11_DiffTops.f (k : Nat) (a0 : Int) (l1 : List Int) : Option (Bool) := (medlarlaw11_live.f k).bind fun t449 => (if (l1.length : Int) > 30 then (some t449) else ((diff_Cover.f k a0 l1).bind fun bt450 => ((steiner_Forks.f k a0 l1).bind fun bt454 => (if bt450.2 = 0 then (medlarlaw11_DiffTops.l0 k t449 bt450.1 bt454.1 bt454.2 bt450.1 (bt450.1.length : Int) 0) else (if t449 = true then (some (bt450.2 == bt454.2)) else (some false))))))
theorem medlarlaw11_DiffTops.mono_l : ∀ k, (∀ y0 y1 y2 y3 y4 y5 y6, LeO (medlarlaw11_DiffTops.l0 k y0 y1 y2 y3 y4 y5 y6) (medlarlaw11_DiffTops.l0 (k + 1) y0 y1 y2 y3 y4 y5 y6)) ∧ (∀ y0 y1 y2 y3 y4 y5 y6 y7 y8 y9 y10 y11 y12 y13, LeO (medlarlaw11_DiffTops.l1 k y0 y1 y2 y3 y4 y5 y6 y7 y8 y9 y10 y11 y12 y13) (medlarlaw11_DiffTops.l1 (k + 1) y0 y1 y2 y3 y4 y5 y6 y7 y8 y9 y10 y11 y12 y13)) ∧ (∀ y0 y1 y2 y3 y4 y5 y6 y7 y8 y9, LeO (medlarlaw11_DiffTops.j2 k y0 y1 y2 y3 y4 y5 y6 y7 y8 y9) (medlarlaw11_DiffTops.j2 (k + 1) y0 y1 y2 y3 y4 y5 y6 y7 y8 y9)) ∧ (∀ y0 y1 y2 y3 y4 y5 y6 y7 y8 y9 y10 y11, LeO (medlarlaw11_DiffTops.l2 k y0 y1 y2 y3 y4 y5 y6 y7 y8 y9 y10 y11) (medlarlaw11_DiffTops.l2 (k + 1) y0 y1 y2 y3 y4 y5 y6 y7 y8 y9 y10 y11))
  | 0 => ⟨fun _ _ _ _ _ _ _ r h => by simp [medlarlaw11_DiffTops.l0] at h, fun _ _ _ _ _ _ _ _ _ _ _ _ _ _ r h => by simp [medlarlaw11_DiffTops.l1] at h, fun _ _ _ _ _ _ _ _ _ _ r h => by simp [medlarlaw11_DiffTops.j2] at h, fun _ _ _ _ _ _ _ _ _ _ _ _ r h => by simp [medlarlaw11_DiffTops.l2] at h⟩
  | k + 1 => by
    obtain ⟨ih0, ih1, ih2, ih3⟩ := medlarlaw11_DiffTops.mono_l k
    refine ⟨?_, ?_, ?_, ?_⟩
    · intro y0 y1 y2 y3 y4 y5 y6
      unfold medlarlaw11_DiffTops.l0
      repeat' first
      | (with_reducible exact ih0 _ _ _ _ _ _ _)
      | (with_reducible exact ih1 _ _ _ _ _ _ _ _ _ _ _ _ _ _)
      | (with_reducible exact ih2 _ _ _ _ _ _ _ _ _ _)
      | (with_reducible exact ih3 _ _ _ _ _ _ _ _ _ _ _ _)
      | (with_reducible exact diff_Cover.mono _ _ _)
      | (with_reducible exact medlarlaw11_live.mono _)
      | (with_reducible exact steiner_Forks.mono _ _ _)
      | (with_reducible exact LeO.refl _)
      | (with_reducible exact LeO.none _)
      | (with_reducible refine LeO.ite ?_ ?_)
      | (with_reducible refine LeO.bind ?_ (fun _ => ?_))
      | exact ih0 _ _ _ _ _ _ _
      | exact ih1 _ _ _ _ _ _ _ _ _ _ _ _ _ _
      | exact ih2 _ _ _ _ _ _ _ _ _ _
      | exact ih3 _ _ _ _ _ _ _ _ _ _ _ _
      | exact diff_Cover.mono _ _ _
      | exact medlarlaw11_live.mono _
      | exact steiner_Forks.mono _ _ _
      | exact LeO.none _
      | refine LeO.ite ?_ ?_
      | refine LeO.bind ?_ (fun _ => ?_)
    · intro y0 y1 y2 y3 y4 y5 y6 y7 y8 y9 y10 y11 y12 y13
      unfold medlarlaw11_DiffTops.l1
      repeat' first
      | (with_reducible exact ih0 _ _ _ _ _ _ _)
      | (with_reducible exact ih1 _ _ _ _ _ _ _ _ _ _ _ _ _ _)
      | (with_reducible exact ih2 _ _ _ _ _ _ _ _ _ _)
      | (with_reducible exact ih3 _ _ _ _ _ _ _ _ _ _ _ _)
      | (with_reducible exact diff_Cover.mono _ _ _)
      | (with_reducible exact medlarlaw11_live.mono _)
      | (with_reducible exact steiner_Forks.mono _ _ _)
      | (with_reducible exact LeO.refl _)
      | (with_reducible exact LeO.none _)
      | (with_reducible refine LeO.ite ?_ ?_)
      | (with_reducible refine LeO.bind ?_ (fun _ => ?_))
      | exact ih0 _ _ _ _ _ _ _
      | exact ih1 _ _ _ _ _ _ _ _ _ _ _ _ _ _
      | exact ih2 _ _ _ _ _ _ _ _ _ _
      | exact ih3 _ _ _ _ _ _ _ _ _ _ _ _
      | exact diff_Cover.mono _ _ _
      | exact medlarlaw11_live.mono _
      | exact steiner_Forks.mono _ _ _
      | exact LeO.none _
      | refine LeO.ite ?_ ?_
      | refine LeO.bind ?_ (fun _ => ?_)
    · intro y0 y1 y2 y3 y4 y5 y6 y7 y8 y9
      unfold medlarlaw11_DiffTops.j2
      repeat' first
      | (with_reducible exact ih0 _ _ _ _ _ _ _)
      | (with_reducible exact ih1 _ _ _ _ _ _ _ _ _ _ _ _ _ _)
      | (with_reducible exact ih2 _ _ _ _ _ _ _ _ _ _)
      | (with_reducible exact ih3 _ _ _ _ _ _ _ _ _ _ _ _)
      | (with_reducible exact diff_Cover.mono _ _ _)
      | (with_reducible exact medlarlaw11_live.mono _)
      | (with_reducible exact steiner_Forks.mono _ _ _)
      | (with_reducible exact LeO.refl _)
      | (with_reducible exact LeO.none _)
      | (with_reducible refine LeO.ite ?_ ?_)
      | (with_reducible refine LeO.bind ?_ (fun _ => ?_))
      | exact ih0 _ _ _ _ _ _ _
      | exact ih1 _ _ _ _ _ _ _ _ _ _ _ _ _ _
      | exact ih2 _ _ _ _ _ _ _ _ _ _
      | exact ih3 _ _ _ _ _ _ _ _ _ _ _ _
      | exact diff_Cover.mono _ _ _
      | exact medlarlaw11_live.mono _
      | exact steiner_Forks.mono _ _ _
      | exact LeO.none _
      | refine LeO.ite ?_ ?_
      | refine LeO.bind ?_ (fun _ => ?_)
    · intro y0 y1 y2 y3 y4 y5 y6 y7 y8 y9 y10 y11
      unfold medlarlaw11_DiffTops.l2
      repeat' first
      | (with_reducible exact ih0 _ _ _ _ _ _ _)
      | (with_reducible exact ih1 _ _ _ _ _ _ _ _ _ _ _ _ _ _)
      | (with_reducible exact ih2 _ _ _ _ _ _ _ _ _ _)
      | (with_reducible exact ih3 _ _ _ _ _ _ _ _ _ _ _ _)
      | (with_reducible exact diff_Cover.mono _ _ _)
      | (with_reducible exact medlarlaw11_live.mono _)
      | (with_reducible exact steiner_Forks.mono _ _ _)
      | (with_reducible exact LeO.refl _)
      | (with_reducible exact LeO.none _)
      | (with_reducible refine LeO.ite ?_ ?_)
      | (with_reducible refine LeO.bind ?_ (fun _ => ?_))
      | exact ih0 _ _ _ _ _ _ _
      | exact ih1 _ _ _ _ _ _ _ _ _ _ _ _ _ _
      | exact ih2 _ _ _ _ _ _ _ _ _ _
      | exact ih3 _ _ _ _ _ _ _ _ _ _ _ _
      | exact diff_Cover.mono _ _ _
      | exact medlarlaw11_live.mono _
      | exact steiner_Forks.mono _ _ _
      | exact LeO.none _
      | refine LeO.ite ?_ ?_
      | refine LeO.bind ?_ (fun _ => ?_)
theorem medlarlaw11_DiffTops.mono : ∀ a0 a1 k, LeO (medlarlaw11_DiffTops.f k a0 a1) (medlarlaw11_DiffTops.f (k + 1) a0 a1) := by
  intro a0 a1 k
  obtain ⟨ih0, ih1, ih2, ih3⟩ := medlarlaw11_DiffTops.mono_l k
  unfold medlarlaw11_DiffTops.f
  repeat' first
      | (with_reducible exact ih0 _ _ _ _ _ _ _)
      | (with_reducible exact ih1 _ _ _ _ _ _ _ _ _ _ _ _ _ _)
      | (with_reducible exact ih2 _ _ _ _ _ _ _ _ _ _)
      | (with_reducible exact ih3 _ _ _ _ _ _ _ _ _ _ _ _)
      | (with_reducible exact diff_Cover.mono _ _ _)
      | (with_reducible exact medlarlaw11_live.mono _)
      | (with_reducible exact steiner_Forks.mono _ _ _)
      | (with_reducible exact LeO.refl _)
      | (with_reducible exact LeO.none _)
      | (with_reducible refine LeO.ite ?_ ?_)
      | (with_reducible refine LeO.bind ?_ (fun _ => ?_))
      | exact ih0 _ _ _ _ _ _ _
      | exact ih1 _ _ _ _ _ _ _ _ _ _ _ _ _ _
      | exact ih2 _ _ _ _ _ _ _ _ _ _
      | exact ih3 _ _ _ _ _ _ _ _ _ _ _ _
      | exact diff_Cover.mono _ _ _
      | exact medlarlaw11_live.mono _
      | exact steiner_Forks.mono _ _ _
      | exact LeO.none _
      | refine LeO.ite ?_ ?_
      | refine LeO.bind ?_ (fun _ => ?_)
set_option maxHeartbeats 8000000 in
set_option maxRecDepth 100000 in
theorem medlarlaw11_DiffTops.calls (k : Nat) (a0 : Int) (A1 : Option Addr) (c1 : Nat) (l1 : List Int) (r : Bool) (w : World) (hr1 : Kd.C (Kd.int .u64) w A1 l1.length l1) (hc1 : l1.length ≤ c1) (h : medlarlaw11_DiffTops.f k a0 l1 = some r) (hT : Aside0 (r = true)) :
    Calls Try.prog 5 #[.int .i64 a0, .slice A1 l1.length c1] w fun e w' => e = .returned (.bool r) ∧ Below w.heap.size w w' := by
  have hu34 := Try.underlying34
  have HR1 := Aside0.mk hr1
  have HC1 := Aside0.mk hc1
  clear hr1 hc1
  have HB := Aside0.mk (Below.refl w.heap.size w)
  have H : ((medlarlaw11_live.f k).bind fun t449 => (if (l1.length : Int) > 30 then (some t449) else ((diff_Cover.f k a0 l1).bind fun bt450 => ((steiner_Forks.f k a0 l1).bind fun bt454 => (if bt450.2 = 0 then (medlarlaw11_DiffTops.l0 k t449 bt450.1 bt454.1 bt454.2 bt450.1 (bt450.1.length : Int) 0) else (if t449 = true then (some (bt450.2 == bt454.2)) else (some false))))))) = some r := h
  clear h
  replace H := Option.bind_eq_some_iff.mp H
  obtain ⟨t449, A30, H⟩ := H
  replace H : (if (l1.length : Int) > 30 then (some t449) else ((diff_Cover.f k a0 l1).bind fun bt450 => ((steiner_Forks.f k a0 l1).bind fun bt454 => (if bt450.2 = 0 then (medlarlaw11_DiffTops.l0 k t449 bt450.1 bt454.1 bt454.2 bt450.1 (bt450.1.length : Int) 0) else (if t449 = true then (some (bt450.2 == bt454.2)) else (some false)))))) = some r := H
  have A3 := Aside0.mk A30
  clear A30
  by_cases c4 : (l1.length : Int) > 30
  · rw [if_pos c4] at H
    have c4b0 : decide (30 < (l1.length : Int)) = true := decide_eq_true c4
    have c4b1 : decide (30 < l1.length) = true := decide_eq_true (by omega)
    clear c4
    obtain rfl := Option.some.inj H
    go_enter Try.func5, Try.ntmps5
    go_wp2_with (first | (go_at_call 14; (with_reducible refine (medlarlaw11_live.calls k  t449 _ A3.out).mono ?_); rintro e w5 ⟨rfl, hb⟩; have n0_ := Aside0.mk (below_step (by repeat (first | (with_reducible first | exact HB.out | apply below_alloc | apply pw_below_drewN | apply below_drew1) | exact HB.out)) hb); clear HB; have HB := n0_; clear n0_; (try clear hb); (try clear hb2); (try clear hk); (try clear hi)))
    repeat (go_quiet (first | (go_at_call 14; (with_reducible refine (medlarlaw11_live.calls k  t449 _ A3.out).mono ?_); rintro e w5 ⟨rfl, hb⟩; have n0_ := Aside0.mk (below_step (by repeat (first | (with_reducible first | exact HB.out | apply below_alloc | apply pw_below_drewN | apply below_drew1) | exact HB.out)) hb); clear HB; have HB := n0_; clear n0_; (try clear hb); (try clear hb2); (try clear hk); (try clear hi))); try go_wp2_with (first | (go_at_call 14; (with_reducible refine (medlarlaw11_live.calls k  t449 _ A3.out).mono ?_); rintro e w5 ⟨rfl, hb⟩; have n0_ := Aside0.mk (below_step (by repeat (first | (with_reducible first | exact HB.out | apply below_alloc | apply pw_below_drewN | apply below_drew1) | exact HB.out)) hb); clear HB; have HB := n0_; clear n0_; (try clear hb); (try clear hb2); (try clear hk); (try clear hi))))
    go_ret
    exact ⟨by first | rfl | (simp [errW_none, errW_some] <;> rfl) | (simp [*, errW_none, errW_some] <;> rfl), by repeat (first | (with_reducible first | exact HB.out | apply below_alloc | apply pw_below_drewN | apply below_drew1) | exact HB.out)⟩
  · rw [if_neg c4] at H
    have c4b0 : decide (30 < (l1.length : Int)) = false := decide_eq_false c4
    have c4b1 : decide (30 < l1.length) = false := decide_eq_false (by omega)
    clear c4
    replace H := Option.bind_eq_some_iff.mp H
    obtain ⟨⟨t450, t451⟩, A60, H⟩ := H
    replace H : ((steiner_Forks.f k a0 l1).bind fun bt454 => (if t451 = 0 then (medlarlaw11_DiffTops.l0 k t449 t450 bt454.1 bt454.2 t450 (t450.length : Int) 0) else (if t449 = true then (some (t451 == bt454.2)) else (some false)))) = some r := H
    have A6 := Aside0.mk A60
    clear A60
    replace H := Option.bind_eq_some_iff.mp H
    obtain ⟨⟨t454, t455⟩, A70, H⟩ := H
    replace H : (if t451 = 0 then (medlarlaw11_DiffTops.l0 k t449 t450 t454 t455 t450 (t450.length : Int) 0) else (if t449 = true then (some (t451 == t455)) else (some false))) = some r := H
    have A7 := Aside0.mk A70
    clear A70
    by_cases c8 : t451 = 0
    · rw [if_pos c8] at H
      have c8b0 : (t451 == 0) = true := beq_iff_eq.mpr c8
      have c8b1 : (t451 != 0) = false := bne_eq_false_iff_eq.mpr c8
      clear c8
      have H' := Aside0.mk H
      clear H
      go_enter Try.func5, Try.ntmps5
      go_wp2_with (first | (go_at_call 14; (with_reducible refine (medlarlaw11_live.calls k  t449 _ A3.out).mono ?_); rintro e w9 ⟨rfl, hb⟩; have n0_ := Aside0.mk (below_step (by repeat (first | (with_reducible first | exact HB.out | apply below_alloc | apply pw_below_drewN | apply below_drew1) | exact HB.out)) hb); clear HB; have HB := n0_; clear n0_; (try clear hb); (try clear hb2); (try clear hk); (try clear hi)) | (go_at_call 15; (with_reducible refine (diff_Cover.calls k a0 _ _ l1 t450 t451 _ ?side1 ?side2 A6.out).mono ?_); (case side1 => repeat (first | exact (Kd.C_below HR1.out HB.out) | (with_reducible refine Kd.C_alloc ?_ _) | (with_reducible refine Kd.C_drewN ?_ _) | (with_reducible refine Kd.C_drew ?_))); (case side2 => exact HC1.out); rintro e w10 ⟨v452, rfl, ho0, hb⟩; have n0_ := Aside0.mk (Kd.R_lower ho0 (below_size (by repeat (first | (with_reducible first | exact HB.out | apply below_alloc | apply pw_below_drewN | apply below_drew1) | exact HB.out)))); have n1_ := Aside0.mk (below_step (by repeat (first | (with_reducible first | exact HB.out | apply below_alloc | apply pw_below_drewN | apply below_drew1) | exact HB.out)) hb); clear HB; have HO453 := n0_; have HB := n1_; clear n0_ n1_; (try clear hb); (try clear hb2); (try clear hk); (try clear hi); (try clear ho0)) | (go_at_call 22; (with_reducible refine (steiner_Forks.calls k a0 _ _ l1 t454 t455 _ ?side1 ?side2 A7.out).mono ?_); (case side1 => repeat (first | exact (Kd.C_below HR1.out HB.out) | (with_reducible refine Kd.C_alloc ?_ _) | (with_reducible refine Kd.C_drewN ?_ _) | (with_reducible refine Kd.C_drew ?_))); (case side2 => exact HC1.out); rintro e w11 ⟨v456, rfl, ho0, hb⟩; have n0_ := Aside0.mk (Kd.R_below (by (with_reducible repeat (first | apply Kd.R_alloc | apply Kd.R_drewN | apply Kd.R_drew)); exact HO453.out) hb); have n1_ := Aside0.mk (Kd.R_lower ho0 (below_size (by repeat (first | (with_reducible first | exact HB.out | apply below_alloc | apply pw_below_drewN | apply below_drew1) | exact HB.out)))); have n2_ := Aside0.mk (below_step (by repeat (first | (with_reducible first | exact HB.out | apply below_alloc | apply pw_below_drewN | apply below_drew1) | exact HB.out)) hb); clear HO453; clear HB; have HO453 := n0_; have HO457 := n1_; have HB := n2_; clear n0_ n1_ n2_; (try clear hb); (try clear hb2); (try clear hk); (try clear hi); (try clear ho0); obtain ⟨Ao12, co12, eo12⟩ := Kd.R_slice HO453.out; subst eo12))
      repeat (go_quiet (first | (go_at_call 14; (with_reducible refine (medlarlaw11_live.calls k  t449 _ A3.out).mono ?_); rintro e w9 ⟨rfl, hb⟩; have n0_ := Aside0.mk (below_step (by repeat (first | (with_reducible first | exact HB.out | apply below_alloc | apply pw_below_drewN | apply below_drew1) | exact HB.out)) hb); clear HB; have HB := n0_; clear n0_; (try clear hb); (try clear hb2); (try clear hk); (try clear hi)) | (go_at_call 15; (with_reducible refine (diff_Cover.calls k a0 _ _ l1 t450 t451 _ ?side1 ?side2 A6.out).mono ?_); (case side1 => repeat (first | exact (Kd.C_below HR1.out HB.out) | (with_reducible refine Kd.C_alloc ?_ _) | (with_reducible refine Kd.C_drewN ?_ _) | (with_reducible refine Kd.C_drew ?_))); (case side2 => exact HC1.out); rintro e w10 ⟨v452, rfl, ho0, hb⟩; have n0_ := Aside0.mk (Kd.R_lower ho0 (below_size (by repeat (first | (with_reducible first | exact HB.out | apply below_alloc | apply pw_below_drewN | apply below_drew1) | exact HB.out)))); have n1_ := Aside0.mk (below_step (by repeat (first | (with_reducible first | exact HB.out | apply below_alloc | apply pw_below_drewN | apply below_drew1) | exact HB.out)) hb); clear HB; have HO453 := n0_; have HB := n1_; clear n0_ n1_; (try clear hb); (try clear hb2); (try clear hk); (try clear hi); (try clear ho0)) | (go_at_call 22; (with_reducible refine (steiner_Forks.calls k a0 _ _ l1 t454 t455 _ ?side1 ?side2 A7.out).mono ?_); (case side1 => repeat (first | exact (Kd.C_below HR1.out HB.out) | (with_reducible refine Kd.C_alloc ?_ _) | (with_reducible refine Kd.C_drewN ?_ _) | (with_reducible refine Kd.C_drew ?_))); (case side2 => exact HC1.out); rintro e w11 ⟨v456, rfl, ho0, hb⟩; have n0_ := Aside0.mk (Kd.R_below (by (with_reducible repeat (first | apply Kd.R_alloc | apply Kd.R_drewN | apply Kd.R_drew)); exact HO453.out) hb); have n1_ := Aside0.mk (Kd.R_lower ho0 (below_size (by repeat (first | (with_reducible first | exact HB.out | apply below_alloc | apply pw_below_drewN | apply below_drew1) | exact HB.out)))); have n2_ := Aside0.mk (below_step (by repeat (first | (with_reducible first | exact HB.out | apply below_alloc | apply pw_below_drewN | apply below_drew1) | exact HB.out)) hb); clear HO453; clear HB; have HO453 := n0_; have HO457 := n1_; have HB := n2_; clear n0_ n1_ n2_; (try clear hb); (try clear hb2); (try clear hk); (try clear hi); (try clear ho0); obtain ⟨Ao12, co12, eo12⟩ := Kd.R_slice HO453.out; subst eo12)); try go_wp2_with (first | (go_at_call 14; (with_reducible refine (medlarlaw11_live.calls k  t449 _ A3.out).mono ?_); rintro e w9 ⟨rfl, hb⟩; have n0_ := Aside0.mk (below_step (by repeat (first | (with_reducible first | exact HB.out | apply below_alloc | apply pw_below_drewN | apply below_drew1) | exact HB.out)) hb); clear HB; have HB := n0_; clear n0_; (try clear hb); (try clear hb2); (try clear hk); (try clear hi)) | (go_at_call 15; (with_reducible refine (diff_Cover.calls k a0 _ _ l1 t450 t451 _ ?side1 ?side2 A6.out).mono ?_); (case side1 => repeat (first | exact (Kd.C_below HR1.out HB.out) | (with_reducible refine Kd.C_alloc ?_ _) | (with_reducible refine Kd.C_drewN ?_ _) | (with_reducible refine Kd.C_drew ?_))); (case side2 => exact HC1.out); rintro e w10 ⟨v452, rfl, ho0, hb⟩; have n0_ := Aside0.mk (Kd.R_lower ho0 (below_size (by repeat (first | (with_reducible first | exact HB.out | apply below_alloc | apply pw_below_drewN | apply below_drew1) | exact HB.out)))); have n1_ := Aside0.mk (below_step (by repeat (first | (with_reducible first | exact HB.out | apply below_alloc | apply pw_below_drewN | apply below_drew1) | exact HB.out)) hb); clear HB; have HO453 := n0_; have HB := n1_; clear n0_ n1_; (try clear hb); (try clear hb2); (try clear hk); (try clear hi); (try clear ho0)) | (go_at_call 22; (with_reducible refine (steiner_Forks.calls k a0 _ _ l1 t454 t455 _ ?side1 ?side2 A7.out).mono ?_); (case side1 => repeat (first | exact (Kd.C_below HR1.out HB.out) | (with_reducible refine Kd.C_alloc ?_ _) | (with_reducible refine Kd.C_drewN ?_ _) | (with_reducible refine Kd.C_drew ?_))); (case side2 => exact HC1.out); rintro e w11 ⟨v456, rfl, ho0, hb⟩; have n0_ := Aside0.mk (Kd.R_below (by (with_reducible repeat (first | apply Kd.R_alloc | apply Kd.R_drewN | apply Kd.R_drew)); exact HO453.out) hb); have n1_ := Aside0.mk (Kd.R_lower ho0 (below_size (by repeat (first | (with_reducible first | exact HB.out | apply below_alloc | apply pw_below_drewN | apply below_drew1) | exact HB.out)))); have n2_ := Aside0.mk (below_step (by repeat (first | (with_reducible first | exact HB.out | apply below_alloc | apply pw_below_drewN | apply below_drew1) | exact HB.out)) hb); clear HO453; clear HB; have HO453 := n0_; have HO457 := n1_; have HB := n2_; clear n0_ n1_ n2_; (try clear hb); (try clear hb2); (try clear hk); (try clear hi); (try clear ho0); obtain ⟨Ao12, co12, eo12⟩ := Kd.R_slice HO453.out; subst eo12)))
      go_loopg [44] k (fun kq v44 w' => ∃ (x44_1 : Int), v44 = .int .i64 x44_1 ∧ Aside0 (medlarlaw11_DiffTops.l0 kq t449 t450 t454 t455 t450 (t450.length : Int) x44_1 = some r) ∧ Aside0 (kq ≤ k) ∧ Aside0 (Kd.R k34 34 w' w.heap.size (fun _ => True) (.slice Ao12 t450.length co12) t450) ∧ Aside0 (Kd.R (Kd.int .u64) 28 w' w.heap.size (fun _ => True) v456 t454) ∧ Aside0 (Kd.R k34 34 w' w.heap.size (fun _ => True) (.slice Ao12 t450.length co12) t450) ∧ Aside0 (Below w.heap.size w w'))
      case atStart => exact ⟨(0), (by first | rfl | (simp; done) | (simp [*]; done)), H', ⟨Nat.le_refl _⟩, ⟨by (with_reducible repeat (first | apply Kd.R_alloc | apply Kd.R_drewN | apply Kd.R_drew)); exact HO453.out⟩, ⟨by (with_reducible repeat (first | apply Kd.R_alloc | apply Kd.R_drewN | apply Kd.R_drew)); exact HO457.out⟩, ⟨by (with_reducible repeat (first | apply Kd.R_alloc | apply Kd.R_drewN | apply Kd.R_drew)); exact HO453.out⟩, ⟨by repeat (first | (with_reducible first | exact HB.out | apply below_alloc | apply pw_below_drewN | apply below_drew1) | exact HB.out)⟩⟩
      case round =>
        clear H'
        try clear c1
        try clear p2
        try clear c4
        try clear c4b0
        try clear c4b1
        try clear c5
        try clear c8
        try clear c8b0
        try clear c8b1
        obtain ⟨x44_1, rfl, HA, HK1, HO_6, HO_8, HO_42, HB⟩ := hrel
        cases gk with
        | zero => exact absurd HA.out (by simp [medlarlaw11_DiffTops.l0])
        | succ k1 =>
          have H := HA.out
          clear HA
          simp only [medlarlaw11_DiffTops.l0] at H
          by_cases c13 : x44_1 < (t450.length : Int)
          · rw [if_pos c13] at H
            have c13b0 : decide (x44_1 < (t450.length : Int)) = true := decide_eq_true c13
            clear c13
            by_cases c14 : 0 ≤ x44_1
            · rw [if_pos c14] at H
              have c14b0 : decide (0 ≤ x44_1) = true := decide_eq_true c14
              clear c14
              by_cases c15 : x44_1 < (t450.length : Int)
              · rw [if_pos c15] at H
                have c15b0 : decide (x44_1 < (t450.length : Int)) = true := decide_eq_true c15
                clear c15
                have H' := Aside0.mk H
                clear H
                have p458 : 0 ≤ (x44_1 : Int) := of_decide_eq_true (by first | (with_reducible assumption) | assumption)
                have q458 : x44_1 < (t450.length : Int) := of_decide_eq_true (by first | (with_reducible assumption) | assumption)
                obtain ⟨ad458, e458, hx458_0, hx458_1⟩ := at_T34 (Kd.R_reads' HO_42.out).2.2 x44_1 p458 q458
                cases e458
                replace p458 := eq_true p458
                replace q458 := eq_true q458
                go_wp2_with (first | ((with_reducible refine gate_dst (N := 11) rfl ?_); refine box_event ?hg (N := 11) ?hd (cs := #[.int .u64 0, .int .u64 0]) (t := 34) ?hr ?_; (case hd => rfl); (case hg => rfl); (case hr => first | (go_simp; done) | (go_simp; rfl)); intro gb459 hg w16 hbox hb; have n0_ := Aside0.mk (Kd.R_below (Kd.R_elderB (by (with_reducible repeat (first | apply Kd.R_alloc | apply Kd.R_drewN | apply Kd.R_drew)); exact HO_6.out) gb459 (Nat.le_of_eq hg.symm)) hb); have n1_ := Aside0.mk (Kd.R_below (by (with_reducible repeat (first | apply Kd.R_alloc | apply Kd.R_drewN | apply Kd.R_drew)); exact HO_8.out) hb); have n2_ := Aside0.mk (Kd.R_below (Kd.R_elderB (by (with_reducible repeat (first | apply Kd.R_alloc | apply Kd.R_drewN | apply Kd.R_drew)); exact HO_42.out) gb459 (Nat.le_of_eq hg.symm)) hb); have n3_ := Aside0.mk (below_step (by repeat (first | (with_reducible first | exact HB.out | apply below_alloc | apply pw_below_drewN | apply below_drew1) | exact HB.out)) hb); have n4_ := Aside0.mk (hbox); have n5_ := Aside0.mk ((by rw [hg]; exact (below_size (by repeat (first | (with_reducible first | exact HB.out | apply below_alloc | apply pw_below_drewN | apply below_drew1) | exact HB.out))) : w.heap.size ≤ gb459)); have n6_ := Aside0.mk ((by rw [hg]; exact (below_size (by repeat (first | (with_reducible first | exact HB.out | apply below_alloc | apply pw_below_drewN | apply below_drew1) | exact HB.out))) : w.heap.size ≤ gb459)); clear HO_6; clear HO_8; clear HO_42; clear HB; have HO_6 := n0_; have HO_8 := n1_; have HO_42 := n2_; have HB := n3_; have BK459 := n4_; have GW459 := n5_; have GE459 := n6_; clear n0_ n1_ n2_ n3_ n4_ n5_ n6_; clear hb hbox hg; have hcz17_0 : w16.cell? ⟨gb459, 0, none⟩ = some (.int .u64 0) := (blk_cell BK459.out 0).trans rfl; have hcz17_1 : w16.cell? ⟨gb459, 1, none⟩ = some (.int .u64 0) := (blk_cell BK459.out 1).trans rfl; have hfz17_0 := blk_frozen BK459.out 0; have hfz17_1 := blk_frozen BK459.out 1; obtain ⟨Ao18, co18, eo18⟩ := Kd.R_slice HO_8.out; subst eo18))
                repeat (go_quiet (first | ((with_reducible refine gate_dst (N := 11) rfl ?_); refine box_event ?hg (N := 11) ?hd (cs := #[.int .u64 0, .int .u64 0]) (t := 34) ?hr ?_; (case hd => rfl); (case hg => rfl); (case hr => first | (go_simp; done) | (go_simp; rfl)); intro gb459 hg w16 hbox hb; have n0_ := Aside0.mk (Kd.R_below (Kd.R_elderB (by (with_reducible repeat (first | apply Kd.R_alloc | apply Kd.R_drewN | apply Kd.R_drew)); exact HO_6.out) gb459 (Nat.le_of_eq hg.symm)) hb); have n1_ := Aside0.mk (Kd.R_below (by (with_reducible repeat (first | apply Kd.R_alloc | apply Kd.R_drewN | apply Kd.R_drew)); exact HO_8.out) hb); have n2_ := Aside0.mk (Kd.R_below (Kd.R_elderB (by (with_reducible repeat (first | apply Kd.R_alloc | apply Kd.R_drewN | apply Kd.R_drew)); exact HO_42.out) gb459 (Nat.le_of_eq hg.symm)) hb); have n3_ := Aside0.mk (below_step (by repeat (first | (with_reducible first | exact HB.out | apply below_alloc | apply pw_below_drewN | apply below_drew1) | exact HB.out)) hb); have n4_ := Aside0.mk (hbox); have n5_ := Aside0.mk ((by rw [hg]; exact (below_size (by repeat (first | (with_reducible first | exact HB.out | apply below_alloc | apply pw_below_drewN | apply below_drew1) | exact HB.out))) : w.heap.size ≤ gb459)); have n6_ := Aside0.mk ((by rw [hg]; exact (below_size (by repeat (first | (with_reducible first | exact HB.out | apply below_alloc | apply pw_below_drewN | apply below_drew1) | exact HB.out))) : w.heap.size ≤ gb459)); clear HO_6; clear HO_8; clear HO_42; clear HB; have HO_6 := n0_; have HO_8 := n1_; have HO_42 := n2_; have HB := n3_; have BK459 := n4_; have GW459 := n5_; have GE459 := n6_; clear n0_ n1_ n2_ n3_ n4_ n5_ n6_; clear hb hbox hg; have hcz17_0 : w16.cell? ⟨gb459, 0, none⟩ = some (.int .u64 0) := (blk_cell BK459.out 0).trans rfl; have hcz17_1 : w16.cell? ⟨gb459, 1, none⟩ = some (.int .u64 0) := (blk_cell BK459.out 1).trans rfl; have hfz17_0 := blk_frozen BK459.out 0; have hfz17_1 := blk_frozen BK459.out 1; obtain ⟨Ao18, co18, eo18⟩ := Kd.R_slice HO_8.out; subst eo18)); try go_wp2_with (first | ((with_reducible refine gate_dst (N := 11) rfl ?_); refine box_event ?hg (N := 11) ?hd (cs := #[.int .u64 0, .int .u64 0]) (t := 34) ?hr ?_; (case hd => rfl); (case hg => rfl); (case hr => first | (go_simp; done) | (go_simp; rfl)); intro gb459 hg w16 hbox hb; have n0_ := Aside0.mk (Kd.R_below (Kd.R_elderB (by (with_reducible repeat (first | apply Kd.R_alloc | apply Kd.R_drewN | apply Kd.R_drew)); exact HO_6.out) gb459 (Nat.le_of_eq hg.symm)) hb); have n1_ := Aside0.mk (Kd.R_below (by (with_reducible repeat (first | apply Kd.R_alloc | apply Kd.R_drewN | apply Kd.R_drew)); exact HO_8.out) hb); have n2_ := Aside0.mk (Kd.R_below (Kd.R_elderB (by (with_reducible repeat (first | apply Kd.R_alloc | apply Kd.R_drewN | apply Kd.R_drew)); exact HO_42.out) gb459 (Nat.le_of_eq hg.symm)) hb); have n3_ := Aside0.mk (below_step (by repeat (first | (with_reducible first | exact HB.out | apply below_alloc | apply pw_below_drewN | apply below_drew1) | exact HB.out)) hb); have n4_ := Aside0.mk (hbox); have n5_ := Aside0.mk ((by rw [hg]; exact (below_size (by repeat (first | (with_reducible first | exact HB.out | apply below_alloc | apply pw_below_drewN | apply below_drew1) | exact HB.out))) : w.heap.size ≤ gb459)); have n6_ := Aside0.mk ((by rw [hg]; exact (below_size (by repeat (first | (with_reducible first | exact HB.out | apply below_alloc | apply pw_below_drewN | apply below_drew1) | exact HB.out))) : w.heap.size ≤ gb459)); clear HO_6; clear HO_8; clear HO_42; clear HB; have HO_6 := n0_; have HO_8 := n1_; have HO_42 := n2_; have HB := n3_; have BK459 := n4_; have GW459 := n5_; have GE459 := n6_; clear n0_ n1_ n2_ n3_ n4_ n5_ n6_; clear hb hbox hg; have hcz17_0 : w16.cell? ⟨gb459, 0, none⟩ = some (.int .u64 0) := (blk_cell BK459.out 0).trans rfl; have hcz17_1 : w16.cell? ⟨gb459, 1, none⟩ = some (.int .u64 0) := (blk_cell BK459.out 1).trans rfl; have hfz17_0 := blk_frozen BK459.out 0; have hfz17_1 := blk_frozen BK459.out 1; obtain ⟨Ao18, co18, eo18⟩ := Kd.R_slice HO_8.out; subst eo18)))
                go_loopg [12, 54] k1 (fun kq v12 v54 w' => ∃ (x12_2 : Bool) (x54_2 : Int), v12 = .bool x12_2 ∧ v54 = .int .i64 x54_2 ∧ Aside0 (medlarlaw11_DiffTops.l1 kq t449 t450 t454 t455 x44_1 x12_2 t450 (t450.length : Int) x44_1 t454 (t454.length : Int) x54_2 ((rd_T34 t450 x44_1).f0) ((rd_T34 t450 x44_1).f1) = some r) ∧ Aside0 (kq ≤ k1) ∧ Aside0 (Kd.R k34 34 w' w.heap.size (fun k_ => k_ ≠ gb459) (.slice (some ad458) t450.length co12) t450) ∧ Aside0 (Kd.R (Kd.int .u64) 28 w' w.heap.size (fun _ => True) (.slice Ao18 t454.length co18) t454) ∧ Aside0 (Kd.R k34 34 w' w.heap.size (fun k_ => k_ ≠ gb459) (.slice (some ad458) t450.length co12) t450) ∧ Aside0 (Kd.R (Kd.int .u64) 28 w' w.heap.size (fun _ => True) (.slice Ao18 t454.length co18) t454) ∧ Aside0 (w'.heap[gb459]? = some (.cells #[.int .u64 ((rd_T34 t450 x44_1).f0), .int .u64 ((rd_T34 t450 x44_1).f1)] 34 (0, 0))) ∧ Aside0 (Below w.heap.size w w'))
                case atStart => exact ⟨((((rd_T34 t450 x44_1).f0) == 1)), (0), (by first | rfl | (simp; done) | (simp [*]; done)), (by first | rfl | (simp; done) | (simp [*]; done)), H', ⟨Nat.le_refl _⟩, ⟨by (with_reducible repeat (first | apply Kd.R_alloc | apply Kd.R_drewN | apply Kd.R_drew)); exact Kd.R_mono (Kd.R_far (p := ⟨gb459, 1, none⟩) (Kd.R_far (p := ⟨gb459, 0, none⟩) (Kd.R_mono HO_6.out (fun k_ hk => (⟨hk, hk.2⟩ : _ ∧ k_ ≠ gb459))) (fun _ hk => hk.2) (.int .u64 ((rd_T34 t450 x44_1).f0))) (fun _ hk => hk.2) (.int .u64 ((rd_T34 t450 x44_1).f1))) (fun _ hk => hk.1.2)⟩, ⟨by (with_reducible repeat (first | apply Kd.R_alloc | apply Kd.R_drewN | apply Kd.R_drew)); exact Kd.R_mono (Kd.R_far (p := ⟨gb459, 1, none⟩) (Kd.R_far (p := ⟨gb459, 0, none⟩) (Kd.R_types HO_8.out BK459.out (by decide)) (fun _ hk => hk.2) (.int .u64 ((rd_T34 t450 x44_1).f0))) (fun _ hk => hk.2) (.int .u64 ((rd_T34 t450 x44_1).f1))) (fun _ hk => trivial)⟩, ⟨by (with_reducible repeat (first | apply Kd.R_alloc | apply Kd.R_drewN | apply Kd.R_drew)); exact Kd.R_mono (Kd.R_far (p := ⟨gb459, 1, none⟩) (Kd.R_far (p := ⟨gb459, 0, none⟩) (Kd.R_mono HO_42.out (fun k_ hk => (⟨hk, hk.2⟩ : _ ∧ k_ ≠ gb459))) (fun _ hk => hk.2) (.int .u64 ((rd_T34 t450 x44_1).f0))) (fun _ hk => hk.2) (.int .u64 ((rd_T34 t450 x44_1).f1))) (fun _ hk => hk.1.2)⟩, ⟨by (with_reducible repeat (first | apply Kd.R_alloc | apply Kd.R_drewN | apply Kd.R_drew)); exact Kd.R_mono (Kd.R_far (p := ⟨gb459, 1, none⟩) (Kd.R_far (p := ⟨gb459, 0, none⟩) (Kd.R_types HO_8.out BK459.out (by decide)) (fun _ hk => hk.2) (.int .u64 ((rd_T34 t450 x44_1).f0))) (fun _ hk => hk.2) (.int .u64 ((rd_T34 t450 x44_1).f1))) (fun _ hk => trivial)⟩, ⟨by (with_reducible repeat (first | refine blk_drewN ?_ _ | refine blk_drew ?_ | refine blk_alloc ?_ _)); refine blk_put (cs := #[.int .u64 ((rd_T34 t450 x44_1).f0), .int .u64 0]) ?_ 1 _ rfl; (with_reducible repeat (first | refine blk_drewN ?_ _ | refine blk_drew ?_ | refine blk_alloc ?_ _)); refine blk_put (cs := #[.int .u64 0, .int .u64 0]) ?_ 0 _ rfl; (with_reducible repeat (first | refine blk_drewN ?_ _ | refine blk_drew ?_ | refine blk_alloc ?_ _)); exact BK459.out⟩, ⟨by repeat (first | (with_reducible first | exact HB.out | apply below_alloc | apply pw_below_drewN | apply below_drew1 | refine below_set ?_ GE459.out) | exact HB.out)⟩⟩
                case round =>
                  clear H'
                  try clear c1
                  try clear p2
                  try clear c4
                  try clear c4b0
                  try clear c4b1
                  try clear p4
                  try clear q4
                  try clear hx4
                  try clear c5
                  try clear c8
                  try clear c8b0
                  try clear c8b1
                  try clear c13
                  try clear c13b0
                  try clear c14
                  try clear c14b0
                  try clear c15
                  try clear c15b0
                  try clear hcz17_0
                  try clear hcz17_1
                  try clear hfz17_0
                  try clear hfz17_1
                  try clear hx458_0
                  try clear hx458_1
                  try clear p2
                  try clear p458
                  try clear q458
                  obtain ⟨x12_2, x54_2, rfl, rfl, HA, HK2, HO_6, HO_8, HO_42, HO_52, BK459, HB⟩ := hrel
                  cases gk with
                  | zero => exact absurd HA.out (by simp [medlarlaw11_DiffTops.l1])
                  | succ k2 =>
                    have H := HA.out
                    clear HA
                    simp only [medlarlaw11_DiffTops.l1] at H
                    by_cases c19 : x54_2 < (t454.length : Int)
                    · rw [if_pos c19] at H
                      have c19b0 : decide (x54_2 < (t454.length : Int)) = true := decide_eq_true c19
                      clear c19
                      by_cases c20 : 0 ≤ x54_2
                      · rw [if_pos c20] at H
                        have c20b0 : decide (0 ≤ x54_2) = true := decide_eq_true c20
                        clear c20
                        by_cases c21 : x54_2 < (t454.length : Int)
                        · rw [if_pos c21] at H
                          have c21b0 : decide (x54_2 < (t454.length : Int)) = true := decide_eq_true c21
                          clear c21
                          by_cases c22 : x12_2 = true
                          · subst c22
                            have H1 : (medlarlaw11_DiffTops.l1 k2 t449 t450 t454 t455 x44_1 true t450 (t450.length : Int) x44_1 t454 (t454.length : Int) (wrap64 (x54_2 + 1)) ((rd_T34 t450 x44_1).f0) ((rd_T34 t450 x44_1).f1)) = some r := by rw [if_pos rfl] at H; exact H
                            clear H
                            have H := H1
                            clear H1
                            have H' := Aside0.mk H
                            clear H
                            have p460 : 0 ≤ (x54_2 : Int) := of_decide_eq_true (by first | (with_reducible assumption) | assumption)
                            have q460 : x54_2 < (t454.length : Int) := of_decide_eq_true (by first | (with_reducible assumption) | assumption)
                            obtain ⟨ad460, e460, hx460_0⟩ := Kd.at_int (Kd.R_reads' HO_52.out).2.2 x54_2 p460 q460
                            cases e460
                            replace p460 := eq_true p460
                            replace q460 := eq_true q460
                            go_wp2
                            repeat (go_quiet (fail); try go_wp2)
                            go_roundg k2
                            case measure => have := HK1.out; have := HK2.out; omega
                            case rel => exact ⟨(true), (wrap64 (x54_2 + 1)), (by first | rfl | (simp; done) | (simp [*]; done)), (by first | rfl | (simp; done) | (simp [*]; done)), H', ⟨by have := HK1.out; have := HK2.out; omega⟩, ⟨by (with_reducible repeat (first | apply Kd.R_alloc | apply Kd.R_drewN | apply Kd.R_drew)); exact HO_6.out⟩, ⟨by (with_reducible repeat (first | apply Kd.R_alloc | apply Kd.R_drewN | apply Kd.R_drew)); exact HO_8.out⟩, ⟨by (with_reducible repeat (first | apply Kd.R_alloc | apply Kd.R_drewN | apply Kd.R_drew)); exact HO_42.out⟩, ⟨by (with_reducible repeat (first | apply Kd.R_alloc | apply Kd.R_drewN | apply Kd.R_drew)); exact HO_52.out⟩, ⟨by (with_reducible repeat (first | refine blk_drewN ?_ _ | refine blk_drew ?_ | refine blk_alloc ?_ _)); exact BK459.out⟩, ⟨by repeat (first | (with_reducible first | exact HB.out | apply below_alloc | apply pw_below_drewN | apply below_drew1 | refine below_set ?_ GE459.out) | exact HB.out)⟩⟩
                          · replace c22 := Bool.eq_false_iff.mpr c22
                            subst c22
                            have H1 : (medlarlaw11_DiffTops.l1 k2 t449 t450 t454 t455 x44_1 ((((rd_T34 t450 x44_1).f0) / 2) == (rd t454 x54_2)) t450 (t450.length : Int) x44_1 t454 (t454.length : Int) (wrap64 (x54_2 + 1)) ((rd_T34 t450 x44_1).f0) ((rd_T34 t450 x44_1).f1)) = some r := by rw [if_neg (show ¬ (false = true) by decide)] at H; exact H
                            clear H
                            have H := H1
                            clear H1
                            have H' := Aside0.mk H
                            clear H
                            have p460 : 0 ≤ (x54_2 : Int) := of_decide_eq_true (by first | (with_reducible assumption) | assumption)
                            have q460 : x54_2 < (t454.length : Int) := of_decide_eq_true (by first | (with_reducible assumption) | assumption)
                            obtain ⟨ad460, e460, hx460_0⟩ := Kd.at_int (Kd.R_reads' HO_52.out).2.2 x54_2 p460 q460
                            cases e460
                            replace p460 := eq_true p460
                            replace q460 := eq_true q460
                            have hcz23_0 : wr.cell? ⟨gb459, 0, none⟩ = some (.int .u64 ((rd_T34 t450 x44_1).f0)) := (blk_cell BK459.out 0).trans rfl
                            have hcz23_1 : wr.cell? ⟨gb459, 1, none⟩ = some (.int .u64 ((rd_T34 t450 x44_1).f1)) := (blk_cell BK459.out 1).trans rfl
                            have hfz23_0 := blk_frozen BK459.out 0
                            have hfz23_1 := blk_frozen BK459.out 1
                            go_wp2
                            repeat (go_quiet (fail); try go_wp2)
                            go_roundg k2
                            case measure => have := HK1.out; have := HK2.out; omega
                            case rel => exact ⟨(((((rd_T34 t450 x44_1).f0) / 2) == (rd t454 x54_2))), (wrap64 (x54_2 + 1)), (by first | rfl | (simp; done) | (simp [*]; done)), (by first | rfl | (simp; done) | (simp [*]; done)), H', ⟨by have := HK1.out; have := HK2.out; omega⟩, ⟨by (with_reducible repeat (first | apply Kd.R_alloc | apply Kd.R_drewN | apply Kd.R_drew)); exact HO_6.out⟩, ⟨by (with_reducible repeat (first | apply Kd.R_alloc | apply Kd.R_drewN | apply Kd.R_drew)); exact HO_8.out⟩, ⟨by (with_reducible repeat (first | apply Kd.R_alloc | apply Kd.R_drewN | apply Kd.R_drew)); exact HO_42.out⟩, ⟨by (with_reducible repeat (first | apply Kd.R_alloc | apply Kd.R_drewN | apply Kd.R_drew)); exact HO_52.out⟩, ⟨by (with_reducible repeat (first | refine blk_drewN ?_ _ | refine blk_drew ?_ | refine blk_alloc ?_ _)); exact BK459.out⟩, ⟨by repeat (first | (with_reducible first | exact HB.out | apply below_alloc | apply pw_below_drewN | apply below_drew1 | refine below_set ?_ GE459.out) | exact HB.out)⟩⟩
                        · rw [if_neg c21] at H
                          exact absurd H (by simp)
                      · rw [if_neg c20] at H
                        exact absurd H (by simp)
                    · rw [if_neg c19] at H
                      have c19b0 : decide (x54_2 < (t454.length : Int)) = false := decide_eq_false c19
                      clear c19
                      have HC24 := Aside0.mk H
                      clear H
                      go_upto_region 17 with (fail)
                      repeat (go_quiet (fail); go_upto_region 17 with (fail))
                      go_cut [83] (fun v83 wc => ∃ (kq : Nat) (x83_23 : Bool), v83 = .bool x83_23 ∧ Aside0 (medlarlaw11_DiffTops.j2 kq t449 t450 t454 t455 t450 (t450.length : Int) x44_1 x83_23 ((rd_T34 t450 x44_1).f0) ((rd_T34 t450 x44_1).f1) = some r) ∧ Aside0 (kq ≤ k2) ∧ Aside0 (Kd.R k34 34 wc w.heap.size (fun k_ => k_ ≠ gb459) (.slice (some ad458) t450.length co12) t450) ∧ Aside0 (Kd.R (Kd.int .u64) 28 wc w.heap.size (fun _ => True) (.slice Ao18 t454.length co18) t454) ∧ Aside0 (Kd.R k34 34 wc w.heap.size (fun k_ => k_ ≠ gb459) (.slice (some ad458) t450.length co12) t450) ∧ Aside0 (wc.heap[gb459]? = some (.cells #[.int .u64 ((rd_T34 t450 x44_1).f0), .int .u64 ((rd_T34 t450 x44_1).f1)] 34 (0, 0))) ∧ Aside0 (Below w.heap.size w wc))
                      case first =>
                        have H := HC24.out
                        clear HC24
                        by_cases c25 : x12_2 = true
                        · subst c25
                          have H1 : (if x44_1 > 0 then (if 0 ≤ (wrap64 (x44_1 - 1)) then (if (wrap64 (x44_1 - 1)) < (t450.length : Int) then (medlarlaw11_DiffTops.j2 k2 t449 t450 t454 t455 t450 (t450.length : Int) x44_1 (((rd_T34 t450 (wrap64 (x44_1 - 1))).f0) == ((rd_T34 t450 x44_1).f0)) ((rd_T34 t450 x44_1).f0) ((rd_T34 t450 x44_1).f1)) else (none)) else (none)) else (medlarlaw11_DiffTops.j2 k2 t449 t450 t454 t455 t450 (t450.length : Int) x44_1 false ((rd_T34 t450 x44_1).f0) ((rd_T34 t450 x44_1).f1))) = some r := by rw [if_pos rfl] at H; exact H
                          clear H
                          have H := H1
                          clear H1
                          by_cases c26 : x44_1 > 0
                          · rw [if_pos c26] at H
                            have c26b0 : decide (0 < x44_1) = true := decide_eq_true c26
                            clear c26
                            (first | rw [c26b0] | (simp only [i64_w, i32_w]; rw [c26b0]) | skip)
                            obtain ⟨ji27, hji27⟩ : ∃ j_ : Int, (wrap64 (x44_1 - 1)) = j_ := ⟨_, rfl⟩
                            replace H : (if 0 ≤ (ji27) then (if (ji27) < (t450.length : Int) then (medlarlaw11_DiffTops.j2 k2 t449 t450 t454 t455 t450 (t450.length : Int) x44_1 (((rd_T34 t450 (ji27)).f0) == ((rd_T34 t450 x44_1).f0)) ((rd_T34 t450 x44_1).f0) ((rd_T34 t450 x44_1).f1)) else (none)) else (none)) = some r := by first | (rw [hji27] at H; exact H) | (simp only [hji27] at H ⊢; exact H)
                            have hji27w : (IntKind.i64.wrap (x44_1 - 1)) = ji27 := (i64_w _).trans hji27
                            by_cases c28 : 0 ≤ (ji27)
                            · rw [if_pos c28] at H
                              have c28b0 : decide (0 ≤ (ji27)) = true := decide_eq_true c28
                              clear c28
                              by_cases c29 : (ji27) < (t450.length : Int)
                              · rw [if_pos c29] at H
                                have c29b0 : decide ((ji27) < (t450.length : Int)) = true := decide_eq_true c29
                                clear c29
                                have H' := Aside0.mk H
                                clear H
                                have p461 : 0 ≤ ((ji27) : Int) := of_decide_eq_true (by first | (with_reducible assumption) | assumption)
                                have q461 : (ji27) < (t450.length : Int) := of_decide_eq_true (by first | (with_reducible assumption) | assumption)
                                obtain ⟨ad461, e461, hx461_0, hx461_1⟩ := at_T34 (Kd.R_reads' HO_6.out).2.2 (ji27) p461 q461
                                obtain rfl : ad458 = ad461 := (by injection e461)
                                replace p461 := eq_true p461
                                replace q461 := eq_true q461
                                have hcz30_0 : wr.cell? ⟨gb459, 0, none⟩ = some (.int .u64 ((rd_T34 t450 x44_1).f0)) := (blk_cell BK459.out 0).trans rfl
                                have hcz30_1 : wr.cell? ⟨gb459, 1, none⟩ = some (.int .u64 ((rd_T34 t450 x44_1).f1)) := (blk_cell BK459.out 1).trans rfl
                                have hfz30_0 := blk_frozen BK459.out 0
                                have hfz30_1 := blk_frozen BK459.out 1
                                go_wp2
                                repeat (go_quiet (fail); try go_wp2)
                                go_meet
                                case rel => exact ⟨_, ((((rd_T34 t450 (ji27)).f0) == ((rd_T34 t450 x44_1).f0))), (by first | rfl | (simp; done) | (simp only [← hji27] <;> (first | rfl | simp)) | (simp [*]; done)), H', ⟨by have := HK1.out; have := HK2.out; first | omega | exact Nat.le_refl _⟩, ⟨by (with_reducible repeat (first | apply Kd.R_alloc | apply Kd.R_drewN | apply Kd.R_drew)); exact HO_6.out⟩, ⟨by (with_reducible repeat (first | apply Kd.R_alloc | apply Kd.R_drewN | apply Kd.R_drew)); exact HO_8.out⟩, ⟨by (with_reducible repeat (first | apply Kd.R_alloc | apply Kd.R_drewN | apply Kd.R_drew)); exact HO_42.out⟩, ⟨by (with_reducible repeat (first | refine blk_drewN ?_ _ | refine blk_drew ?_ | refine blk_alloc ?_ _)); exact BK459.out⟩, ⟨by repeat (first | (with_reducible first | exact HB.out | apply below_alloc | apply pw_below_drewN | apply below_drew1 | refine below_set ?_ GE459.out) | exact HB.out)⟩⟩
                              · rw [if_neg c29] at H
                                exact absurd H (by simp)
                            · rw [if_neg c28] at H
                              exact absurd H (by simp)
                          · rw [if_neg c26] at H
                            have c26b0 : decide (0 < x44_1) = false := decide_eq_false c26
                            clear c26
                            (first | rw [c26b0] | (simp only [i64_w, i32_w]; rw [c26b0]) | skip)
                            have H' := Aside0.mk H
                            clear H
                            go_wp2
                            repeat (go_quiet (fail); try go_wp2)
                            go_meet
                            case rel => exact ⟨_, (false), (by first | rfl | (simp; done) | (simp [*]; done)), H', ⟨by have := HK1.out; have := HK2.out; first | omega | exact Nat.le_refl _⟩, ⟨by (with_reducible repeat (first | apply Kd.R_alloc | apply Kd.R_drewN | apply Kd.R_drew)); exact HO_6.out⟩, ⟨by (with_reducible repeat (first | apply Kd.R_alloc | apply Kd.R_drewN | apply Kd.R_drew)); exact HO_8.out⟩, ⟨by (with_reducible repeat (first | apply Kd.R_alloc | apply Kd.R_drewN | apply Kd.R_drew)); exact HO_42.out⟩, ⟨by (with_reducible repeat (first | refine blk_drewN ?_ _ | refine blk_drew ?_ | refine blk_alloc ?_ _)); exact BK459.out⟩, ⟨by repeat (first | (with_reducible first | exact HB.out | apply below_alloc | apply pw_below_drewN | apply below_drew1 | refine below_set ?_ GE459.out) | exact HB.out)⟩⟩
                        · replace c25 := Bool.eq_false_iff.mpr c25
                          subst c25
                          have H1 : (medlarlaw11_DiffTops.j2 k2 t449 t450 t454 t455 t450 (t450.length : Int) x44_1 true ((rd_T34 t450 x44_1).f0) ((rd_T34 t450 x44_1).f1)) = some r := by rw [if_neg (show ¬ (false = true) by decide)] at H; exact H
                          clear H
                          have H := H1
                          clear H1
                          have H' := Aside0.mk H
                          clear H
                          go_wp2
                          repeat (go_quiet (fail); try go_wp2)
                          go_meet
                          case rel => exact ⟨_, (true), (by first | rfl | (simp; done) | (simp [*]; done)), H', ⟨by have := HK1.out; have := HK2.out; first | omega | exact Nat.le_refl _⟩, ⟨by (with_reducible repeat (first | apply Kd.R_alloc | apply Kd.R_drewN | apply Kd.R_drew)); exact HO_6.out⟩, ⟨by (with_reducible repeat (first | apply Kd.R_alloc | apply Kd.R_drewN | apply Kd.R_drew)); exact HO_8.out⟩, ⟨by (with_reducible repeat (first | apply Kd.R_alloc | apply Kd.R_drewN | apply Kd.R_drew)); exact HO_42.out⟩, ⟨by (with_reducible repeat (first | refine blk_drewN ?_ _ | refine blk_drew ?_ | refine blk_alloc ?_ _)); exact BK459.out⟩, ⟨by repeat (first | (with_reducible first | exact HB.out | apply below_alloc | apply pw_below_drewN | apply below_drew1 | refine below_set ?_ GE459.out) | exact HB.out)⟩⟩
                      case rest =>
                        clear HC24
                        try clear c1
                        try clear c2
                        try clear p2
                        try clear c4
                        try clear c4b0
                        try clear c4b1
                        try clear p4
                        try clear q4
                        try clear hx4
                        try clear c5
                        try clear p6
                        try clear c8
                        try clear c8b0
                        try clear c8b1
                        try clear c13
                        try clear c13b0
                        try clear c14
                        try clear c14b0
                        try clear c15
                        try clear c15b0
                        try clear c19
                        try clear c19b0
                        try clear c20
                        try clear c20b0
                        try clear c21
                        try clear c21b0
                        try clear c22
                        try clear c25
                        try clear c26
                        try clear c26b0
                        try clear c28
                        try clear c28b0
                        try clear c29
                        try clear c29b0
                        try clear hcz17_0
                        try clear hcz17_1
                        try clear hcz23_0
                        try clear hcz23_1
                        try clear hcz30_0
                        try clear hcz30_1
                        try clear hfz17_0
                        try clear hfz17_1
                        try clear hfz23_0
                        try clear hfz23_1
                        try clear hfz30_0
                        try clear hfz30_1
                        try clear hx458_0
                        try clear hx458_1
                        try clear hx460_0
                        try clear hx461_0
                        try clear hx461_1
                        try clear p2
                        try clear p4
                        try clear p458
                        try clear p460
                        try clear p461
                        try clear q4
                        try clear q458
                        try clear q460
                        try clear q461
                        obtain ⟨kq, x83_23, rfl, HA, HJ23, HO_6, HO_8, HO_42, BK459, HB⟩ := hcut
                        cases kq with
                        | zero => exact absurd HA.out (by simp [medlarlaw11_DiffTops.j2])
                        | succ kj23 =>
                          have H := HA.out
                          clear HA
                          simp only [medlarlaw11_DiffTops.j2] at H
                          by_cases c31 : x83_23 = true
                          · subst c31
                            have H1 : (some false) = some r := by rw [if_pos rfl] at H; exact H
                            clear H
                            have H := H1
                            clear H1
                            exact absurd ((Option.some.inj H).trans hT.out) Bool.false_ne_true
                          · replace c31 := Bool.eq_false_iff.mpr c31
                            subst c31
                            have H1 : (medlarlaw11_DiffTops.l2 kj23 t449 t450 t454 t455 t450 (t450.length : Int) x44_1 t450 (t450.length : Int) 0 ((rd_T34 t450 x44_1).f0) ((rd_T34 t450 x44_1).f1)) = some r := by rw [if_neg (show ¬ (false = true) by decide)] at H; exact H
                            clear H
                            have H := H1
                            clear H1
                            have H' := Aside0.mk H
                            clear H
                            go_wp2
                            repeat (go_quiet (fail); try go_wp2)
                            go_loopg [86] kj23 (fun kq v86 w' => ∃ (x86_4 : Int), v86 = .int .i64 x86_4 ∧ Aside0 (medlarlaw11_DiffTops.l2 kq t449 t450 t454 t455 t450 (t450.length : Int) x44_1 t450 (t450.length : Int) x86_4 ((rd_T34 t450 x44_1).f0) ((rd_T34 t450 x44_1).f1) = some r) ∧ Aside0 (kq ≤ kj23) ∧ Aside0 (Kd.R k34 34 w' w.heap.size (fun k_ => k_ ≠ gb459) (.slice (some ad458) t450.length co12) t450) ∧ Aside0 (Kd.R (Kd.int .u64) 28 w' w.heap.size (fun _ => True) (.slice Ao18 t454.length co18) t454) ∧ Aside0 (Kd.R k34 34 w' w.heap.size (fun k_ => k_ ≠ gb459) (.slice (some ad458) t450.length co12) t450) ∧ Aside0 (Kd.R k34 34 w' w.heap.size (fun k_ => k_ ≠ gb459) (.slice (some ad458) t450.length co12) t450) ∧ Aside0 (w'.heap[gb459]? = some (.cells #[.int .u64 ((rd_T34 t450 x44_1).f0), .int .u64 ((rd_T34 t450 x44_1).f1)] 34 (0, 0))) ∧ Aside0 (Below w.heap.size w w'))
                            case atStart => exact ⟨(0), (by first | rfl | (simp; done) | (simp [*]; done)), H', ⟨Nat.le_refl _⟩, ⟨by (with_reducible repeat (first | apply Kd.R_alloc | apply Kd.R_drewN | apply Kd.R_drew)); exact HO_6.out⟩, ⟨by (with_reducible repeat (first | apply Kd.R_alloc | apply Kd.R_drewN | apply Kd.R_drew)); exact HO_8.out⟩, ⟨by (with_reducible repeat (first | apply Kd.R_alloc | apply Kd.R_drewN | apply Kd.R_drew)); exact HO_42.out⟩, ⟨by (with_reducible repeat (first | apply Kd.R_alloc | apply Kd.R_drewN | apply Kd.R_drew)); exact HO_6.out⟩, ⟨by (with_reducible repeat (first | refine blk_drewN ?_ _ | refine blk_drew ?_ | refine blk_alloc ?_ _)); exact BK459.out⟩, ⟨by repeat (first | (with_reducible first | exact HB.out | apply below_alloc | apply pw_below_drewN | apply below_drew1 | refine below_set ?_ GE459.out) | exact HB.out)⟩⟩
                            case round =>
                              clear H'
                              try clear c1
                              try clear c2
                              try clear p2
                              try clear c3
                              try clear c4
                              try clear c4b0
                              try clear c4b1
                              try clear p4
                              try clear q4
                              try clear hx4
                              try clear c5
                              try clear p6
                              try clear c8
                              try clear c8b0
                              try clear c8b1
                              try clear c13
                              try clear c13b0
                              try clear c14
                              try clear c14b0
                              try clear c15
                              try clear c15b0
                              try clear c19
                              try clear c19b0
                              try clear c20
                              try clear c20b0
                              try clear c21
                              try clear c21b0
                              try clear c22
                              try clear c25
                              try clear c26
                              try clear c26b0
                              try clear c28
                              try clear c28b0
                              try clear c29
                              try clear c29b0
                              try clear c31
                              try clear hcz17_0
                              try clear hcz17_1
                              try clear hcz23_0
                              try clear hcz23_1
                              try clear hcz30_0
                              try clear hcz30_1
                              try clear hfz17_0
                              try clear hfz17_1
                              try clear hfz23_0
                              try clear hfz23_1
                              try clear hfz30_0
                              try clear hfz30_1
                              try clear hx458_0
                              try clear hx458_1
                              try clear hx460_0
                              try clear hx461_0
                              try clear hx461_1
                              try clear p2
                              try clear p4
                              try clear p458
                              try clear p460
                              try clear p461
                              try clear p6
                              try clear q4
                              try clear q458
                              try clear q460
                              try clear q461
                              obtain ⟨x86_4, rfl, HA, HK4, HO_6, HO_8, HO_42, HO_84, BK459, HB⟩ := hrel
                              cases gk with
                              | zero => exact absurd HA.out (by simp [medlarlaw11_DiffTops.l2])
                              | succ k4 =>
                                have H := HA.out
                                clear HA
                                simp only [medlarlaw11_DiffTops.l2] at H
                                by_cases c32 : x86_4 < (t450.length : Int)
                                · rw [if_pos c32] at H
                                  have c32b0 : decide (x86_4 < (t450.length : Int)) = true := decide_eq_true c32
                                  clear c32
                                  by_cases c33 : 0 ≤ x86_4
                                  · rw [if_pos c33] at H
                                    have c33b0 : decide (0 ≤ x86_4) = true := decide_eq_true c33
                                    clear c33
                                    by_cases c34 : x86_4 < (t450.length : Int)
                                    · rw [if_pos c34] at H
                                      have c34b0 : decide (x86_4 < (t450.length : Int)) = true := decide_eq_true c34
                                      clear c34
                                      by_cases c35 : ((rd_T34 t450 x86_4).f1) = ((rd_T34 t450 x44_1).f0)
                                      · rw [if_pos c35] at H
                                        have c35b0 : (((rd_T34 t450 x86_4).f1) == ((rd_T34 t450 x44_1).f0)) = true := beq_iff_eq.mpr c35
                                        have c35b1 : (((rd_T34 t450 x86_4).f1) != ((rd_T34 t450 x44_1).f0)) = false := bne_eq_false_iff_eq.mpr c35
                                        clear c35
                                        exact absurd ((Option.some.inj H).trans hT.out) Bool.false_ne_true
                                      · rw [if_neg c35] at H
                                        have c35b0 : (((rd_T34 t450 x86_4).f1) == ((rd_T34 t450 x44_1).f0)) = false := beq_eq_false_iff_ne.mpr c35
                                        have c35b1 : (((rd_T34 t450 x86_4).f1) != ((rd_T34 t450 x44_1).f0)) = true := bne_iff_ne.mpr c35
                                        have H' := Aside0.mk H
                                        clear H
                                        have p462 : 0 ≤ (x86_4 : Int) := of_decide_eq_true (by first | (with_reducible assumption) | assumption)
                                        have q462 : x86_4 < (t450.length : Int) := of_decide_eq_true (by first | (with_reducible assumption) | assumption)
                                        obtain ⟨ad462, e462, hx462_0, hx462_1⟩ := at_T34 (Kd.R_reads' HO_84.out).2.2 x86_4 p462 q462
                                        obtain rfl : ad458 = ad462 := (by injection e462)
                                        replace p462 := eq_true p462
                                        replace q462 := eq_true q462
                                        go_wp2_with (first | ((with_reducible refine gate_dst (N := 16) rfl ?_); refine box_event ?hg (N := 16) ?hd (cs := #[.int .u64 0, .int .u64 0]) (t := 34) ?hr ?_; (case hd => rfl); (case hg => rfl); (case hr => first | (go_simp; done) | (go_simp; rfl)); intro gb463 hg w36 hbox hb; have n0_ := Aside0.mk (Kd.R_below (Kd.R_elderB (by (with_reducible repeat (first | apply Kd.R_alloc | apply Kd.R_drewN | apply Kd.R_drew)); exact HO_6.out) gb463 (Nat.le_of_eq hg.symm)) hb); have n1_ := Aside0.mk (Kd.R_below (by (with_reducible repeat (first | apply Kd.R_alloc | apply Kd.R_drewN | apply Kd.R_drew)); exact HO_8.out) hb); have n2_ := Aside0.mk (Kd.R_below (Kd.R_elderB (by (with_reducible repeat (first | apply Kd.R_alloc | apply Kd.R_drewN | apply Kd.R_drew)); exact HO_42.out) gb463 (Nat.le_of_eq hg.symm)) hb); have n3_ := Aside0.mk (Kd.R_below (Kd.R_elderB (by (with_reducible repeat (first | apply Kd.R_alloc | apply Kd.R_drewN | apply Kd.R_drew)); exact HO_84.out) gb463 (Nat.le_of_eq hg.symm)) hb); have n4_ := Aside0.mk (blk_below (g := gb459) (o := .cells #[.int .u64 ((rd_T34 t450 x44_1).f0), .int .u64 ((rd_T34 t450 x44_1).f1)] 34 (0, 0)) (by (with_reducible repeat (first | refine blk_drewN ?_ _ | refine blk_drew ?_ | refine blk_alloc ?_ _)); exact BK459.out) hb); have n5_ := Aside0.mk (below_step (by repeat (first | (with_reducible first | exact HB.out | apply below_alloc | apply pw_below_drewN | apply below_drew1 | refine below_set ?_ GE459.out) | exact HB.out)) hb); have n6_ := Aside0.mk (hbox); have n7_ := Aside0.mk ((by rw [hg]; exact (below_size (by repeat (first | (with_reducible first | exact HB.out | apply below_alloc | apply pw_below_drewN | apply below_drew1 | refine below_set ?_ GE459.out) | exact HB.out))) : w.heap.size ≤ gb463)); have n8_ := Aside0.mk ((by rw [hg]; exact (below_size (by repeat (first | (with_reducible first | exact HB.out | apply below_alloc | apply pw_below_drewN | apply below_drew1 | refine below_set ?_ GE459.out) | exact HB.out))) : w.heap.size ≤ gb463)); have n9_ := Aside0.mk ((by rw [hg]; exact Nat.ne_of_lt (blk_lt (g := gb459) (o := .cells #[.int .u64 ((rd_T34 t450 x44_1).f0), .int .u64 ((rd_T34 t450 x44_1).f1)] 34 (0, 0)) (by (with_reducible repeat (first | refine blk_drewN ?_ _ | refine blk_drew ?_ | refine blk_alloc ?_ _)); exact BK459.out)) : gb459 ≠ gb463)); have n10_ := Aside0.mk ((by rw [hg]; exact Nat.ne_of_gt (blk_lt (g := gb459) (o := .cells #[.int .u64 ((rd_T34 t450 x44_1).f0), .int .u64 ((rd_T34 t450 x44_1).f1)] 34 (0, 0)) (by (with_reducible repeat (first | refine blk_drewN ?_ _ | refine blk_drew ?_ | refine blk_alloc ?_ _)); exact BK459.out)) : gb463 ≠ gb459)); clear HO_6; clear HO_8; clear HO_42; clear HO_84; clear BK459; clear HB; have HO_6 := n0_; have HO_8 := n1_; have HO_42 := n2_; have HO_84 := n3_; have BK459 := n4_; have HB := n5_; have BK463 := n6_; have GW463 := n7_; have GE463 := n8_; have NB459_463 := n9_; have NB463_459 := n10_; clear n0_ n1_ n2_ n3_ n4_ n5_ n6_ n7_ n8_ n9_ n10_; clear hb hbox hg; have hnb37 := NB463_459.out; have hnc37 := NB459_463.out; have hcz38_0 : w36.cell? ⟨gb463, 0, none⟩ = some (.int .u64 0) := (blk_cell BK463.out 0).trans rfl; have hcz38_1 : w36.cell? ⟨gb463, 1, none⟩ = some (.int .u64 0) := (blk_cell BK463.out 1).trans rfl; have hfz38_0 := blk_frozen BK463.out 0; have hfz38_1 := blk_frozen BK463.out 1; have hcz39_0 : w36.cell? ⟨gb459, 0, none⟩ = some (.int .u64 ((rd_T34 t450 x44_1).f0)) := (blk_cell BK459.out 0).trans rfl; have hcz39_1 : w36.cell? ⟨gb459, 1, none⟩ = some (.int .u64 ((rd_T34 t450 x44_1).f1)) := (blk_cell BK459.out 1).trans rfl; have hfz39_0 := blk_frozen BK459.out 0; have hfz39_1 := blk_frozen BK459.out 1))
                                        repeat (go_quiet (first | ((with_reducible refine gate_dst (N := 16) rfl ?_); refine box_event ?hg (N := 16) ?hd (cs := #[.int .u64 0, .int .u64 0]) (t := 34) ?hr ?_; (case hd => rfl); (case hg => rfl); (case hr => first | (go_simp; done) | (go_simp; rfl)); intro gb463 hg w36 hbox hb; have n0_ := Aside0.mk (Kd.R_below (Kd.R_elderB (by (with_reducible repeat (first | apply Kd.R_alloc | apply Kd.R_drewN | apply Kd.R_drew)); exact HO_6.out) gb463 (Nat.le_of_eq hg.symm)) hb); have n1_ := Aside0.mk (Kd.R_below (by (with_reducible repeat (first | apply Kd.R_alloc | apply Kd.R_drewN | apply Kd.R_drew)); exact HO_8.out) hb); have n2_ := Aside0.mk (Kd.R_below (Kd.R_elderB (by (with_reducible repeat (first | apply Kd.R_alloc | apply Kd.R_drewN | apply Kd.R_drew)); exact HO_42.out) gb463 (Nat.le_of_eq hg.symm)) hb); have n3_ := Aside0.mk (Kd.R_below (Kd.R_elderB (by (with_reducible repeat (first | apply Kd.R_alloc | apply Kd.R_drewN | apply Kd.R_drew)); exact HO_84.out) gb463 (Nat.le_of_eq hg.symm)) hb); have n4_ := Aside0.mk (blk_below (g := gb459) (o := .cells #[.int .u64 ((rd_T34 t450 x44_1).f0), .int .u64 ((rd_T34 t450 x44_1).f1)] 34 (0, 0)) (by (with_reducible repeat (first | refine blk_drewN ?_ _ | refine blk_drew ?_ | refine blk_alloc ?_ _)); exact BK459.out) hb); have n5_ := Aside0.mk (below_step (by repeat (first | (with_reducible first | exact HB.out | apply below_alloc | apply pw_below_drewN | apply below_drew1 | refine below_set ?_ GE459.out) | exact HB.out)) hb); have n6_ := Aside0.mk (hbox); have n7_ := Aside0.mk ((by rw [hg]; exact (below_size (by repeat (first | (with_reducible first | exact HB.out | apply below_alloc | apply pw_below_drewN | apply below_drew1 | refine below_set ?_ GE459.out) | exact HB.out))) : w.heap.size ≤ gb463)); have n8_ := Aside0.mk ((by rw [hg]; exact (below_size (by repeat (first | (with_reducible first | exact HB.out | apply below_alloc | apply pw_below_drewN | apply below_drew1 | refine below_set ?_ GE459.out) | exact HB.out))) : w.heap.size ≤ gb463)); have n9_ := Aside0.mk ((by rw [hg]; exact Nat.ne_of_lt (blk_lt (g := gb459) (o := .cells #[.int .u64 ((rd_T34 t450 x44_1).f0), .int .u64 ((rd_T34 t450 x44_1).f1)] 34 (0, 0)) (by (with_reducible repeat (first | refine blk_drewN ?_ _ | refine blk_drew ?_ | refine blk_alloc ?_ _)); exact BK459.out)) : gb459 ≠ gb463)); have n10_ := Aside0.mk ((by rw [hg]; exact Nat.ne_of_gt (blk_lt (g := gb459) (o := .cells #[.int .u64 ((rd_T34 t450 x44_1).f0), .int .u64 ((rd_T34 t450 x44_1).f1)] 34 (0, 0)) (by (with_reducible repeat (first | refine blk_drewN ?_ _ | refine blk_drew ?_ | refine blk_alloc ?_ _)); exact BK459.out)) : gb463 ≠ gb459)); clear HO_6; clear HO_8; clear HO_42; clear HO_84; clear BK459; clear HB; have HO_6 := n0_; have HO_8 := n1_; have HO_42 := n2_; have HO_84 := n3_; have BK459 := n4_; have HB := n5_; have BK463 := n6_; have GW463 := n7_; have GE463 := n8_; have NB459_463 := n9_; have NB463_459 := n10_; clear n0_ n1_ n2_ n3_ n4_ n5_ n6_ n7_ n8_ n9_ n10_; clear hb hbox hg; have hnb37 := NB463_459.out; have hnc37 := NB459_463.out; have hcz38_0 : w36.cell? ⟨gb463, 0, none⟩ = some (.int .u64 0) := (blk_cell BK463.out 0).trans rfl; have hcz38_1 : w36.cell? ⟨gb463, 1, none⟩ = some (.int .u64 0) := (blk_cell BK463.out 1).trans rfl; have hfz38_0 := blk_frozen BK463.out 0; have hfz38_1 := blk_frozen BK463.out 1; have hcz39_0 : w36.cell? ⟨gb459, 0, none⟩ = some (.int .u64 ((rd_T34 t450 x44_1).f0)) := (blk_cell BK459.out 0).trans rfl; have hcz39_1 : w36.cell? ⟨gb459, 1, none⟩ = some (.int .u64 ((rd_T34 t450 x44_1).f1)) := (blk_cell BK459.out 1).trans rfl; have hfz39_0 := blk_frozen BK459.out 0; have hfz39_1 := blk_frozen BK459.out 1)); try go_wp2_with (first | ((with_reducible refine gate_dst (N := 16) rfl ?_); refine box_event ?hg (N := 16) ?hd (cs := #[.int .u64 0, .int .u64 0]) (t := 34) ?hr ?_; (case hd => rfl); (case hg => rfl); (case hr => first | (go_simp; done) | (go_simp; rfl)); intro gb463 hg w36 hbox hb; have n0_ := Aside0.mk (Kd.R_below (Kd.R_elderB (by (with_reducible repeat (first | apply Kd.R_alloc | apply Kd.R_drewN | apply Kd.R_drew)); exact HO_6.out) gb463 (Nat.le_of_eq hg.symm)) hb); have n1_ := Aside0.mk (Kd.R_below (by (with_reducible repeat (first | apply Kd.R_alloc | apply Kd.R_drewN | apply Kd.R_drew)); exact HO_8.out) hb); have n2_ := Aside0.mk (Kd.R_below (Kd.R_elderB (by (with_reducible repeat (first | apply Kd.R_alloc | apply Kd.R_drewN | apply Kd.R_drew)); exact HO_42.out) gb463 (Nat.le_of_eq hg.symm)) hb); have n3_ := Aside0.mk (Kd.R_below (Kd.R_elderB (by (with_reducible repeat (first | apply Kd.R_alloc | apply Kd.R_drewN | apply Kd.R_drew)); exact HO_84.out) gb463 (Nat.le_of_eq hg.symm)) hb); have n4_ := Aside0.mk (blk_below (g := gb459) (o := .cells #[.int .u64 ((rd_T34 t450 x44_1).f0), .int .u64 ((rd_T34 t450 x44_1).f1)] 34 (0, 0)) (by (with_reducible repeat (first | refine blk_drewN ?_ _ | refine blk_drew ?_ | refine blk_alloc ?_ _)); exact BK459.out) hb); have n5_ := Aside0.mk (below_step (by repeat (first | (with_reducible first | exact HB.out | apply below_alloc | apply pw_below_drewN | apply below_drew1 | refine below_set ?_ GE459.out) | exact HB.out)) hb); have n6_ := Aside0.mk (hbox); have n7_ := Aside0.mk ((by rw [hg]; exact (below_size (by repeat (first | (with_reducible first | exact HB.out | apply below_alloc | apply pw_below_drewN | apply below_drew1 | refine below_set ?_ GE459.out) | exact HB.out))) : w.heap.size ≤ gb463)); have n8_ := Aside0.mk ((by rw [hg]; exact (below_size (by repeat (first | (with_reducible first | exact HB.out | apply below_alloc | apply pw_below_drewN | apply below_drew1 | refine below_set ?_ GE459.out) | exact HB.out))) : w.heap.size ≤ gb463)); have n9_ := Aside0.mk ((by rw [hg]; exact Nat.ne_of_lt (blk_lt (g := gb459) (o := .cells #[.int .u64 ((rd_T34 t450 x44_1).f0), .int .u64 ((rd_T34 t450 x44_1).f1)] 34 (0, 0)) (by (with_reducible repeat (first | refine blk_drewN ?_ _ | refine blk_drew ?_ | refine blk_alloc ?_ _)); exact BK459.out)) : gb459 ≠ gb463)); have n10_ := Aside0.mk ((by rw [hg]; exact Nat.ne_of_gt (blk_lt (g := gb459) (o := .cells #[.int .u64 ((rd_T34 t450 x44_1).f0), .int .u64 ((rd_T34 t450 x44_1).f1)] 34 (0, 0)) (by (with_reducible repeat (first | refine blk_drewN ?_ _ | refine blk_drew ?_ | refine blk_alloc ?_ _)); exact BK459.out)) : gb463 ≠ gb459)); clear HO_6; clear HO_8; clear HO_42; clear HO_84; clear BK459; clear HB; have HO_6 := n0_; have HO_8 := n1_; have HO_42 := n2_; have HO_84 := n3_; have BK459 := n4_; have HB := n5_; have BK463 := n6_; have GW463 := n7_; have GE463 := n8_; have NB459_463 := n9_; have NB463_459 := n10_; clear n0_ n1_ n2_ n3_ n4_ n5_ n6_ n7_ n8_ n9_ n10_; clear hb hbox hg; have hnb37 := NB463_459.out; have hnc37 := NB459_463.out; have hcz38_0 : w36.cell? ⟨gb463, 0, none⟩ = some (.int .u64 0) := (blk_cell BK463.out 0).trans rfl; have hcz38_1 : w36.cell? ⟨gb463, 1, none⟩ = some (.int .u64 0) := (blk_cell BK463.out 1).trans rfl; have hfz38_0 := blk_frozen BK463.out 0; have hfz38_1 := blk_frozen BK463.out 1; have hcz39_0 : w36.cell? ⟨gb459, 0, none⟩ = some (.int .u64 ((rd_T34 t450 x44_1).f0)) := (blk_cell BK459.out 0).trans rfl; have hcz39_1 : w36.cell? ⟨gb459, 1, none⟩ = some (.int .u64 ((rd_T34 t450 x44_1).f1)) := (blk_cell BK459.out 1).trans rfl; have hfz39_0 := blk_frozen BK459.out 0; have hfz39_1 := blk_frozen BK459.out 1)))
                                        go_roundg k4
                                        case measure => have := HK1.out; have := HK2.out; have := HJ23.out; have := HK4.out; omega
                                        case rel => exact ⟨(wrap64 (x86_4 + 1)), (by first | rfl | (simp; done) | (simp [*]; done)), H', ⟨by have := HK1.out; have := HK2.out; have := HJ23.out; have := HK4.out; omega⟩, ⟨by (with_reducible repeat (first | apply Kd.R_alloc | apply Kd.R_drewN | apply Kd.R_drew)); exact Kd.R_mono (Kd.R_far (p := ⟨gb463, 1, none⟩) (Kd.R_far (p := ⟨gb463, 0, none⟩) (Kd.R_mono HO_6.out (fun k_ hk => (⟨hk, hk.2⟩ : _ ∧ k_ ≠ gb463))) (fun _ hk => hk.2) (.int .u64 ((rd_T34 t450 x86_4).f0))) (fun _ hk => hk.2) (.int .u64 ((rd_T34 t450 x86_4).f1))) (fun _ hk => hk.1.1)⟩, ⟨by (with_reducible repeat (first | apply Kd.R_alloc | apply Kd.R_drewN | apply Kd.R_drew)); exact Kd.R_mono (Kd.R_far (p := ⟨gb463, 1, none⟩) (Kd.R_far (p := ⟨gb463, 0, none⟩) (Kd.R_types HO_8.out BK463.out (by decide)) (fun _ hk => hk.2) (.int .u64 ((rd_T34 t450 x86_4).f0))) (fun _ hk => hk.2) (.int .u64 ((rd_T34 t450 x86_4).f1))) (fun _ hk => trivial)⟩, ⟨by (with_reducible repeat (first | apply Kd.R_alloc | apply Kd.R_drewN | apply Kd.R_drew)); exact Kd.R_mono (Kd.R_far (p := ⟨gb463, 1, none⟩) (Kd.R_far (p := ⟨gb463, 0, none⟩) (Kd.R_mono HO_42.out (fun k_ hk => (⟨hk, hk.2⟩ : _ ∧ k_ ≠ gb463))) (fun _ hk => hk.2) (.int .u64 ((rd_T34 t450 x86_4).f0))) (fun _ hk => hk.2) (.int .u64 ((rd_T34 t450 x86_4).f1))) (fun _ hk => hk.1.1)⟩, ⟨by (with_reducible repeat (first | apply Kd.R_alloc | apply Kd.R_drewN | apply Kd.R_drew)); exact Kd.R_mono (Kd.R_far (p := ⟨gb463, 1, none⟩) (Kd.R_far (p := ⟨gb463, 0, none⟩) (Kd.R_mono HO_84.out (fun k_ hk => (⟨hk, hk.2⟩ : _ ∧ k_ ≠ gb463))) (fun _ hk => hk.2) (.int .u64 ((rd_T34 t450 x86_4).f0))) (fun _ hk => hk.2) (.int .u64 ((rd_T34 t450 x86_4).f1))) (fun _ hk => hk.1.1)⟩, ⟨by (with_reducible repeat (first | refine blk_drewN ?_ _ | refine blk_drew ?_ | refine blk_alloc ?_ _)); refine blk_far ?_ NB459_463.out _; (with_reducible repeat (first | refine blk_drewN ?_ _ | refine blk_drew ?_ | refine blk_alloc ?_ _)); refine blk_far ?_ NB459_463.out _; (with_reducible repeat (first | refine blk_drewN ?_ _ | refine blk_drew ?_ | refine blk_alloc ?_ _)); exact BK459.out⟩, ⟨by repeat (first | (with_reducible first | exact HB.out | apply below_alloc | apply pw_below_drewN | apply below_drew1 | refine below_set ?_ GE459.out | refine below_set ?_ GE463.out) | exact HB.out)⟩⟩
                                    · rw [if_neg c34] at H
                                      exact absurd H (by simp)
                                  · rw [if_neg c33] at H
                                    exact absurd H (by simp)
                                · rw [if_neg c32] at H
                                  have c32b0 : decide (x86_4 < (t450.length : Int)) = false := decide_eq_false c32
                                  clear c32
                                  have H' := Aside0.mk H
                                  clear H
                                  go_wp2
                                  repeat (go_quiet (fail); try go_wp2)
                                  go_roundg k4
                                  case measure => have := HK1.out; have := HK2.out; have := HJ23.out; have := HK4.out; omega
                                  case rel => exact ⟨(wrap64 (x44_1 + 1)), (by first | rfl | (simp; done) | (simp [*]; done)), H', ⟨by have := HK1.out; have := HK2.out; have := HJ23.out; have := HK4.out; omega⟩, ⟨by (with_reducible repeat (first | apply Kd.R_alloc | apply Kd.R_drewN | apply Kd.R_drew)); exact Kd.R_mono HO_6.out (fun _ hk => trivial)⟩, ⟨by (with_reducible repeat (first | apply Kd.R_alloc | apply Kd.R_drewN | apply Kd.R_drew)); exact HO_8.out⟩, ⟨by (with_reducible repeat (first | apply Kd.R_alloc | apply Kd.R_drewN | apply Kd.R_drew)); exact Kd.R_mono HO_42.out (fun _ hk => trivial)⟩, ⟨by repeat (first | (with_reducible first | exact HB.out | apply below_alloc | apply pw_below_drewN | apply below_drew1 | refine below_set ?_ GE459.out) | exact HB.out)⟩⟩
              · rw [if_neg c15] at H
                exact absurd H (by simp)
            · rw [if_neg c14] at H
              exact absurd H (by simp)
          · rw [if_neg c13] at H
            have c13b0 : decide (x44_1 < (t450.length : Int)) = false := decide_eq_false c13
            clear c13
            by_cases c40 : t449 = true
            · subst c40
              have H1 : (some (t455 == 0)) = some r := by rw [if_pos rfl] at H; exact H
              clear H
              have H := H1
              clear H1
              obtain rfl := Option.some.inj H
              go_wp2
              repeat (go_quiet (fail); try go_wp2)
              go_ret
              exact ⟨by first | rfl | (simp [errW_none, errW_some] <;> rfl) | (simp [*, errW_none, errW_some] <;> rfl), by repeat (first | (with_reducible first | exact HB.out | apply below_alloc | apply pw_below_drewN | apply below_drew1) | exact HB.out)⟩
            · replace c40 := Bool.eq_false_iff.mpr c40
              subst c40
              have H1 : (some false) = some r := by rw [if_neg (show ¬ (false = true) by decide)] at H; exact H
              clear H
              have H := H1
              clear H1
              exact absurd ((Option.some.inj H).trans hT.out) Bool.false_ne_true
    · rw [if_neg c8] at H
      have c8b0 : (t451 == 0) = false := beq_eq_false_iff_ne.mpr c8
      have c8b1 : (t451 != 0) = true := bne_iff_ne.mpr c8
      by_cases c41 : t449 = true
      · subst c41
        have H1 : (some (t451 == t455)) = some r := by rw [if_pos rfl] at H; exact H
        clear H
        have H := H1
        clear H1
        obtain rfl := Option.some.inj H
        go_enter Try.func5, Try.ntmps5
        go_wp2_with (first | (go_at_call 14; (with_reducible refine (medlarlaw11_live.calls k  true _ A3.out).mono ?_); rintro e w42 ⟨rfl, hb⟩; have n0_ := Aside0.mk (below_step (by repeat (first | (with_reducible first | exact HB.out | apply below_alloc | apply pw_below_drewN | apply below_drew1) | exact HB.out)) hb); clear HB; have HB := n0_; clear n0_; (try clear hb); (try clear hb2); (try clear hk); (try clear hi)) | (go_at_call 15; (with_reducible refine (diff_Cover.calls k a0 _ _ l1 t450 t451 _ ?side1 ?side2 A6.out).mono ?_); (case side1 => repeat (first | exact (Kd.C_below HR1.out HB.out) | (with_reducible refine Kd.C_alloc ?_ _) | (with_reducible refine Kd.C_drewN ?_ _) | (with_reducible refine Kd.C_drew ?_))); (case side2 => exact HC1.out); rintro e w43 ⟨v452, rfl, ho0, hb⟩; have n0_ := Aside0.mk (Kd.R_lower ho0 (below_size (by repeat (first | (with_reducible first | exact HB.out | apply below_alloc | apply pw_below_drewN | apply below_drew1) | exact HB.out)))); have n1_ := Aside0.mk (below_step (by repeat (first | (with_reducible first | exact HB.out | apply below_alloc | apply pw_below_drewN | apply below_drew1) | exact HB.out)) hb); clear HB; have HO453 := n0_; have HB := n1_; clear n0_ n1_; (try clear hb); (try clear hb2); (try clear hk); (try clear hi); (try clear ho0)) | (go_at_call 22; (with_reducible refine (steiner_Forks.calls k a0 _ _ l1 t454 t455 _ ?side1 ?side2 A7.out).mono ?_); (case side1 => repeat (first | exact (Kd.C_below HR1.out HB.out) | (with_reducible refine Kd.C_alloc ?_ _) | (with_reducible refine Kd.C_drewN ?_ _) | (with_reducible refine Kd.C_drew ?_))); (case side2 => exact HC1.out); rintro e w44 ⟨v456, rfl, ho0, hb⟩; have n0_ := Aside0.mk (Kd.R_below (by (with_reducible repeat (first | apply Kd.R_alloc | apply Kd.R_drewN | apply Kd.R_drew)); exact HO453.out) hb); have n1_ := Aside0.mk (Kd.R_lower ho0 (below_size (by repeat (first | (with_reducible first | exact HB.out | apply below_alloc | apply pw_below_drewN | apply below_drew1) | exact HB.out)))); have n2_ := Aside0.mk (below_step (by repeat (first | (with_reducible first | exact HB.out | apply below_alloc | apply pw_below_drewN | apply below_drew1) | exact HB.out)) hb); clear HO453; clear HB; have HO453 := n0_; have HO457 := n1_; have HB := n2_; clear n0_ n1_ n2_; (try clear hb); (try clear hb2); (try clear hk); (try clear hi); (try clear ho0)))
        repeat (go_quiet (first | (go_at_call 14; (with_reducible refine (medlarlaw11_live.calls k  true _ A3.out).mono ?_); rintro e w42 ⟨rfl, hb⟩; have n0_ := Aside0.mk (below_step (by repeat (first | (with_reducible first | exact HB.out | apply below_alloc | apply pw_below_drewN | apply below_drew1) | exact HB.out)) hb); clear HB; have HB := n0_; clear n0_; (try clear hb); (try clear hb2); (try clear hk); (try clear hi)) | (go_at_call 15; (with_reducible refine (diff_Cover.calls k a0 _ _ l1 t450 t451 _ ?side1 ?side2 A6.out).mono ?_); (case side1 => repeat (first | exact (Kd.C_below HR1.out HB.out) | (with_reducible refine Kd.C_alloc ?_ _) | (with_reducible refine Kd.C_drewN ?_ _) | (with_reducible refine Kd.C_drew ?_))); (case side2 => exact HC1.out); rintro e w43 ⟨v452, rfl, ho0, hb⟩; have n0_ := Aside0.mk (Kd.R_lower ho0 (below_size (by repeat (first | (with_reducible first | exact HB.out | apply below_alloc | apply pw_below_drewN | apply below_drew1) | exact HB.out)))); have n1_ := Aside0.mk (below_step (by repeat (first | (with_reducible first | exact HB.out | apply below_alloc | apply pw_below_drewN | apply below_drew1) | exact HB.out)) hb); clear HB; have HO453 := n0_; have HB := n1_; clear n0_ n1_; (try clear hb); (try clear hb2); (try clear hk); (try clear hi); (try clear ho0)) | (go_at_call 22; (with_reducible refine (steiner_Forks.calls k a0 _ _ l1 t454 t455 _ ?side1 ?side2 A7.out).mono ?_); (case side1 => repeat (first | exact (Kd.C_below HR1.out HB.out) | (with_reducible refine Kd.C_alloc ?_ _) | (with_reducible refine Kd.C_drewN ?_ _) | (with_reducible refine Kd.C_drew ?_))); (case side2 => exact HC1.out); rintro e w44 ⟨v456, rfl, ho0, hb⟩; have n0_ := Aside0.mk (Kd.R_below (by (with_reducible repeat (first | apply Kd.R_alloc | apply Kd.R_drewN | apply Kd.R_drew)); exact HO453.out) hb); have n1_ := Aside0.mk (Kd.R_lower ho0 (below_size (by repeat (first | (with_reducible first | exact HB.out | apply below_alloc | apply pw_below_drewN | apply below_drew1) | exact HB.out)))); have n2_ := Aside0.mk (below_step (by repeat (first | (with_reducible first | exact HB.out | apply below_alloc | apply pw_below_drewN | apply below_drew1) | exact HB.out)) hb); clear HO453; clear HB; have HO453 := n0_; have HO457 := n1_; have HB := n2_; clear n0_ n1_ n2_; (try clear hb); (try clear hb2); (try clear hk); (try clear hi); (try clear ho0))); try go_wp2_with (first | (go_at_call 14; (with_reducible refine (medlarlaw11_live.calls k  true _ A3.out).mono ?_); rintro e w42 ⟨rfl, hb⟩; have n0_ := Aside0.mk (below_step (by repeat (first | (with_reducible first | exact HB.out | apply below_alloc | apply pw_below_drewN | apply below_drew1) | exact HB.out)) hb); clear HB; have HB := n0_; clear n0_; (try clear hb); (try clear hb2); (try clear hk); (try clear hi)) | (go_at_call 15; (with_reducible refine (diff_Cover.calls k a0 _ _ l1 t450 t451 _ ?side1 ?side2 A6.out).mono ?_); (case side1 => repeat (first | exact (Kd.C_below HR1.out HB.out) | (with_reducible refine Kd.C_alloc ?_ _) | (with_reducible refine Kd.C_drewN ?_ _) | (with_reducible refine Kd.C_drew ?_))); (case side2 => exact HC1.out); rintro e w43 ⟨v452, rfl, ho0, hb⟩; have n0_ := Aside0.mk (Kd.R_lower ho0 (below_size (by repeat (first | (with_reducible first | exact HB.out | apply below_alloc | apply pw_below_drewN | apply below_drew1) | exact HB.out)))); have n1_ := Aside0.mk (below_step (by repeat (first | (with_reducible first | exact HB.out | apply below_alloc | apply pw_below_drewN | apply below_drew1) | exact HB.out)) hb); clear HB; have HO453 := n0_; have HB := n1_; clear n0_ n1_; (try clear hb); (try clear hb2); (try clear hk); (try clear hi); (try clear ho0)) | (go_at_call 22; (with_reducible refine (steiner_Forks.calls k a0 _ _ l1 t454 t455 _ ?side1 ?side2 A7.out).mono ?_); (case side1 => repeat (first | exact (Kd.C_below HR1.out HB.out) | (with_reducible refine Kd.C_alloc ?_ _) | (with_reducible refine Kd.C_drewN ?_ _) | (with_reducible refine Kd.C_drew ?_))); (case side2 => exact HC1.out); rintro e w44 ⟨v456, rfl, ho0, hb⟩; have n0_ := Aside0.mk (Kd.R_below (by (with_reducible repeat (first | apply Kd.R_alloc | apply Kd.R_drewN | apply Kd.R_drew)); exact HO453.out) hb); have n1_ := Aside0.mk (Kd.R_lower ho0 (below_size (by repeat (first | (with_reducible first | exact HB.out | apply below_alloc | apply pw_below_drewN | apply below_drew1) | exact HB.out)))); have n2_ := Aside0.mk (below_step (by repeat (first | (with_reducible first | exact HB.out | apply below_alloc | apply pw_below_drewN | apply below_drew1) | exact HB.out)) hb); clear HO453; clear HB; have HO453 := n0_; have HO457 := n1_; have HB := n2_; clear n0_ n1_ n2_; (try clear hb); (try clear hb2); (try clear hk); (try clear hi); (try clear ho0))))
        go_ret
        exact ⟨by first | rfl | (simp [errW_none, errW_some] <;> rfl) | (simp [*, errW_none, errW_some] <;> rfl), by repeat (first | (with_reducible first | exact HB.out | apply below_alloc | apply pw_below_drewN | apply below_drew1) | exact HB.out)⟩
      · replace c41 := Bool.eq_false_iff.mpr c41
        subst c41
        have H1 : (some false) = some r := by rw [if_neg (show ¬ (false = true) by decide)] at H; exact H
        clear H
        have H := H1
        clear H1
        exact absurd ((Option.some.inj H).trans hT.out) Bool.false_ne_true

/-- THE ONE PURE STATEMENT of medlarlaw11_DiffTops: yours. -/
def medlarlaw11_DiffTops.Pure : Prop := ∀ (a0 : Int) (l1 : List Int), (Lit.int .i64 a0).wf = true → l1.length ≤ maxLen → l1.length * 8 ≤ 140737488351232 → (∀ x ∈ l1, (Lit.int .u64 x).wf = true) → ∃ k, medlarlaw11_DiffTops.f k a0 l1 = some true
theorem medlarlaw11_DiffTops.walk (P : medlarlaw11_DiffTops.Pure) (a0 : Int) (a1 : Option Addr) (len1 cap1 : Nat) (z1 : List Int) (w : World) (w0 : (Lit.int .i64 a0).wf = true) (w1 : (a1 = none ∧ len1 = 0 ∧ cap1 = 0 ∧ z1 = []) ∨ ∃ x, a1 = some x ∧ len1 ≤ cap1 ∧ cap1 ≤ maxLen ∧ z1.length = cap1 ∧ (∀ i, i < z1.length → w.cell? (x.add i) = some (.int .u64 (z1.getD i 0))) ∧ ∀ n ∈ z1, (Lit.int .u64 n).wf = true) (y1 : len1 * 8 ≤ 140737488351232) :
    Calls Try.prog 5 #[.int .i64 a0, .slice a1 len1 cap1] w fun e w' => e = .returned (.bool true) ∧ Below w.heap.size w w' := by
  obtain ⟨l1, rfl, hr1, hm1, hw1, hc1⟩ := ReadsInt.ofRowC w1
  obtain ⟨k, h⟩ := P a0 l1 w0 hm1 y1 hw1
  refine (medlarlaw11_DiffTops.calls k a0 _ _ l1 true w (Kd.C_of_reads (d := (0 : Int)) (h1 := fun _ => rfl) hr1) hc1 h ⟨rfl⟩).mono ?_
  rintro e w' ⟨rfl, hd⟩
  exact ⟨rfl, hd⟩

end Go.Proofs.Ytmffkfakcbopcaa.MP
