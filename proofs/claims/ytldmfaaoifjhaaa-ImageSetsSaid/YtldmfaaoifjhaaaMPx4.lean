-- written by a program of this session (wip/tools/mprint.sh) for this seat
import Derived.Test.YtldmfaaoifjhaaaMPx0
import Derived.Test.YtldmfaaoifjhaaaMPx2
import Derived.Test.YtldmfaaoifjhaaaMPx3
namespace Go.Proofs.Ytldmfaaoifjhaaa.MP
open Go.RowKit Go.Proofs.YtldmfaaoifjhaaaW.PrintWords Go.Proofs.YtldmfaaoifjhaaaW.PrintLast Go.Proofs.YtldmfaaoifjhaaaW.PrintMore
attribute [local go_sem] max2_int min2_int max_two min_two max_three min_three max_four min_four   -- for this text's walks alone
set_option linter.unusedVariables false
set_option linter.unusedSimpArgs false

/-! ### medlarlaw17_ImageSets: function 3 -/
def medlarlaw17_ImageSets.j0 : Nat → Int → List Int → List Int → Bool → Bool → Option (Bool)
  | 0, _, _, _, _, _ => none
  | k + 1, x0, x1, x2, x7, x46 => if x46 = true then (some x7) else ((image_Set.f k x0 x1).bind fun bt200 => ((medlarref17_Set.f k x0 x1).bind fun bt204 => ((image_Leaves.f k x2).bind fun bt208 => ((medlarref17_Leaves.f k x2).bind fun bt213 => (if x7 = true then ((medlarref16_SameBytes.f bt200.1 bt204.1).bind fun t218 => (if t218 = true then (if bt200.2 = bt204.2 then (if bt208.1 = bt213.1 then ((medlarref02_Same.f k bt208.2.1 bt213.2.1).bind fun t219 => (if t219 = true then (some (bt208.2.2 == bt213.2.2)) else (some false))) else (some false)) else (some false)) else (some false))) else (some false))))))
def medlarlaw17_ImageSets.f (k : Nat) (a0 : Int) (l1 : List Int) (l2 : List Int) : Option (Bool) := (medlarlaw17_live.f k).bind fun t199 => (if (l1.length : Int) > 60 then (if (l1.length : Int) < 1024 then (medlarlaw17_ImageSets.j0 k a0 l1 l2 t199 true) else (if (l1.length : Int) > 1030 then (medlarlaw17_ImageSets.j0 k a0 l1 l2 t199 true) else (if (l2.length : Int) > 9000 then (if (l2.length : Int) ≤ 65536 then (medlarlaw17_ImageSets.j0 k a0 l1 l2 t199 true) else (medlarlaw17_ImageSets.j0 k a0 l1 l2 t199 (decide ((l2.length : Int) > 70000)))) else (medlarlaw17_ImageSets.j0 k a0 l1 l2 t199 (decide ((l2.length : Int) > 70000)))))) else (if (l1.length : Int) > 1030 then (medlarlaw17_ImageSets.j0 k a0 l1 l2 t199 true) else (if (l2.length : Int) > 9000 then (if (l2.length : Int) ≤ 65536 then (medlarlaw17_ImageSets.j0 k a0 l1 l2 t199 true) else (medlarlaw17_ImageSets.j0 k a0 l1 l2 t199 (decide ((l2.length : Int) > 70000)))) else (medlarlaw17_ImageSets.j0 k a0 l1 l2 t199 (decide ((l2.length : Int) > 70000))))))
theorem medlarlaw17_ImageSets.mono_l : ∀ k, (∀ y0 y1 y2 y3 y4, LeO (medlarlaw17_ImageSets.j0 k y0 y1 y2 y3 y4) (medlarlaw17_ImageSets.j0 (k + 1) y0 y1 y2 y3 y4))
  | 0 => fun _ _ _ _ _ r h => by simp [medlarlaw17_ImageSets.j0] at h
  | k + 1 => by
    have ih0 := medlarlaw17_ImageSets.mono_l k
    · intro y0 y1 y2 y3 y4
      unfold medlarlaw17_ImageSets.j0
      repeat' first
      | (with_reducible exact ih0 _ _ _ _ _)
      | (with_reducible exact image_Leaves.mono _ _)
      | (with_reducible exact image_Set.mono _ _ _)
      | (with_reducible exact medlarlaw17_live.mono _)
      | (with_reducible exact medlarref02_Same.mono _ _ _)
      | (with_reducible exact medlarref17_Leaves.mono _ _)
      | (with_reducible exact medlarref17_Set.mono _ _ _)
      | (with_reducible exact LeO.refl _)
      | (with_reducible exact LeO.none _)
      | (with_reducible refine LeO.ite ?_ ?_)
      | (with_reducible refine LeO.bind ?_ (fun _ => ?_))
      | exact ih0 _ _ _ _ _
      | exact image_Leaves.mono _ _
      | exact image_Set.mono _ _ _
      | exact medlarlaw17_live.mono _
      | exact medlarref02_Same.mono _ _ _
      | exact medlarref17_Leaves.mono _ _
      | exact medlarref17_Set.mono _ _ _
      | exact LeO.none _
      | refine LeO.ite ?_ ?_
      | refine LeO.bind ?_ (fun _ => ?_)
theorem medlarlaw17_ImageSets.mono : ∀ a0 a1 a2 k, LeO (medlarlaw17_ImageSets.f k a0 a1 a2) (medlarlaw17_ImageSets.f (k + 1) a0 a1 a2) := by
  intro a0 a1 a2 k
  have ih0 := medlarlaw17_ImageSets.mono_l k
  unfold medlarlaw17_ImageSets.f
  repeat' first
      | (with_reducible exact ih0 _ _ _ _ _)
      | (with_reducible exact image_Leaves.mono _ _)
      | (with_reducible exact image_Set.mono _ _ _)
      | (with_reducible exact medlarlaw17_live.mono _)
      | (with_reducible exact medlarref02_Same.mono _ _ _)
      | (with_reducible exact medlarref17_Leaves.mono _ _)
      | (with_reducible exact medlarref17_Set.mono _ _ _)
      | (with_reducible exact LeO.refl _)
      | (with_reducible exact LeO.none _)
      | (with_reducible refine LeO.ite ?_ ?_)
      | (with_reducible refine LeO.bind ?_ (fun _ => ?_))
      | exact ih0 _ _ _ _ _
      | exact image_Leaves.mono _ _
      | exact image_Set.mono _ _ _
      | exact medlarlaw17_live.mono _
      | exact medlarref02_Same.mono _ _ _
      | exact medlarref17_Leaves.mono _ _
      | exact medlarref17_Set.mono _ _ _
      | exact LeO.none _
      | refine LeO.ite ?_ ?_
      | refine LeO.bind ?_ (fun _ => ?_)
set_option maxHeartbeats 8000000 in
set_option maxRecDepth 100000 in
theorem medlarlaw17_ImageSets.calls (k : Nat) (a0 : Int) (A1 : Option Addr) (c1 : Nat) (l1 : List Int) (A2 : Option Addr) (c2 : Nat) (l2 : List Int) (r : Bool) (w : World) (hr1 : Kd.C (Kd.int .u64) w A1 l1.length l1) (hc1 : l1.length ≤ c1) (hr2 : Kd.C (Kd.int .u8) w A2 l2.length l2) (hc2 : l2.length ≤ c2) (h : medlarlaw17_ImageSets.f k a0 l1 l2 = some r) (hT : Aside0 (r = true)) :
    Calls Try.prog 3 #[.int .i64 a0, .slice A1 l1.length c1, .slice A2 l2.length c2] w fun e w' => e = .returned (.bool r) ∧ Below w.heap.size w w' := by
  have HR1 := Aside0.mk hr1
  have HC1 := Aside0.mk hc1
  clear hr1 hc1
  have HR2 := Aside0.mk hr2
  have HC2 := Aside0.mk hc2
  clear hr2 hc2
  have HB := Aside0.mk (Below.refl w.heap.size w)
  have H : ((medlarlaw17_live.f k).bind fun t199 => (if (l1.length : Int) > 60 then (if (l1.length : Int) < 1024 then (medlarlaw17_ImageSets.j0 k a0 l1 l2 t199 true) else (if (l1.length : Int) > 1030 then (medlarlaw17_ImageSets.j0 k a0 l1 l2 t199 true) else (if (l2.length : Int) > 9000 then (if (l2.length : Int) ≤ 65536 then (medlarlaw17_ImageSets.j0 k a0 l1 l2 t199 true) else (medlarlaw17_ImageSets.j0 k a0 l1 l2 t199 (decide ((l2.length : Int) > 70000)))) else (medlarlaw17_ImageSets.j0 k a0 l1 l2 t199 (decide ((l2.length : Int) > 70000)))))) else (if (l1.length : Int) > 1030 then (medlarlaw17_ImageSets.j0 k a0 l1 l2 t199 true) else (if (l2.length : Int) > 9000 then (if (l2.length : Int) ≤ 65536 then (medlarlaw17_ImageSets.j0 k a0 l1 l2 t199 true) else (medlarlaw17_ImageSets.j0 k a0 l1 l2 t199 (decide ((l2.length : Int) > 70000)))) else (medlarlaw17_ImageSets.j0 k a0 l1 l2 t199 (decide ((l2.length : Int) > 70000))))))) = some r := h
  clear h
  replace H := Option.bind_eq_some_iff.mp H
  obtain ⟨t199, A40, H⟩ := H
  replace H : (if (l1.length : Int) > 60 then (if (l1.length : Int) < 1024 then (medlarlaw17_ImageSets.j0 k a0 l1 l2 t199 true) else (if (l1.length : Int) > 1030 then (medlarlaw17_ImageSets.j0 k a0 l1 l2 t199 true) else (if (l2.length : Int) > 9000 then (if (l2.length : Int) ≤ 65536 then (medlarlaw17_ImageSets.j0 k a0 l1 l2 t199 true) else (medlarlaw17_ImageSets.j0 k a0 l1 l2 t199 (decide ((l2.length : Int) > 70000)))) else (medlarlaw17_ImageSets.j0 k a0 l1 l2 t199 (decide ((l2.length : Int) > 70000)))))) else (if (l1.length : Int) > 1030 then (medlarlaw17_ImageSets.j0 k a0 l1 l2 t199 true) else (if (l2.length : Int) > 9000 then (if (l2.length : Int) ≤ 65536 then (medlarlaw17_ImageSets.j0 k a0 l1 l2 t199 true) else (medlarlaw17_ImageSets.j0 k a0 l1 l2 t199 (decide ((l2.length : Int) > 70000)))) else (medlarlaw17_ImageSets.j0 k a0 l1 l2 t199 (decide ((l2.length : Int) > 70000)))))) = some r := H
  have A4 := Aside0.mk A40
  clear A40
  have HC5 := Aside0.mk H
  clear H
  go_enter Try.func3, Try.ntmps3
  go_upto_region 2 with (first | ((with_reducible refine gate_callee (f := 15) rfl ?_); refine goesL_ (some 18) rfl rfl Try.func15 (by kernel_rfl) rfl #[] rfl (by (try simp only [List.map_toArray, List.map_cons, List.map_nil]); first | done | rfl | (simp only [List.length_drop, List.length_take]; rfl)) ?_; (with_reducible refine (medlarlaw17_live.calls k  t199 _ A4.out).mono ?_); rintro e w6 ⟨rfl, hb⟩; refine ⟨_, rfl, ?_⟩; have n0_ := Aside0.mk (below_step (by repeat (first | (with_reducible first | exact HB.out | apply below_alloc | apply pw_below_drewN | apply below_drew1) | exact HB.out)) hb); clear HB; have HB := n0_; clear n0_; (try clear hb); (try clear hb2); (try clear hk); (try clear hi)))
  (try simp only [Act.put, List.setIfInBounds_toArray, List.set_cons_zero, List.set_cons_succ])
  go_cut [46] (fun v46 wc => ∃ (kq : Nat) (x46_4 : Bool), v46 = .bool x46_4 ∧ Aside0 (medlarlaw17_ImageSets.j0 kq a0 l1 l2 t199 x46_4 = some r) ∧ Aside0 (kq ≤ k) ∧ Aside0 (Below w.heap.size w wc))
  case first =>
    have H := HC5.out
    clear HC5
    by_cases c7 : (l1.length : Int) > 60
    · rw [if_pos c7] at H
      have c7b0 : decide (60 < (l1.length : Int)) = true := decide_eq_true c7
      have c7b1 : decide (60 < l1.length) = true := decide_eq_true (by omega)
      clear c7
      (first | rw [c7b0] | (simp only [i64_w, i32_w]; rw [c7b0]) | skip)
      by_cases c8 : (l1.length : Int) < 1024
      · rw [if_pos c8] at H
        have c8b0 : decide ((l1.length : Int) < 1024) = true := decide_eq_true c8
        have c8b1 : decide (l1.length < 1024) = true := decide_eq_true (by omega)
        clear c8
        have H' := Aside0.mk H
        clear H
        go_wp2
        go_meet
        case rel => exact ⟨_, (true), (by first | rfl | (simp; done) | (simp [*]; done)), H', ⟨by first | omega | exact Nat.le_refl _⟩, ⟨by repeat (first | (with_reducible first | exact HB.out | apply below_alloc | apply pw_below_drewN | apply below_drew1) | exact HB.out)⟩⟩
      · rw [if_neg c8] at H
        have c8b0 : decide ((l1.length : Int) < 1024) = false := decide_eq_false c8
        have c8b1 : decide (l1.length < 1024) = false := decide_eq_false (by omega)
        clear c8
        by_cases c9 : (l1.length : Int) > 1030
        · rw [if_pos c9] at H
          have c9b0 : decide (1030 < (l1.length : Int)) = true := decide_eq_true c9
          have c9b1 : decide (1030 < l1.length) = true := decide_eq_true (by omega)
          clear c9
          have H' := Aside0.mk H
          clear H
          go_wp2
          go_meet
          case rel => exact ⟨_, (true), (by first | rfl | (simp; done) | (simp [*]; done)), H', ⟨by first | omega | exact Nat.le_refl _⟩, ⟨by repeat (first | (with_reducible first | exact HB.out | apply below_alloc | apply pw_below_drewN | apply below_drew1) | exact HB.out)⟩⟩
        · rw [if_neg c9] at H
          have c9b0 : decide (1030 < (l1.length : Int)) = false := decide_eq_false c9
          have c9b1 : decide (1030 < l1.length) = false := decide_eq_false (by omega)
          clear c9
          by_cases c10 : (l2.length : Int) > 9000
          · rw [if_pos c10] at H
            have c10b0 : decide (9000 < (l2.length : Int)) = true := decide_eq_true c10
            have c10b1 : decide (9000 < l2.length) = true := decide_eq_true (by omega)
            clear c10
            by_cases c11 : (l2.length : Int) ≤ 65536
            · rw [if_pos c11] at H
              have c11b0 : decide ((l2.length : Int) ≤ 65536) = true := decide_eq_true c11
              have c11b1 : decide (l2.length ≤ 65536) = true := decide_eq_true (by omega)
              clear c11
              have H' := Aside0.mk H
              clear H
              go_wp2
              go_meet
              case rel => exact ⟨_, (true), (by first | rfl | (simp; done) | (simp [*]; done)), H', ⟨by first | omega | exact Nat.le_refl _⟩, ⟨by repeat (first | (with_reducible first | exact HB.out | apply below_alloc | apply pw_below_drewN | apply below_drew1) | exact HB.out)⟩⟩
            · rw [if_neg c11] at H
              have c11b0 : decide ((l2.length : Int) ≤ 65536) = false := decide_eq_false c11
              have c11b1 : decide (l2.length ≤ 65536) = false := decide_eq_false (by omega)
              clear c11
              have H' := Aside0.mk H
              clear H
              go_wp2
              go_meet
              case rel => exact ⟨_, (decide ((l2.length : Int) > 70000)), (by first | rfl | (simp; done) | (simp [*]; done)), H', ⟨by first | omega | exact Nat.le_refl _⟩, ⟨by repeat (first | (with_reducible first | exact HB.out | apply below_alloc | apply pw_below_drewN | apply below_drew1) | exact HB.out)⟩⟩
          · rw [if_neg c10] at H
            have c10b0 : decide (9000 < (l2.length : Int)) = false := decide_eq_false c10
            have c10b1 : decide (9000 < l2.length) = false := decide_eq_false (by omega)
            clear c10
            have H' := Aside0.mk H
            clear H
            go_wp2
            go_meet
            case rel => exact ⟨_, (decide ((l2.length : Int) > 70000)), (by first | rfl | (simp; done) | (simp [*]; done)), H', ⟨by first | omega | exact Nat.le_refl _⟩, ⟨by repeat (first | (with_reducible first | exact HB.out | apply below_alloc | apply pw_below_drewN | apply below_drew1) | exact HB.out)⟩⟩
    · rw [if_neg c7] at H
      have c7b0 : decide (60 < (l1.length : Int)) = false := decide_eq_false c7
      have c7b1 : decide (60 < l1.length) = false := decide_eq_false (by omega)
      clear c7
      (first | rw [c7b0] | (simp only [i64_w, i32_w]; rw [c7b0]) | skip)
      by_cases c12 : (l1.length : Int) > 1030
      · rw [if_pos c12] at H
        have c12b0 : decide (1030 < (l1.length : Int)) = true := decide_eq_true c12
        have c12b1 : decide (1030 < l1.length) = true := decide_eq_true (by omega)
        clear c12
        have H' := Aside0.mk H
        clear H
        go_wp2
        go_meet
        case rel => exact ⟨_, (true), (by first | rfl | (simp; done) | (simp [*]; done)), H', ⟨by first | omega | exact Nat.le_refl _⟩, ⟨by repeat (first | (with_reducible first | exact HB.out | apply below_alloc | apply pw_below_drewN | apply below_drew1) | exact HB.out)⟩⟩
      · rw [if_neg c12] at H
        have c12b0 : decide (1030 < (l1.length : Int)) = false := decide_eq_false c12
        have c12b1 : decide (1030 < l1.length) = false := decide_eq_false (by omega)
        clear c12
        by_cases c13 : (l2.length : Int) > 9000
        · rw [if_pos c13] at H
          have c13b0 : decide (9000 < (l2.length : Int)) = true := decide_eq_true c13
          have c13b1 : decide (9000 < l2.length) = true := decide_eq_true (by omega)
          clear c13
          by_cases c14 : (l2.length : Int) ≤ 65536
          · rw [if_pos c14] at H
            have c14b0 : decide ((l2.length : Int) ≤ 65536) = true := decide_eq_true c14
            have c14b1 : decide (l2.length ≤ 65536) = true := decide_eq_true (by omega)
            clear c14
            have H' := Aside0.mk H
            clear H
            go_wp2
            go_meet
            case rel => exact ⟨_, (true), (by first | rfl | (simp; done) | (simp [*]; done)), H', ⟨by first | omega | exact Nat.le_refl _⟩, ⟨by repeat (first | (with_reducible first | exact HB.out | apply below_alloc | apply pw_below_drewN | apply below_drew1) | exact HB.out)⟩⟩
          · rw [if_neg c14] at H
            have c14b0 : decide ((l2.length : Int) ≤ 65536) = false := decide_eq_false c14
            have c14b1 : decide (l2.length ≤ 65536) = false := decide_eq_false (by omega)
            clear c14
            have H' := Aside0.mk H
            clear H
            go_wp2
            go_meet
            case rel => exact ⟨_, (decide ((l2.length : Int) > 70000)), (by first | rfl | (simp; done) | (simp [*]; done)), H', ⟨by first | omega | exact Nat.le_refl _⟩, ⟨by repeat (first | (with_reducible first | exact HB.out | apply below_alloc | apply pw_below_drewN | apply below_drew1) | exact HB.out)⟩⟩
        · rw [if_neg c13] at H
          have c13b0 : decide (9000 < (l2.length : Int)) = false := decide_eq_false c13
          have c13b1 : decide (9000 < l2.length) = false := decide_eq_false (by omega)
          clear c13
          have H' := Aside0.mk H
          clear H
          go_wp2
          go_meet
          case rel => exact ⟨_, (decide ((l2.length : Int) > 70000)), (by first | rfl | (simp; done) | (simp [*]; done)), H', ⟨by first | omega | exact Nat.le_refl _⟩, ⟨by repeat (first | (with_reducible first | exact HB.out | apply below_alloc | apply pw_below_drewN | apply below_drew1) | exact HB.out)⟩⟩
  case rest =>
    clear HC5
    try clear c1
    try clear c2
    try clear p2
    try clear c3
    try clear c7
    try clear c7b0
    try clear c7b1
    try clear c8
    try clear c8b0
    try clear c8b1
    try clear c9
    try clear c9b0
    try clear c9b1
    try clear c10
    try clear c10b0
    try clear c10b1
    try clear c11
    try clear c11b0
    try clear c11b1
    try clear c12
    try clear c12b0
    try clear c12b1
    try clear c13
    try clear c13b0
    try clear c13b1
    try clear c14
    try clear c14b0
    try clear c14b1
    obtain ⟨kq, x46_4, rfl, HA, HJ4, HB⟩ := hcut
    cases kq with
    | zero => exact absurd HA.out (by simp [medlarlaw17_ImageSets.j0])
    | succ kj4 =>
      have H := HA.out
      clear HA
      simp only [medlarlaw17_ImageSets.j0] at H
      by_cases c15 : x46_4 = true
      · subst c15
        have H1 : (some t199) = some r := by rw [if_pos rfl] at H; exact H
        clear H
        have H := H1
        clear H1
        obtain rfl := Option.some.inj H
        go_wp2
        go_ret
        exact ⟨by first | rfl | (simp [errW_none, errW_some] <;> rfl) | (simp [*, errW_none, errW_some] <;> rfl), by repeat (first | (with_reducible first | exact HB.out | apply below_alloc | apply pw_below_drewN | apply below_drew1) | exact HB.out)⟩
      · replace c15 := Bool.eq_false_iff.mpr c15
        subst c15
        have H1 : ((image_Set.f kj4 a0 l1).bind fun bt200 => ((medlarref17_Set.f kj4 a0 l1).bind fun bt204 => ((image_Leaves.f kj4 l2).bind fun bt208 => ((medlarref17_Leaves.f kj4 l2).bind fun bt213 => (if t199 = true then ((medlarref16_SameBytes.f bt200.1 bt204.1).bind fun t218 => (if t218 = true then (if bt200.2 = bt204.2 then (if bt208.1 = bt213.1 then ((medlarref02_Same.f kj4 bt208.2.1 bt213.2.1).bind fun t219 => (if t219 = true then (some (bt208.2.2 == bt213.2.2)) else (some false))) else (some false)) else (some false)) else (some false))) else (some false)))))) = some r := by rw [if_neg (show ¬ (false = true) by decide)] at H; exact H
        clear H
        have H := H1
        clear H1
        replace H := Option.bind_eq_some_iff.mp H
        obtain ⟨⟨t200, t201⟩, A160, H⟩ := H
        replace H : ((medlarref17_Set.f kj4 a0 l1).bind fun bt204 => ((image_Leaves.f kj4 l2).bind fun bt208 => ((medlarref17_Leaves.f kj4 l2).bind fun bt213 => (if t199 = true then ((medlarref16_SameBytes.f t200 bt204.1).bind fun t218 => (if t218 = true then (if t201 = bt204.2 then (if bt208.1 = bt213.1 then ((medlarref02_Same.f kj4 bt208.2.1 bt213.2.1).bind fun t219 => (if t219 = true then (some (bt208.2.2 == bt213.2.2)) else (some false))) else (some false)) else (some false)) else (some false))) else (some false))))) = some r := H
        have A16 := Aside0.mk A160
        clear A160
        replace H := Option.bind_eq_some_iff.mp H
        obtain ⟨⟨t204, t205⟩, A170, H⟩ := H
        replace H : ((image_Leaves.f kj4 l2).bind fun bt208 => ((medlarref17_Leaves.f kj4 l2).bind fun bt213 => (if t199 = true then ((medlarref16_SameBytes.f t200 t204).bind fun t218 => (if t218 = true then (if t201 = t205 then (if bt208.1 = bt213.1 then ((medlarref02_Same.f kj4 bt208.2.1 bt213.2.1).bind fun t219 => (if t219 = true then (some (bt208.2.2 == bt213.2.2)) else (some false))) else (some false)) else (some false)) else (some false))) else (some false)))) = some r := H
        have A17 := Aside0.mk A170
        clear A170
        replace H := Option.bind_eq_some_iff.mp H
        obtain ⟨⟨t208, t209, t210⟩, A180, H⟩ := H
        replace H : ((medlarref17_Leaves.f kj4 l2).bind fun bt213 => (if t199 = true then ((medlarref16_SameBytes.f t200 t204).bind fun t218 => (if t218 = true then (if t201 = t205 then (if t208 = bt213.1 then ((medlarref02_Same.f kj4 t209 bt213.2.1).bind fun t219 => (if t219 = true then (some (t210 == bt213.2.2)) else (some false))) else (some false)) else (some false)) else (some false))) else (some false))) = some r := H
        have A18 := Aside0.mk A180
        clear A180
        replace H := Option.bind_eq_some_iff.mp H
        obtain ⟨⟨t213, t214, t215⟩, A190, H⟩ := H
        replace H : (if t199 = true then ((medlarref16_SameBytes.f t200 t204).bind fun t218 => (if t218 = true then (if t201 = t205 then (if t208 = t213 then ((medlarref02_Same.f kj4 t209 t214).bind fun t219 => (if t219 = true then (some (t210 == t215)) else (some false))) else (some false)) else (some false)) else (some false))) else (some false)) = some r := H
        have A19 := Aside0.mk A190
        clear A190
        by_cases c20 : t199 = true
        · subst c20
          have H1 : ((medlarref16_SameBytes.f t200 t204).bind fun t218 => (if t218 = true then (if t201 = t205 then (if t208 = t213 then ((medlarref02_Same.f kj4 t209 t214).bind fun t219 => (if t219 = true then (some (t210 == t215)) else (some false))) else (some false)) else (some false)) else (some false))) = some r := by rw [if_pos rfl] at H; exact H
          clear H
          have H := H1
          clear H1
          replace H := Option.bind_eq_some_iff.mp H
          obtain ⟨t218, A210, H⟩ := H
          replace H : (if t218 = true then (if t201 = t205 then (if t208 = t213 then ((medlarref02_Same.f kj4 t209 t214).bind fun t219 => (if t219 = true then (some (t210 == t215)) else (some false))) else (some false)) else (some false)) else (some false)) = some r := H
          have A21 := Aside0.mk A210
          clear A210
          by_cases c22 : t218 = true
          · subst c22
            have H1 : (if t201 = t205 then (if t208 = t213 then ((medlarref02_Same.f kj4 t209 t214).bind fun t219 => (if t219 = true then (some (t210 == t215)) else (some false))) else (some false)) else (some false)) = some r := by rw [if_pos rfl] at H; exact H
            clear H
            have H := H1
            clear H1
            by_cases c23 : t201 = t205
            · rw [if_pos c23] at H
              have c23b0 : (t201 == t205) = true := beq_iff_eq.mpr c23
              have c23b1 : (t201 != t205) = false := bne_eq_false_iff_eq.mpr c23
              clear c23
              by_cases c24 : t208 = t213
              · rw [if_pos c24] at H
                have c24b0 : (t208 == t213) = true := beq_iff_eq.mpr c24
                have c24b1 : (t208 != t213) = false := bne_eq_false_iff_eq.mpr c24
                clear c24
                replace H := Option.bind_eq_some_iff.mp H
                obtain ⟨t219, A250, H⟩ := H
                replace H : (if t219 = true then (some (t210 == t215)) else (some false)) = some r := H
                have A25 := Aside0.mk A250
                clear A250
                by_cases c26 : t219 = true
                · subst c26
                  have H1 : (some (t210 == t215)) = some r := by rw [if_pos rfl] at H; exact H
                  clear H
                  have H := H1
                  clear H1
                  obtain rfl := Option.some.inj H
                  go_wp2_with (first | ((with_reducible refine gate_callee (f := 16) rfl ?_); refine goesL_ (some 51) rfl rfl Try.func16 (by kernel_rfl) rfl #[.int .i64 a0, .slice A1 l1.length c1] rfl (by (try simp only [List.map_toArray, List.map_cons, List.map_nil]); first | done | rfl | (simp only [List.length_drop, List.length_take]; rfl)) ?_; (with_reducible refine (image_Set.calls kj4 a0 _ _ l1 t200 t201 _ ?side1 ?side2 A16.out).mono ?_); (case side1 => repeat (first | exact (Kd.C_below HR1.out HB.out) | (with_reducible refine Kd.C_alloc ?_ _) | (with_reducible refine Kd.C_drewN ?_ _) | (with_reducible refine Kd.C_drew ?_))); (case side2 => exact HC1.out); rintro e w27 ⟨v202, rfl, ho0, hb⟩; refine ⟨_, rfl, ?_⟩; have n0_ := Aside0.mk (Kd.R_lower ho0 (below_size (by repeat (first | (with_reducible first | exact HB.out | apply below_alloc | apply pw_below_drewN | apply below_drew1) | exact HB.out)))); have n1_ := Aside0.mk (below_step (by repeat (first | (with_reducible first | exact HB.out | apply below_alloc | apply pw_below_drewN | apply below_drew1) | exact HB.out)) hb); clear HB; have HO203 := n0_; have HB := n1_; clear n0_ n1_; (try clear hb); (try clear hb2); (try clear hk); (try clear hi); (try clear ho0)) | ((with_reducible refine gate_callee (f := 17) rfl ?_); refine goesL_ (some 57) rfl rfl Try.func17 (by kernel_rfl) rfl #[.int .i64 a0, .slice A1 l1.length c1] rfl (by (try simp only [List.map_toArray, List.map_cons, List.map_nil]); first | done | rfl | (simp only [List.length_drop, List.length_take]; rfl)) ?_; (with_reducible refine (medlarref17_Set.calls kj4 a0 _ _ l1 t204 t205 _ ?side1 ?side2 A17.out).mono ?_); (case side1 => repeat (first | exact (Kd.C_below HR1.out HB.out) | (with_reducible refine Kd.C_alloc ?_ _) | (with_reducible refine Kd.C_drewN ?_ _) | (with_reducible refine Kd.C_drew ?_))); (case side2 => exact HC1.out); rintro e w28 ⟨v206, rfl, ho0, hb⟩; refine ⟨_, rfl, ?_⟩; have n0_ := Aside0.mk (Kd.R_elder' (by (with_reducible repeat (first | apply Kd.R_alloc | apply Kd.R_drewN | apply Kd.R_drew)); exact HO203.out) (Kd.R_base ho0) hb); have n1_ := Aside0.mk (Kd.R_lower (Kd.R_new' ho0 (Kd.R_lt (by (with_reducible repeat (first | apply Kd.R_alloc | apply Kd.R_drewN | apply Kd.R_drew)); exact HO203.out))) (below_size (by repeat (first | (with_reducible first | exact HB.out | apply below_alloc | apply pw_below_drewN | apply below_drew1) | exact HB.out)))); have n2_ := Aside0.mk (below_step (by repeat (first | (with_reducible first | exact HB.out | apply below_alloc | apply pw_below_drewN | apply below_drew1) | exact HB.out)) hb); clear HO203; clear HB; have HO203 := n0_; have HO207 := n1_; have HB := n2_; clear n0_ n1_ n2_; (try clear hb); (try clear hb2); (try clear hk); (try clear hi); (try clear ho0)) | ((with_reducible refine gate_callee (f := 18) rfl ?_); refine goesL_ (some 62) rfl rfl Try.func18 (by kernel_rfl) rfl #[.slice A2 l2.length c2] rfl (by (try simp only [List.map_toArray, List.map_cons, List.map_nil]); first | done | rfl | (simp only [List.length_drop, List.length_take]; rfl)) ?_; (with_reducible refine (image_Leaves.calls kj4 _ _ l2 t208 t209 t210 _ ?side1 ?side2 A18.out).mono ?_); (case side1 => repeat (first | exact (Kd.C_below HR2.out HB.out) | (with_reducible refine Kd.C_alloc ?_ _) | (with_reducible refine Kd.C_drewN ?_ _) | (with_reducible refine Kd.C_drew ?_))); (case side2 => exact HC2.out); rintro e w29 ⟨v211, rfl, ho0, hb⟩; refine ⟨_, rfl, ?_⟩; have n0_ := Aside0.mk (Kd.R_below (by (with_reducible repeat (first | apply Kd.R_alloc | apply Kd.R_drewN | apply Kd.R_drew)); exact HO203.out) hb); have n1_ := Aside0.mk (Kd.R_below (by (with_reducible repeat (first | apply Kd.R_alloc | apply Kd.R_drewN | apply Kd.R_drew)); exact HO207.out) hb); have n2_ := Aside0.mk (Kd.R_lower ho0 (below_size (by repeat (first | (with_reducible first | exact HB.out | apply below_alloc | apply pw_below_drewN | apply below_drew1) | exact HB.out)))); have n3_ := Aside0.mk (below_step (by repeat (first | (with_reducible first | exact HB.out | apply below_alloc | apply pw_below_drewN | apply below_drew1) | exact HB.out)) hb); clear HO203; clear HO207; clear HB; have HO203 := n0_; have HO207 := n1_; have HO212 := n2_; have HB := n3_; clear n0_ n1_ n2_ n3_; (try clear hb); (try clear hb2); (try clear hk); (try clear hi); (try clear ho0)) | ((with_reducible refine gate_callee (f := 19) rfl ?_); refine goesL_ (some 68) rfl rfl Try.func19 (by kernel_rfl) rfl #[.slice A2 l2.length c2] rfl (by (try simp only [List.map_toArray, List.map_cons, List.map_nil]); first | done | rfl | (simp only [List.length_drop, List.length_take]; rfl)) ?_; (with_reducible refine (medlarref17_Leaves.calls kj4 _ _ l2 t213 t214 t215 _ ?side1 ?side2 A19.out).mono ?_); (case side1 => repeat (first | exact (Kd.C_below HR2.out HB.out) | (with_reducible refine Kd.C_alloc ?_ _) | (with_reducible refine Kd.C_drewN ?_ _) | (with_reducible refine Kd.C_drew ?_))); (case side2 => exact HC2.out); rintro e w30 ⟨v216, rfl, ho0, hb⟩; refine ⟨_, rfl, ?_⟩; have n0_ := Aside0.mk (Kd.R_below (by (with_reducible repeat (first | apply Kd.R_alloc | apply Kd.R_drewN | apply Kd.R_drew)); exact HO203.out) hb); have n1_ := Aside0.mk (Kd.R_below (by (with_reducible repeat (first | apply Kd.R_alloc | apply Kd.R_drewN | apply Kd.R_drew)); exact HO207.out) hb); have n2_ := Aside0.mk (Kd.R_elder' (by (with_reducible repeat (first | apply Kd.R_alloc | apply Kd.R_drewN | apply Kd.R_drew)); exact HO212.out) (Kd.R_base ho0) hb); have n3_ := Aside0.mk (Kd.R_lower (Kd.R_new' ho0 (Kd.R_lt (by (with_reducible repeat (first | apply Kd.R_alloc | apply Kd.R_drewN | apply Kd.R_drew)); exact HO212.out))) (below_size (by repeat (first | (with_reducible first | exact HB.out | apply below_alloc | apply pw_below_drewN | apply below_drew1) | exact HB.out)))); have n4_ := Aside0.mk (below_step (by repeat (first | (with_reducible first | exact HB.out | apply below_alloc | apply pw_below_drewN | apply below_drew1) | exact HB.out)) hb); clear HO203; clear HO207; clear HO212; clear HB; have HO203 := n0_; have HO207 := n1_; have HO212 := n2_; have HO217 := n3_; have HB := n4_; clear n0_ n1_ n2_ n3_ n4_; (try clear hb); (try clear hb2); (try clear hk); (try clear hi); (try clear ho0); obtain ⟨Ao31, co31, eo31⟩ := Kd.R_slice HO203.out; subst eo31; obtain ⟨Ao32, co32, eo32⟩ := Kd.R_slice HO207.out; subst eo32) | (go_at_call 20; (with_reducible refine (medlarref16_SameBytes.calls _ _ t200 _ _ t204 true _ ?side1 ?side2 ?side3 ?side4 A21.out).mono ?_); (case side1 => repeat (first | exact (Kd.R_reads' HO203.out).2.2 | (with_reducible refine Kd.C_alloc ?_ _) | (with_reducible refine Kd.C_drewN ?_ _) | (with_reducible refine Kd.C_drew ?_))); (case side2 => exact (Kd.R_reads' HO203.out).2.1); (case side3 => repeat (first | exact (Kd.R_reads' HO207.out).2.2 | (with_reducible refine Kd.C_alloc ?_ _) | (with_reducible refine Kd.C_drewN ?_ _) | (with_reducible refine Kd.C_drew ?_))); (case side4 => exact (Kd.R_reads' HO207.out).2.1); rintro e w' ⟨rfl, ⟨nd, rfl⟩⟩; obtain ⟨Ao33, co33, eo33⟩ := Kd.R_slice HO212.out; subst eo33; obtain ⟨Ao34, co34, eo34⟩ := Kd.R_slice HO217.out; subst eo34) | (go_at_call 21; (with_reducible refine (medlarref02_Same.calls kj4 _ _ t209 _ _ t214 true _ ?side1 ?side2 ?side3 ?side4 A25.out).mono ?_); (case side1 => repeat (first | exact (Kd.R_reads' HO212.out).2.2 | (with_reducible refine Kd.C_alloc ?_ _) | (with_reducible refine Kd.C_drewN ?_ _) | (with_reducible refine Kd.C_drew ?_))); (case side2 => exact (Kd.R_reads' HO212.out).2.1); (case side3 => repeat (first | exact (Kd.R_reads' HO217.out).2.2 | (with_reducible refine Kd.C_alloc ?_ _) | (with_reducible refine Kd.C_drewN ?_ _) | (with_reducible refine Kd.C_drew ?_))); (case side4 => exact (Kd.R_reads' HO217.out).2.1); rintro e w' ⟨rfl, ⟨nd, rfl⟩⟩))
                  go_ret
                  exact ⟨by first | rfl | (simp [errW_none, errW_some] <;> rfl) | (simp [*, errW_none, errW_some] <;> rfl), by repeat (first | (with_reducible first | exact HB.out | apply below_alloc | apply pw_below_drewN | apply below_drew1) | exact HB.out)⟩
                · replace c26 := Bool.eq_false_iff.mpr c26
                  subst c26
                  have H1 : (some false) = some r := by rw [if_neg (show ¬ (false = true) by decide)] at H; exact H
                  clear H
                  have H := H1
                  clear H1
                  exact absurd ((Option.some.inj H).trans hT.out) Bool.false_ne_true
              · rw [if_neg c24] at H
                have c24b0 : (t208 == t213) = false := beq_eq_false_iff_ne.mpr c24
                have c24b1 : (t208 != t213) = true := bne_iff_ne.mpr c24
                exact absurd ((Option.some.inj H).trans hT.out) Bool.false_ne_true
            · rw [if_neg c23] at H
              have c23b0 : (t201 == t205) = false := beq_eq_false_iff_ne.mpr c23
              have c23b1 : (t201 != t205) = true := bne_iff_ne.mpr c23
              exact absurd ((Option.some.inj H).trans hT.out) Bool.false_ne_true
          · replace c22 := Bool.eq_false_iff.mpr c22
            subst c22
            have H1 : (some false) = some r := by rw [if_neg (show ¬ (false = true) by decide)] at H; exact H
            clear H
            have H := H1
            clear H1
            exact absurd ((Option.some.inj H).trans hT.out) Bool.false_ne_true
        · replace c20 := Bool.eq_false_iff.mpr c20
          subst c20
          have H1 : (some false) = some r := by rw [if_neg (show ¬ (false = true) by decide)] at H; exact H
          clear H
          have H := H1
          clear H1
          exact absurd ((Option.some.inj H).trans hT.out) Bool.false_ne_true

/-- THE ONE PURE STATEMENT of medlarlaw17_ImageSets: yours. -/
def medlarlaw17_ImageSets.Pure : Prop := ∀ (a0 : Int) (l1 : List Int) (l2 : List Int), (Lit.int .i64 a0).wf = true → l1.length ≤ maxLen → l1.length * 8 ≤ 140737488351232 → (∀ x ∈ l1, (Lit.int .u64 x).wf = true) → l2.length ≤ maxLen → l2.length * 1 ≤ 140737488351232 → (∀ x ∈ l2, (Lit.int .u8 x).wf = true) → ∃ k, medlarlaw17_ImageSets.f k a0 l1 l2 = some true
theorem medlarlaw17_ImageSets.walk (P : medlarlaw17_ImageSets.Pure) (a0 : Int) (a1 : Option Addr) (len1 cap1 : Nat) (z1 : List Int) (a2 : Option Addr) (len2 cap2 : Nat) (z2 : List Int) (w : World) (w0 : (Lit.int .i64 a0).wf = true) (w1 : (a1 = none ∧ len1 = 0 ∧ cap1 = 0 ∧ z1 = []) ∨ ∃ x, a1 = some x ∧ len1 ≤ cap1 ∧ cap1 ≤ maxLen ∧ z1.length = cap1 ∧ (∀ i, i < z1.length → w.cell? (x.add i) = some (.int .u64 (z1.getD i 0))) ∧ ∀ n ∈ z1, (Lit.int .u64 n).wf = true) (y1 : len1 * 8 ≤ 140737488351232) (w2 : (a2 = none ∧ len2 = 0 ∧ cap2 = 0 ∧ z2 = []) ∨ ∃ x, a2 = some x ∧ len2 ≤ cap2 ∧ cap2 ≤ maxLen ∧ z2.length = cap2 ∧ (∀ i, i < z2.length → w.cell? (x.add i) = some (.int .u8 (z2.getD i 0))) ∧ ∀ n ∈ z2, (Lit.int .u8 n).wf = true) (y2 : len2 * 1 ≤ 140737488351232) :
    Calls Try.prog 3 #[.int .i64 a0, .slice a1 len1 cap1, .slice a2 len2 cap2] w fun e w' => e = .returned (.bool true) ∧ Below w.heap.size w w' := by
  obtain ⟨l1, rfl, hr1, hm1, hw1, hc1⟩ := ReadsInt.ofRowC w1
  obtain ⟨l2, rfl, hr2, hm2, hw2, hc2⟩ := ReadsInt.ofRowC w2
  obtain ⟨k, h⟩ := P a0 l1 l2 w0 hm1 y1 hw1 hm2 y2 hw2
  refine (medlarlaw17_ImageSets.calls k a0 _ _ l1 _ _ l2 true w (Kd.C_of_reads (d := (0 : Int)) (h1 := fun _ => rfl) hr1) hc1 (Kd.C_of_reads (d := (0 : Int)) (h1 := fun _ => rfl) hr2) hc2 h ⟨rfl⟩).mono ?_
  rintro e w' ⟨rfl, hd⟩
  exact ⟨rfl, hd⟩

end Go.Proofs.Ytldmfaaoifjhaaa.MP
