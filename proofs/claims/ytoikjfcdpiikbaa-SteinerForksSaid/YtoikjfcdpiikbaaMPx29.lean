-- written by a program of this session (wip/tools/mprint.sh) for this seat
import Derived.Test.YtoikjfcdpiikbaaMPx0
import Derived.Test.YtoikjfcdpiikbaaMPx2
import Derived.Test.YtoikjfcdpiikbaaMPx3
import Derived.Test.YtoikjfcdpiikbaaMPx5
import Derived.Test.YtoikjfcdpiikbaaMPx15
import Derived.Test.YtoikjfcdpiikbaaMPx21
import Derived.Test.YtoikjfcdpiikbaaMPx23
import Derived.Test.YtoikjfcdpiikbaaMPx26
import Derived.Test.YtoikjfcdpiikbaaMPx28
namespace Go.Proofs.Ytoikjfcdpiikbaa.MP
open Go.RowKit Go.Proofs.YtoikjfcdpiikbaaW.PrintWords Go.Proofs.YtoikjfcdpiikbaaW.PrintLast Go.Proofs.YtoikjfcdpiikbaaW.PrintMore
attribute [local go_sem] max2_int min2_int max_two min_two max_three min_three max_four min_four   -- for this text's walks alone
set_option linter.unusedVariables false
set_option linter.unusedSimpArgs false

/-! ### medlarlaw09_SteinerForks: function 10 -/
mutual
def medlarlaw09_SteinerForks.j0 : Nat → Int → List Int → Int → Bool → List Int → Bool → Option (Bool)
  | 0, _, _, _, _, _, _ => none
  | k + 1, x0, x1, x2, x7, x8, x42 => if x42 = true then (if x7 = true then (some ((x8.length : Int) == 0)) else (some false)) else (if (x8.length : Int) = (wrap64 ((x1.length : Int) - 1)) then (medlarlaw09_SteinerForks.l0 k x0 x1 x2 x7 x8 x8 (x8.length : Int) 0) else (some false))
def medlarlaw09_SteinerForks.l0 : Nat → Int → List Int → Int → Bool → List Int → List Int → Int → Int → Option (Bool)
  | 0, _, _, _, _, _, _, _, _ => none
  | k + 1, x0, x1, x2, x7, x8, x55, x56, x57 => if x57 < x56 then (if 0 ≤ x57 then (if x57 < (x55.length : Int) then (medlarlaw09_SteinerForks.l1 k x0 x1 x2 x7 x8 (rd x55 x57) x55 x56 x57 0) else (none)) else (none)) else ((steiner_Down.f k x0 x1 x2).bind fun bt511 => ((steiner_Is.f k x0 x1 x2).bind fun bt513 => (if bt511.2 = 0 then ((node_Above.f k x0 x2 bt511.1).bind fun bt515 => ((node_Depth.f k x0 bt511.1).bind fun bt517 => (if x7 = true then (if bt513.2 = 0 then (if bt513.1 = true then (if bt515.2 = 0 then (if bt515.1 = true then (if bt517.2 = 0 then (if bt517.1 = x0 then (some true) else ((medlarref02_In.f k x8 bt511.1).bind fun t519 => (some t519))) else (some false)) else (some false)) else (some false)) else (some false)) else (some false)) else (some false)))) else (if x7 = true then (if bt513.2 = bt511.2 then (some true) else (if bt513.2 = 0 then (some (!bt513.1)) else (some false))) else (some false)))))
def medlarlaw09_SteinerForks.l1 : Nat → Int → List Int → Int → Bool → List Int → Int → List Int → Int → Int → Int → Option (Bool)
  | 0, _, _, _, _, _, _, _, _, _, _ => none
  | k + 1, x0, x1, x2, x7, x8, x11, x55, x56, x57, x61 => if x61 < 2 then ((node_Child.f k x0 x11 x61).bind fun bt507 => ((steiner_Is.f k x0 x1 bt507.1).bind fun bt509 => (if bt507.2 = 0 then (if bt509.2 = 0 then (if bt509.1 = true then (medlarlaw09_SteinerForks.l1 k x0 x1 x2 x7 x8 x11 x55 x56 x57 (wrap64 (x61 + 1))) else (some false)) else (some false)) else (some false)))) else (medlarlaw09_SteinerForks.l0 k x0 x1 x2 x7 x8 x55 x56 (wrap64 (x57 + 1)))
end
def medlarlaw09_SteinerForks.f (k : Nat) (a0 : Int) (l1 : List Int) (a2 : Int) : Option (Bool) := (medlarlaw09_live.f k).bind fun t501 => (if (l1.length : Int) > 30 then (some t501) else ((steiner_Forks.f k a0 l1).bind fun bt502 => (if bt502.2 = 0 then (medlarlaw09_SteinerForks.j0 k a0 l1 a2 t501 bt502.1 ((l1.length : Int) == 0)) else (medlarlaw09_SteinerForks.j0 k a0 l1 a2 t501 bt502.1 true))))
theorem medlarlaw09_SteinerForks.mono_l : ∀ k, (∀ y0 y1 y2 y3 y4 y5, LeO (medlarlaw09_SteinerForks.j0 k y0 y1 y2 y3 y4 y5) (medlarlaw09_SteinerForks.j0 (k + 1) y0 y1 y2 y3 y4 y5)) ∧ (∀ y0 y1 y2 y3 y4 y5 y6 y7, LeO (medlarlaw09_SteinerForks.l0 k y0 y1 y2 y3 y4 y5 y6 y7) (medlarlaw09_SteinerForks.l0 (k + 1) y0 y1 y2 y3 y4 y5 y6 y7)) ∧ (∀ y0 y1 y2 y3 y4 y5 y6 y7 y8 y9, LeO (medlarlaw09_SteinerForks.l1 k y0 y1 y2 y3 y4 y5 y6 y7 y8 y9) (medlarlaw09_SteinerForks.l1 (k + 1) y0 y1 y2 y3 y4 y5 y6 y7 y8 y9))
  | 0 => ⟨fun _ _ _ _ _ _ r h => by simp [medlarlaw09_SteinerForks.j0] at h, fun _ _ _ _ _ _ _ _ r h => by simp [medlarlaw09_SteinerForks.l0] at h, fun _ _ _ _ _ _ _ _ _ _ r h => by simp [medlarlaw09_SteinerForks.l1] at h⟩
  | k + 1 => by
    obtain ⟨ih0, ih1, ih2⟩ := medlarlaw09_SteinerForks.mono_l k
    refine ⟨?_, ?_, ?_⟩
    · intro y0 y1 y2 y3 y4 y5
      unfold medlarlaw09_SteinerForks.j0
      repeat' first
      | (with_reducible exact ih0 _ _ _ _ _ _)
      | (with_reducible exact ih1 _ _ _ _ _ _ _ _)
      | (with_reducible exact ih2 _ _ _ _ _ _ _ _ _ _)
      | (with_reducible exact medlarlaw09_live.mono _)
      | (with_reducible exact medlarref02_In.mono _ _ _)
      | (with_reducible exact node_Above.mono _ _ _ _)
      | (with_reducible exact node_Child.mono _ _ _ _)
      | (with_reducible exact node_Depth.mono _ _ _)
      | (with_reducible exact steiner_Down.mono _ _ _ _)
      | (with_reducible exact steiner_Forks.mono _ _ _)
      | (with_reducible exact steiner_Is.mono _ _ _ _)
      | (with_reducible exact LeO.refl _)
      | (with_reducible exact LeO.none _)
      | (with_reducible refine LeO.ite ?_ ?_)
      | (with_reducible refine LeO.bind ?_ (fun _ => ?_))
      | exact ih0 _ _ _ _ _ _
      | exact ih1 _ _ _ _ _ _ _ _
      | exact ih2 _ _ _ _ _ _ _ _ _ _
      | exact medlarlaw09_live.mono _
      | exact medlarref02_In.mono _ _ _
      | exact node_Above.mono _ _ _ _
      | exact node_Child.mono _ _ _ _
      | exact node_Depth.mono _ _ _
      | exact steiner_Down.mono _ _ _ _
      | exact steiner_Forks.mono _ _ _
      | exact steiner_Is.mono _ _ _ _
      | exact LeO.none _
      | refine LeO.ite ?_ ?_
      | refine LeO.bind ?_ (fun _ => ?_)
    · intro y0 y1 y2 y3 y4 y5 y6 y7
      unfold medlarlaw09_SteinerForks.l0
      repeat' first
      | (with_reducible exact ih0 _ _ _ _ _ _)
      | (with_reducible exact ih1 _ _ _ _ _ _ _ _)
      | (with_reducible exact ih2 _ _ _ _ _ _ _ _ _ _)
      | (with_reducible exact medlarlaw09_live.mono _)
      | (with_reducible exact medlarref02_In.mono _ _ _)
      | (with_reducible exact node_Above.mono _ _ _ _)
      | (with_reducible exact node_Child.mono _ _ _ _)
      | (with_reducible exact node_Depth.mono _ _ _)
      | (with_reducible exact steiner_Down.mono _ _ _ _)
      | (with_reducible exact steiner_Forks.mono _ _ _)
      | (with_reducible exact steiner_Is.mono _ _ _ _)
      | (with_reducible exact LeO.refl _)
      | (with_reducible exact LeO.none _)
      | (with_reducible refine LeO.ite ?_ ?_)
      | (with_reducible refine LeO.bind ?_ (fun _ => ?_))
      | exact ih0 _ _ _ _ _ _
      | exact ih1 _ _ _ _ _ _ _ _
      | exact ih2 _ _ _ _ _ _ _ _ _ _
      | exact medlarlaw09_live.mono _
      | exact medlarref02_In.mono _ _ _
      | exact node_Above.mono _ _ _ _
      | exact node_Child.mono _ _ _ _
      | exact node_Depth.mono _ _ _
      | exact steiner_Down.mono _ _ _ _
      | exact steiner_Forks.mono _ _ _
      | exact steiner_Is.mono _ _ _ _
      | exact LeO.none _
      | refine LeO.ite ?_ ?_
      | refine LeO.bind ?_ (fun _ => ?_)
    · intro y0 y1 y2 y3 y4 y5 y6 y7 y8 y9
      unfold medlarlaw09_SteinerForks.l1
      repeat' first
      | (with_reducible exact ih0 _ _ _ _ _ _)
      | (with_reducible exact ih1 _ _ _ _ _ _ _ _)
      | (with_reducible exact ih2 _ _ _ _ _ _ _ _ _ _)
      | (with_reducible exact medlarlaw09_live.mono _)
      | (with_reducible exact medlarref02_In.mono _ _ _)
      | (with_reducible exact node_Above.mono _ _ _ _)
      | (with_reducible exact node_Child.mono _ _ _ _)
      | (with_reducible exact node_Depth.mono _ _ _)
      | (with_reducible exact steiner_Down.mono _ _ _ _)
      | (with_reducible exact steiner_Forks.mono _ _ _)
      | (with_reducible exact steiner_Is.mono _ _ _ _)
      | (with_reducible exact LeO.refl _)
      | (with_reducible exact LeO.none _)
      | (with_reducible refine LeO.ite ?_ ?_)
      | (with_reducible refine LeO.bind ?_ (fun _ => ?_))
      | exact ih0 _ _ _ _ _ _
      | exact ih1 _ _ _ _ _ _ _ _
      | exact ih2 _ _ _ _ _ _ _ _ _ _
      | exact medlarlaw09_live.mono _
      | exact medlarref02_In.mono _ _ _
      | exact node_Above.mono _ _ _ _
      | exact node_Child.mono _ _ _ _
      | exact node_Depth.mono _ _ _
      | exact steiner_Down.mono _ _ _ _
      | exact steiner_Forks.mono _ _ _
      | exact steiner_Is.mono _ _ _ _
      | exact LeO.none _
      | refine LeO.ite ?_ ?_
      | refine LeO.bind ?_ (fun _ => ?_)
theorem medlarlaw09_SteinerForks.mono : ∀ a0 a1 a2 k, LeO (medlarlaw09_SteinerForks.f k a0 a1 a2) (medlarlaw09_SteinerForks.f (k + 1) a0 a1 a2) := by
  intro a0 a1 a2 k
  obtain ⟨ih0, ih1, ih2⟩ := medlarlaw09_SteinerForks.mono_l k
  unfold medlarlaw09_SteinerForks.f
  repeat' first
      | (with_reducible exact ih0 _ _ _ _ _ _)
      | (with_reducible exact ih1 _ _ _ _ _ _ _ _)
      | (with_reducible exact ih2 _ _ _ _ _ _ _ _ _ _)
      | (with_reducible exact medlarlaw09_live.mono _)
      | (with_reducible exact medlarref02_In.mono _ _ _)
      | (with_reducible exact node_Above.mono _ _ _ _)
      | (with_reducible exact node_Child.mono _ _ _ _)
      | (with_reducible exact node_Depth.mono _ _ _)
      | (with_reducible exact steiner_Down.mono _ _ _ _)
      | (with_reducible exact steiner_Forks.mono _ _ _)
      | (with_reducible exact steiner_Is.mono _ _ _ _)
      | (with_reducible exact LeO.refl _)
      | (with_reducible exact LeO.none _)
      | (with_reducible refine LeO.ite ?_ ?_)
      | (with_reducible refine LeO.bind ?_ (fun _ => ?_))
      | exact ih0 _ _ _ _ _ _
      | exact ih1 _ _ _ _ _ _ _ _
      | exact ih2 _ _ _ _ _ _ _ _ _ _
      | exact medlarlaw09_live.mono _
      | exact medlarref02_In.mono _ _ _
      | exact node_Above.mono _ _ _ _
      | exact node_Child.mono _ _ _ _
      | exact node_Depth.mono _ _ _
      | exact steiner_Down.mono _ _ _ _
      | exact steiner_Forks.mono _ _ _
      | exact steiner_Is.mono _ _ _ _
      | exact LeO.none _
      | refine LeO.ite ?_ ?_
      | refine LeO.bind ?_ (fun _ => ?_)
set_option maxHeartbeats 8000000 in
set_option maxRecDepth 100000 in
theorem medlarlaw09_SteinerForks.calls (k : Nat) (a0 : Int) (A1 : Option Addr) (c1 : Nat) (l1 : List Int) (a2 : Int) (r : Bool) (w : World) (hr1 : Kd.C (Kd.int .u64) w A1 l1.length l1) (hc1 : l1.length ≤ c1) (h : medlarlaw09_SteinerForks.f k a0 l1 a2 = some r) (hT : Aside0 (r = true)) :
    Calls Try.prog 10 #[.int .i64 a0, .slice A1 l1.length c1, .int .u64 a2] w fun e w' => e = .returned (.bool r) ∧ Below w.heap.size w w' := by
  have HR1 := Aside0.mk hr1
  have HC1 := Aside0.mk hc1
  clear hr1 hc1
  have HB := Aside0.mk (Below.refl w.heap.size w)
  have H : ((medlarlaw09_live.f k).bind fun t501 => (if (l1.length : Int) > 30 then (some t501) else ((steiner_Forks.f k a0 l1).bind fun bt502 => (if bt502.2 = 0 then (medlarlaw09_SteinerForks.j0 k a0 l1 a2 t501 bt502.1 ((l1.length : Int) == 0)) else (medlarlaw09_SteinerForks.j0 k a0 l1 a2 t501 bt502.1 true))))) = some r := h
  clear h
  replace H := Option.bind_eq_some_iff.mp H
  obtain ⟨t501, A40, H⟩ := H
  replace H : (if (l1.length : Int) > 30 then (some t501) else ((steiner_Forks.f k a0 l1).bind fun bt502 => (if bt502.2 = 0 then (medlarlaw09_SteinerForks.j0 k a0 l1 a2 t501 bt502.1 ((l1.length : Int) == 0)) else (medlarlaw09_SteinerForks.j0 k a0 l1 a2 t501 bt502.1 true)))) = some r := H
  have A4 := Aside0.mk A40
  clear A40
  by_cases c5 : (l1.length : Int) > 30
  · rw [if_pos c5] at H
    have c5b0 : decide (30 < (l1.length : Int)) = true := decide_eq_true c5
    have c5b1 : decide (30 < l1.length) = true := decide_eq_true (by omega)
    clear c5
    obtain rfl := Option.some.inj H
    go_enter Try.func10, Try.ntmps10
    go_wp2_with (first | ((with_reducible refine gate_callee (f := 14) rfl ?_); refine goesL_ (some 25) rfl rfl Try.func14 (by kernel_rfl) rfl #[] rfl (by (try simp only [List.map_toArray, List.map_cons, List.map_nil]); first | done | rfl | (simp only [List.length_drop, List.length_take]; rfl)) ?_; (with_reducible refine (medlarlaw09_live.calls k  t501 _ A4.out).mono ?_); rintro e w6 ⟨rfl, hb⟩; refine ⟨_, rfl, ?_⟩; have n0_ := Aside0.mk (below_step (by repeat (first | (with_reducible first | exact HB.out | apply below_alloc | apply pw_below_drewN | apply below_drew1) | exact HB.out)) hb); clear HB; have HB := n0_; clear n0_; (try clear hb); (try clear hb2); (try clear hk); (try clear hi)))
    go_ret
    exact ⟨by first | rfl | (simp [errW_none, errW_some] <;> rfl) | (simp [*, errW_none, errW_some] <;> rfl), by repeat (first | (with_reducible first | exact HB.out | apply below_alloc | apply pw_below_drewN | apply below_drew1) | exact HB.out)⟩
  · rw [if_neg c5] at H
    have c5b0 : decide (30 < (l1.length : Int)) = false := decide_eq_false c5
    have c5b1 : decide (30 < l1.length) = false := decide_eq_false (by omega)
    clear c5
    replace H := Option.bind_eq_some_iff.mp H
    obtain ⟨⟨t502, t503⟩, A70, H⟩ := H
    replace H : (if t503 = 0 then (medlarlaw09_SteinerForks.j0 k a0 l1 a2 t501 t502 ((l1.length : Int) == 0)) else (medlarlaw09_SteinerForks.j0 k a0 l1 a2 t501 t502 true)) = some r := H
    have A7 := Aside0.mk A70
    clear A70
    have HC8 := Aside0.mk H
    clear H
    go_enter Try.func10, Try.ntmps10
    go_upto_region 5 with (first | ((with_reducible refine gate_callee (f := 14) rfl ?_); refine goesL_ (some 25) rfl rfl Try.func14 (by kernel_rfl) rfl #[] rfl (by (try simp only [List.map_toArray, List.map_cons, List.map_nil]); first | done | rfl | (simp only [List.length_drop, List.length_take]; rfl)) ?_; (with_reducible refine (medlarlaw09_live.calls k  t501 _ A4.out).mono ?_); rintro e w9 ⟨rfl, hb⟩; refine ⟨_, rfl, ?_⟩; have n0_ := Aside0.mk (below_step (by repeat (first | (with_reducible first | exact HB.out | apply below_alloc | apply pw_below_drewN | apply below_drew1) | exact HB.out)) hb); clear HB; have HB := n0_; clear n0_; (try clear hb); (try clear hb2); (try clear hk); (try clear hi)) | ((with_reducible refine gate_callee (f := 17) rfl ?_); refine goesL_ (some 33) rfl rfl Try.func17 (by kernel_rfl) rfl #[.int .i64 a0, .slice A1 l1.length c1] rfl (by (try simp only [List.map_toArray, List.map_cons, List.map_nil]); first | done | rfl | (simp only [List.length_drop, List.length_take]; rfl)) ?_; (with_reducible refine (steiner_Forks.calls k a0 _ _ l1 t502 t503 _ ?side1 ?side2 A7.out).mono ?_); (case side1 => repeat (first | exact (Kd.C_below HR1.out HB.out) | (with_reducible refine Kd.C_alloc ?_ _) | (with_reducible refine Kd.C_drewN ?_ _) | (with_reducible refine Kd.C_drew ?_))); (case side2 => exact HC1.out); rintro e w10 ⟨v504, rfl, ho0, hb⟩; refine ⟨_, rfl, ?_⟩; have n0_ := Aside0.mk (Kd.R_lower ho0 (below_size (by repeat (first | (with_reducible first | exact HB.out | apply below_alloc | apply pw_below_drewN | apply below_drew1) | exact HB.out)))); have n1_ := Aside0.mk (below_step (by repeat (first | (with_reducible first | exact HB.out | apply below_alloc | apply pw_below_drewN | apply below_drew1) | exact HB.out)) hb); clear HB; have HO505 := n0_; have HB := n1_; clear n0_ n1_; (try clear hb); (try clear hb2); (try clear hk); (try clear hi); (try clear ho0)))
    (try simp only [Act.put, List.setIfInBounds_toArray, List.set_cons_zero, List.set_cons_succ])
    go_cut [42] (fun v42 wc => ∃ (kq : Nat) (x42_7 : Bool), v42 = .bool x42_7 ∧ Aside0 (medlarlaw09_SteinerForks.j0 kq a0 l1 a2 t501 t502 x42_7 = some r) ∧ Aside0 (kq ≤ k) ∧ Aside0 (Kd.R (Kd.int .u64) 29 wc w.heap.size (fun _ => True) v504 t502) ∧ Aside0 (Below w.heap.size w wc))
    case first =>
      have H := HC8.out
      clear HC8
      by_cases c11 : t503 = 0
      · rw [if_pos c11] at H
        have c11b0 : (t503 == 0) = true := beq_iff_eq.mpr c11
        have c11b1 : (t503 != 0) = false := bne_eq_false_iff_eq.mpr c11
        clear c11
        (first | rw [c11b0] | (simp only [i64_w, i32_w]; rw [c11b0]) | skip)
        have H' := Aside0.mk H
        clear H
        go_wp2
        go_meet
        case rel => exact ⟨_, (((l1.length : Int) == 0)), (by first | rfl | (simp; done) | (simp [*]; done)), H', ⟨by first | omega | exact Nat.le_refl _⟩, ⟨by (with_reducible repeat (first | apply Kd.R_alloc | apply Kd.R_drewN | apply Kd.R_drew)); exact HO505.out⟩, ⟨by repeat (first | (with_reducible first | exact HB.out | apply below_alloc | apply pw_below_drewN | apply below_drew1) | exact HB.out)⟩⟩
      · rw [if_neg c11] at H
        have c11b0 : (t503 == 0) = false := beq_eq_false_iff_ne.mpr c11
        have c11b1 : (t503 != 0) = true := bne_iff_ne.mpr c11
        (first | rw [c11b0] | (simp only [i64_w, i32_w]; rw [c11b0]) | skip)
        have H' := Aside0.mk H
        clear H
        go_wp2
        go_meet
        case rel => exact ⟨_, (true), (by first | rfl | (simp; done) | (simp [*]; done)), H', ⟨by first | omega | exact Nat.le_refl _⟩, ⟨by (with_reducible repeat (first | apply Kd.R_alloc | apply Kd.R_drewN | apply Kd.R_drew)); exact HO505.out⟩, ⟨by repeat (first | (with_reducible first | exact HB.out | apply below_alloc | apply pw_below_drewN | apply below_drew1) | exact HB.out)⟩⟩
    case rest =>
      clear HC8
      try clear c1
      try clear p2
      try clear c5
      try clear c5b0
      try clear c5b1
      try clear c10
      try clear c11
      try clear c11b0
      try clear c11b1
      obtain ⟨kq, x42_7, rfl, HA, HJ7, HO_8, HB⟩ := hcut
      cases kq with
      | zero => exact absurd HA.out (by simp [medlarlaw09_SteinerForks.j0])
      | succ kj7 =>
        have H := HA.out
        clear HA
        simp only [medlarlaw09_SteinerForks.j0] at H
        by_cases c12 : x42_7 = true
        · subst c12
          have H1 : (if t501 = true then (some ((t502.length : Int) == 0)) else (some false)) = some r := by rw [if_pos rfl] at H; exact H
          clear H
          have H := H1
          clear H1
          by_cases c13 : t501 = true
          · subst c13
            have H1 : (some ((t502.length : Int) == 0)) = some r := by rw [if_pos rfl] at H; exact H
            clear H
            have H := H1
            clear H1
            obtain rfl := Option.some.inj H
            obtain ⟨Ao14, co14, eo14⟩ := Kd.R_slice HO_8.out
            subst eo14
            go_wp2
            go_ret
            exact ⟨by first | rfl | (simp [errW_none, errW_some] <;> rfl) | (simp [*, errW_none, errW_some] <;> rfl), by repeat (first | (with_reducible first | exact HB.out | apply below_alloc | apply pw_below_drewN | apply below_drew1) | exact HB.out)⟩
          · replace c13 := Bool.eq_false_iff.mpr c13
            subst c13
            have H1 : (some false) = some r := by rw [if_neg (show ¬ (false = true) by decide)] at H; exact H
            clear H
            have H := H1
            clear H1
            exact absurd ((Option.some.inj H).trans hT.out) Bool.false_ne_true
        · replace c12 := Bool.eq_false_iff.mpr c12
          subst c12
          have H1 : (if (t502.length : Int) = (wrap64 ((l1.length : Int) - 1)) then (medlarlaw09_SteinerForks.l0 kj7 a0 l1 a2 t501 t502 t502 (t502.length : Int) 0) else (some false)) = some r := by rw [if_neg (show ¬ (false = true) by decide)] at H; exact H
          clear H
          have H := H1
          clear H1
          by_cases c15 : (t502.length : Int) = (wrap64 ((l1.length : Int) - 1))
          · rw [if_pos c15] at H
            have c15b0 : ((t502.length : Int) == (wrap64 ((l1.length : Int) - 1))) = true := beq_iff_eq.mpr c15
            have c15b1 : ((t502.length : Int) != (wrap64 ((l1.length : Int) - 1))) = false := bne_eq_false_iff_eq.mpr c15
            clear c15
            have H' := Aside0.mk H
            clear H
            obtain ⟨Ao16, co16, eo16⟩ := Kd.R_slice HO_8.out
            subst eo16
            go_wp2
            go_loopg [57] kj7 (fun kq v57 w' => ∃ (x57_2 : Int), v57 = .int .i64 x57_2 ∧ Aside0 (medlarlaw09_SteinerForks.l0 kq a0 l1 a2 t501 t502 t502 (t502.length : Int) x57_2 = some r) ∧ Aside0 (kq ≤ kj7) ∧ Aside0 (Kd.R (Kd.int .u64) 29 w' w.heap.size (fun _ => True) (.slice Ao16 t502.length co16) t502) ∧ Aside0 (Kd.R (Kd.int .u64) 29 w' w.heap.size (fun _ => True) (.slice Ao16 t502.length co16) t502) ∧ Aside0 (Below w.heap.size w w'))
            case atStart => exact ⟨(0), (by first | rfl | (simp; done) | (simp [*]; done)), H', ⟨Nat.le_refl _⟩, ⟨by (with_reducible repeat (first | apply Kd.R_alloc | apply Kd.R_drewN | apply Kd.R_drew)); exact HO_8.out⟩, ⟨by (with_reducible repeat (first | apply Kd.R_alloc | apply Kd.R_drewN | apply Kd.R_drew)); exact HO_8.out⟩, ⟨by repeat (first | (with_reducible first | exact HB.out | apply below_alloc | apply pw_below_drewN | apply below_drew1) | exact HB.out)⟩⟩
            case round =>
              clear H'
              try clear c1
              try clear p2
              try clear c5
              try clear c5b0
              try clear c5b1
              try clear p6
              try clear c10
              try clear c11
              try clear c11b0
              try clear c11b1
              try clear c12
              try clear c13
              try clear c14
              try clear c15
              try clear c15b0
              try clear c15b1
              try clear p2
              obtain ⟨x57_2, rfl, HA, HK2, HO_8, HO_55, HB⟩ := hrel
              cases gk with
              | zero => exact absurd HA.out (by simp [medlarlaw09_SteinerForks.l0])
              | succ k2 =>
                have H := HA.out
                clear HA
                simp only [medlarlaw09_SteinerForks.l0] at H
                by_cases c17 : x57_2 < (t502.length : Int)
                · rw [if_pos c17] at H
                  have c17b0 : decide (x57_2 < (t502.length : Int)) = true := decide_eq_true c17
                  clear c17
                  by_cases c18 : 0 ≤ x57_2
                  · rw [if_pos c18] at H
                    have c18b0 : decide (0 ≤ x57_2) = true := decide_eq_true c18
                    clear c18
                    by_cases c19 : x57_2 < (t502.length : Int)
                    · rw [if_pos c19] at H
                      have c19b0 : decide (x57_2 < (t502.length : Int)) = true := decide_eq_true c19
                      clear c19
                      have H' := Aside0.mk H
                      clear H
                      have p506 : 0 ≤ (x57_2 : Int) := of_decide_eq_true (by first | (with_reducible assumption) | assumption)
                      have q506 : x57_2 < (t502.length : Int) := of_decide_eq_true (by first | (with_reducible assumption) | assumption)
                      obtain ⟨ad506, e506, hx506_0⟩ := Kd.at_int (Kd.R_reads' HO_55.out).2.2 x57_2 p506 q506
                      cases e506
                      replace p506 := eq_true p506
                      replace q506 := eq_true q506
                      go_wp2
                      go_loopg [61] k2 (fun kq v61 w' => ∃ (x61_3 : Int), v61 = .int .i64 x61_3 ∧ Aside0 (medlarlaw09_SteinerForks.l1 kq a0 l1 a2 t501 t502 (rd t502 x57_2) t502 (t502.length : Int) x57_2 x61_3 = some r) ∧ Aside0 (kq ≤ k2) ∧ Aside0 (Kd.R (Kd.int .u64) 29 w' w.heap.size (fun _ => True) (.slice (some ad506) t502.length co16) t502) ∧ Aside0 (Kd.R (Kd.int .u64) 29 w' w.heap.size (fun _ => True) (.slice (some ad506) t502.length co16) t502) ∧ Aside0 (Below w.heap.size w w'))
                      case atStart => exact ⟨(0), (by first | rfl | (simp; done) | (simp [*]; done)), H', ⟨Nat.le_refl _⟩, ⟨by (with_reducible repeat (first | apply Kd.R_alloc | apply Kd.R_drewN | apply Kd.R_drew)); exact HO_8.out⟩, ⟨by (with_reducible repeat (first | apply Kd.R_alloc | apply Kd.R_drewN | apply Kd.R_drew)); exact HO_55.out⟩, ⟨by repeat (first | (with_reducible first | exact HB.out | apply below_alloc | apply pw_below_drewN | apply below_drew1) | exact HB.out)⟩⟩
                      case round =>
                        clear H'
                        try clear c1
                        try clear p2
                        try clear c5
                        try clear c5b0
                        try clear c5b1
                        try clear p5
                        try clear q5
                        try clear hx5
                        try clear p6
                        try clear c10
                        try clear c11
                        try clear c11b0
                        try clear c11b1
                        try clear c12
                        try clear c13
                        try clear c14
                        try clear c15
                        try clear c15b0
                        try clear c15b1
                        try clear c17
                        try clear c17b0
                        try clear c18
                        try clear c18b0
                        try clear c19
                        try clear c19b0
                        try clear hx506_0
                        try clear p2
                        try clear p506
                        try clear p6
                        try clear q506
                        obtain ⟨x61_3, rfl, HA, HK3, HO_8, HO_55, HB⟩ := hrel
                        cases gk with
                        | zero => exact absurd HA.out (by simp [medlarlaw09_SteinerForks.l1])
                        | succ k3 =>
                          have H := HA.out
                          clear HA
                          simp only [medlarlaw09_SteinerForks.l1] at H
                          by_cases c20 : x61_3 < 2
                          · rw [if_pos c20] at H
                            have c20b0 : decide (x61_3 < 2) = true := decide_eq_true c20
                            clear c20
                            replace H := Option.bind_eq_some_iff.mp H
                            obtain ⟨⟨t507, t508⟩, A210, H⟩ := H
                            replace H : ((steiner_Is.f k3 a0 l1 t507).bind fun bt509 => (if t508 = 0 then (if bt509.2 = 0 then (if bt509.1 = true then (medlarlaw09_SteinerForks.l1 k3 a0 l1 a2 t501 t502 (rd t502 x57_2) t502 (t502.length : Int) x57_2 (wrap64 (x61_3 + 1))) else (some false)) else (some false)) else (some false))) = some r := H
                            have A21 := Aside0.mk A210
                            clear A210
                            replace H := Option.bind_eq_some_iff.mp H
                            obtain ⟨⟨t509, t510⟩, A220, H⟩ := H
                            replace H : (if t508 = 0 then (if t510 = 0 then (if t509 = true then (medlarlaw09_SteinerForks.l1 k3 a0 l1 a2 t501 t502 (rd t502 x57_2) t502 (t502.length : Int) x57_2 (wrap64 (x61_3 + 1))) else (some false)) else (some false)) else (some false)) = some r := H
                            have A22 := Aside0.mk A220
                            clear A220
                            by_cases c23 : t508 = 0
                            · rw [if_pos c23] at H
                              have c23b0 : (t508 == 0) = true := beq_iff_eq.mpr c23
                              have c23b1 : (t508 != 0) = false := bne_eq_false_iff_eq.mpr c23
                              clear c23
                              by_cases c24 : t510 = 0
                              · rw [if_pos c24] at H
                                have c24b0 : (t510 == 0) = true := beq_iff_eq.mpr c24
                                have c24b1 : (t510 != 0) = false := bne_eq_false_iff_eq.mpr c24
                                clear c24
                                by_cases c25 : t509 = true
                                · subst c25
                                  have H1 : (medlarlaw09_SteinerForks.l1 k3 a0 l1 a2 t501 t502 (rd t502 x57_2) t502 (t502.length : Int) x57_2 (wrap64 (x61_3 + 1))) = some r := by rw [if_pos rfl] at H; exact H
                                  clear H
                                  have H := H1
                                  clear H1
                                  have H' := Aside0.mk H
                                  clear H
                                  go_wp2_with (first | ((with_reducible refine gate_callee (f := 36) rfl ?_); refine goesL_ (some 68) rfl rfl Try.func36 (by kernel_rfl) rfl #[.int .i64 a0, .int .u64 (rd t502 x57_2), .int .i64 x61_3] rfl (by (try simp only [List.map_toArray, List.map_cons, List.map_nil]); first | done | rfl | (simp only [List.length_drop, List.length_take]; rfl)) ?_; (with_reducible refine (node_Child.calls k3 a0 (rd t502 x57_2) x61_3 t507 t508 _ A21.out).mono ?_); rintro e w' ⟨rfl, ⟨nd, rfl⟩⟩; refine ⟨_, rfl, ?_⟩) | ((with_reducible refine gate_callee (f := 27) rfl ?_); refine goesL_ (some 75) rfl rfl Try.func27 (by kernel_rfl) rfl #[.int .i64 a0, .slice A1 l1.length c1, .int .u64 t507] rfl (by (try simp only [List.map_toArray, List.map_cons, List.map_nil]); first | done | rfl | (simp only [List.length_drop, List.length_take]; rfl)) ?_; (with_reducible refine (steiner_Is.calls k3 a0 _ _ l1 t507 true t510 _ ?side1 ?side2 A22.out).mono ?_); (case side1 => repeat (first | exact (Kd.C_below HR1.out (by repeat (first | (with_reducible first | exact HB.out | apply below_alloc | apply pw_below_drewN | apply below_drew1) | exact HB.out))) | (with_reducible refine Kd.C_alloc ?_ _) | (with_reducible refine Kd.C_drewN ?_ _) | (with_reducible refine Kd.C_drew ?_))); (case side2 => exact HC1.out); rintro e w26 ⟨rfl, hb⟩; refine ⟨_, rfl, ?_⟩; have n0_ := Aside0.mk (Kd.R_below (by (with_reducible repeat (first | apply Kd.R_alloc | apply Kd.R_drewN | apply Kd.R_drew)); exact HO_8.out) hb); have n1_ := Aside0.mk (Kd.R_below (by (with_reducible repeat (first | apply Kd.R_alloc | apply Kd.R_drewN | apply Kd.R_drew)); exact HO_55.out) hb); have n2_ := Aside0.mk (below_step (by repeat (first | (with_reducible first | exact HB.out | apply below_alloc | apply pw_below_drewN | apply below_drew1) | exact HB.out)) hb); clear HO_8; clear HO_55; clear HB; have HO_8 := n0_; have HO_55 := n1_; have HB := n2_; clear n0_ n1_ n2_; (try clear hb); (try clear hb2); (try clear hk); (try clear hi)))
                                  go_roundg k3
                                  case measure => have := HJ7.out; have := HK2.out; have := HK3.out; omega
                                  case rel => exact ⟨(wrap64 (x61_3 + 1)), (by first | rfl | (simp; done) | (simp [*]; done)), H', ⟨by have := HJ7.out; have := HK2.out; have := HK3.out; omega⟩, ⟨by (with_reducible repeat (first | apply Kd.R_alloc | apply Kd.R_drewN | apply Kd.R_drew)); exact HO_8.out⟩, ⟨by (with_reducible repeat (first | apply Kd.R_alloc | apply Kd.R_drewN | apply Kd.R_drew)); exact HO_55.out⟩, ⟨by repeat (first | (with_reducible first | exact HB.out | apply below_alloc | apply pw_below_drewN | apply below_drew1) | exact HB.out)⟩⟩
                                · replace c25 := Bool.eq_false_iff.mpr c25
                                  subst c25
                                  have H1 : (some false) = some r := by rw [if_neg (show ¬ (false = true) by decide)] at H; exact H
                                  clear H
                                  have H := H1
                                  clear H1
                                  exact absurd ((Option.some.inj H).trans hT.out) Bool.false_ne_true
                              · rw [if_neg c24] at H
                                have c24b0 : (t510 == 0) = false := beq_eq_false_iff_ne.mpr c24
                                have c24b1 : (t510 != 0) = true := bne_iff_ne.mpr c24
                                exact absurd ((Option.some.inj H).trans hT.out) Bool.false_ne_true
                            · rw [if_neg c23] at H
                              have c23b0 : (t508 == 0) = false := beq_eq_false_iff_ne.mpr c23
                              have c23b1 : (t508 != 0) = true := bne_iff_ne.mpr c23
                              exact absurd ((Option.some.inj H).trans hT.out) Bool.false_ne_true
                          · rw [if_neg c20] at H
                            have c20b0 : decide (x61_3 < 2) = false := decide_eq_false c20
                            clear c20
                            have H' := Aside0.mk H
                            clear H
                            go_wp2
                            go_roundg k3
                            case measure => have := HJ7.out; have := HK2.out; have := HK3.out; omega
                            case rel => exact ⟨(wrap64 (x57_2 + 1)), (by first | rfl | (simp; done) | (simp [*]; done)), H', ⟨by have := HJ7.out; have := HK2.out; have := HK3.out; omega⟩, ⟨by (with_reducible repeat (first | apply Kd.R_alloc | apply Kd.R_drewN | apply Kd.R_drew)); exact HO_8.out⟩, ⟨by (with_reducible repeat (first | apply Kd.R_alloc | apply Kd.R_drewN | apply Kd.R_drew)); exact HO_55.out⟩, ⟨by repeat (first | (with_reducible first | exact HB.out | apply below_alloc | apply pw_below_drewN | apply below_drew1) | exact HB.out)⟩⟩
                    · rw [if_neg c19] at H
                      exact absurd H (by simp)
                  · rw [if_neg c18] at H
                    exact absurd H (by simp)
                · rw [if_neg c17] at H
                  have c17b0 : decide (x57_2 < (t502.length : Int)) = false := decide_eq_false c17
                  clear c17
                  replace H := Option.bind_eq_some_iff.mp H
                  obtain ⟨⟨t511, t512⟩, A270, H⟩ := H
                  replace H : ((steiner_Is.f k2 a0 l1 a2).bind fun bt513 => (if t512 = 0 then ((node_Above.f k2 a0 a2 t511).bind fun bt515 => ((node_Depth.f k2 a0 t511).bind fun bt517 => (if t501 = true then (if bt513.2 = 0 then (if bt513.1 = true then (if bt515.2 = 0 then (if bt515.1 = true then (if bt517.2 = 0 then (if bt517.1 = a0 then (some true) else ((medlarref02_In.f k2 t502 t511).bind fun t519 => (some t519))) else (some false)) else (some false)) else (some false)) else (some false)) else (some false)) else (some false)))) else (if t501 = true then (if bt513.2 = t512 then (some true) else (if bt513.2 = 0 then (some (!bt513.1)) else (some false))) else (some false)))) = some r := H
                  have A27 := Aside0.mk A270
                  clear A270
                  replace H := Option.bind_eq_some_iff.mp H
                  obtain ⟨⟨t513, t514⟩, A280, H⟩ := H
                  replace H : (if t512 = 0 then ((node_Above.f k2 a0 a2 t511).bind fun bt515 => ((node_Depth.f k2 a0 t511).bind fun bt517 => (if t501 = true then (if t514 = 0 then (if t513 = true then (if bt515.2 = 0 then (if bt515.1 = true then (if bt517.2 = 0 then (if bt517.1 = a0 then (some true) else ((medlarref02_In.f k2 t502 t511).bind fun t519 => (some t519))) else (some false)) else (some false)) else (some false)) else (some false)) else (some false)) else (some false)))) else (if t501 = true then (if t514 = t512 then (some true) else (if t514 = 0 then (some (!t513)) else (some false))) else (some false))) = some r := H
                  have A28 := Aside0.mk A280
                  clear A280
                  by_cases c29 : t512 = 0
                  · rw [if_pos c29] at H
                    have c29b0 : (t512 == 0) = true := beq_iff_eq.mpr c29
                    have c29b1 : (t512 != 0) = false := bne_eq_false_iff_eq.mpr c29
                    clear c29
                    replace H := Option.bind_eq_some_iff.mp H
                    obtain ⟨⟨t515, t516⟩, A300, H⟩ := H
                    replace H : ((node_Depth.f k2 a0 t511).bind fun bt517 => (if t501 = true then (if t514 = 0 then (if t513 = true then (if t516 = 0 then (if t515 = true then (if bt517.2 = 0 then (if bt517.1 = a0 then (some true) else ((medlarref02_In.f k2 t502 t511).bind fun t519 => (some t519))) else (some false)) else (some false)) else (some false)) else (some false)) else (some false)) else (some false))) = some r := H
                    have A30 := Aside0.mk A300
                    clear A300
                    replace H := Option.bind_eq_some_iff.mp H
                    obtain ⟨⟨t517, t518⟩, A310, H⟩ := H
                    replace H : (if t501 = true then (if t514 = 0 then (if t513 = true then (if t516 = 0 then (if t515 = true then (if t518 = 0 then (if t517 = a0 then (some true) else ((medlarref02_In.f k2 t502 t511).bind fun t519 => (some t519))) else (some false)) else (some false)) else (some false)) else (some false)) else (some false)) else (some false)) = some r := H
                    have A31 := Aside0.mk A310
                    clear A310
                    by_cases c32 : t501 = true
                    · subst c32
                      have H1 : (if t514 = 0 then (if t513 = true then (if t516 = 0 then (if t515 = true then (if t518 = 0 then (if t517 = a0 then (some true) else ((medlarref02_In.f k2 t502 t511).bind fun t519 => (some t519))) else (some false)) else (some false)) else (some false)) else (some false)) else (some false)) = some r := by rw [if_pos rfl] at H; exact H
                      clear H
                      have H := H1
                      clear H1
                      by_cases c33 : t514 = 0
                      · rw [if_pos c33] at H
                        have c33b0 : (t514 == 0) = true := beq_iff_eq.mpr c33
                        have c33b1 : (t514 != 0) = false := bne_eq_false_iff_eq.mpr c33
                        clear c33
                        by_cases c34 : t513 = true
                        · subst c34
                          have H1 : (if t516 = 0 then (if t515 = true then (if t518 = 0 then (if t517 = a0 then (some true) else ((medlarref02_In.f k2 t502 t511).bind fun t519 => (some t519))) else (some false)) else (some false)) else (some false)) = some r := by rw [if_pos rfl] at H; exact H
                          clear H
                          have H := H1
                          clear H1
                          by_cases c35 : t516 = 0
                          · rw [if_pos c35] at H
                            have c35b0 : (t516 == 0) = true := beq_iff_eq.mpr c35
                            have c35b1 : (t516 != 0) = false := bne_eq_false_iff_eq.mpr c35
                            clear c35
                            by_cases c36 : t515 = true
                            · subst c36
                              have H1 : (if t518 = 0 then (if t517 = a0 then (some true) else ((medlarref02_In.f k2 t502 t511).bind fun t519 => (some t519))) else (some false)) = some r := by rw [if_pos rfl] at H; exact H
                              clear H
                              have H := H1
                              clear H1
                              by_cases c37 : t518 = 0
                              · rw [if_pos c37] at H
                                have c37b0 : (t518 == 0) = true := beq_iff_eq.mpr c37
                                have c37b1 : (t518 != 0) = false := bne_eq_false_iff_eq.mpr c37
                                clear c37
                                by_cases c38 : t517 = a0
                                · rw [if_pos c38] at H
                                  have c38b0 : (t517 == a0) = true := beq_iff_eq.mpr c38
                                  have c38b1 : (t517 != a0) = false := bne_eq_false_iff_eq.mpr c38
                                  clear c38
                                  obtain rfl := Option.some.inj H
                                  go_wp2_with (first | ((with_reducible refine gate_callee (f := 31) rfl ?_); refine goesL_ (some 94) rfl rfl Try.func31 (by kernel_rfl) rfl #[.int .i64 a0, .slice A1 l1.length c1, .int .u64 a2] rfl (by (try simp only [List.map_toArray, List.map_cons, List.map_nil]); first | done | rfl | (simp only [List.length_drop, List.length_take]; rfl)) ?_; (with_reducible refine (steiner_Down.calls k2 a0 _ _ l1 a2 t511 t512 _ ?side1 ?side2 A27.out).mono ?_); (case side1 => repeat (first | exact (Kd.C_below HR1.out HB.out) | (with_reducible refine Kd.C_alloc ?_ _) | (with_reducible refine Kd.C_drewN ?_ _) | (with_reducible refine Kd.C_drew ?_))); (case side2 => exact HC1.out); rintro e w39 ⟨rfl, hb⟩; refine ⟨_, rfl, ?_⟩; have n0_ := Aside0.mk (Kd.R_below (by (with_reducible repeat (first | apply Kd.R_alloc | apply Kd.R_drewN | apply Kd.R_drew)); exact HO_8.out) hb); have n1_ := Aside0.mk (Kd.R_below (by (with_reducible repeat (first | apply Kd.R_alloc | apply Kd.R_drewN | apply Kd.R_drew)); exact HO_55.out) hb); have n2_ := Aside0.mk (below_step (by repeat (first | (with_reducible first | exact HB.out | apply below_alloc | apply pw_below_drewN | apply below_drew1) | exact HB.out)) hb); clear HO_8; clear HO_55; clear HB; have HO_8 := n0_; have HO_55 := n1_; have HB := n2_; clear n0_ n1_ n2_; (try clear hb); (try clear hb2); (try clear hk); (try clear hi)) | ((with_reducible refine gate_callee (f := 27) rfl ?_); refine goesL_ (some 101) rfl rfl Try.func27 (by kernel_rfl) rfl #[.int .i64 a0, .slice A1 l1.length c1, .int .u64 a2] rfl (by (try simp only [List.map_toArray, List.map_cons, List.map_nil]); first | done | rfl | (simp only [List.length_drop, List.length_take]; rfl)) ?_; (with_reducible refine (steiner_Is.calls k2 a0 _ _ l1 a2 true t514 _ ?side1 ?side2 A28.out).mono ?_); (case side1 => repeat (first | exact (Kd.C_below HR1.out HB.out) | (with_reducible refine Kd.C_alloc ?_ _) | (with_reducible refine Kd.C_drewN ?_ _) | (with_reducible refine Kd.C_drew ?_))); (case side2 => exact HC1.out); rintro e w40 ⟨rfl, hb⟩; refine ⟨_, rfl, ?_⟩; have n0_ := Aside0.mk (Kd.R_below (by (with_reducible repeat (first | apply Kd.R_alloc | apply Kd.R_drewN | apply Kd.R_drew)); exact HO_8.out) hb); have n1_ := Aside0.mk (Kd.R_below (by (with_reducible repeat (first | apply Kd.R_alloc | apply Kd.R_drewN | apply Kd.R_drew)); exact HO_55.out) hb); have n2_ := Aside0.mk (below_step (by repeat (first | (with_reducible first | exact HB.out | apply below_alloc | apply pw_below_drewN | apply below_drew1) | exact HB.out)) hb); clear HO_8; clear HO_55; clear HB; have HO_8 := n0_; have HO_55 := n1_; have HB := n2_; clear n0_ n1_ n2_; (try clear hb); (try clear hb2); (try clear hk); (try clear hi)) | ((with_reducible refine gate_callee (f := 28) rfl ?_); refine goesL_ (some 124) rfl rfl Try.func28 (by kernel_rfl) rfl #[.int .i64 a0, .int .u64 a2, .int .u64 t511] rfl (by (try simp only [List.map_toArray, List.map_cons, List.map_nil]); first | done | rfl | (simp only [List.length_drop, List.length_take]; rfl)) ?_; (with_reducible refine (node_Above.calls k2 a0 a2 t511 true t516 _ A30.out).mono ?_); rintro e w' ⟨rfl, ⟨nd, rfl⟩⟩; refine ⟨_, rfl, ?_⟩) | ((with_reducible refine gate_callee (f := 37) rfl ?_); refine goesL_ (some 130) rfl rfl Try.func37 (by kernel_rfl) rfl #[.int .i64 a0, .int .u64 t511] rfl (by (try simp only [List.map_toArray, List.map_cons, List.map_nil]); first | done | rfl | (simp only [List.length_drop, List.length_take]; rfl)) ?_; (with_reducible refine (node_Depth.calls k2 a0 t511 t517 t518 _ A31.out).mono ?_); rintro e w' ⟨rfl, ⟨nd, rfl⟩⟩; refine ⟨_, rfl, ?_⟩))
                                  go_ret
                                  exact ⟨by first | rfl | (simp [errW_none, errW_some] <;> rfl) | (simp [*, errW_none, errW_some] <;> rfl), by repeat (first | (with_reducible first | exact HB.out | apply below_alloc | apply pw_below_drewN | apply below_drew1) | exact HB.out)⟩
                                · rw [if_neg c38] at H
                                  have c38b0 : (t517 == a0) = false := beq_eq_false_iff_ne.mpr c38
                                  have c38b1 : (t517 != a0) = true := bne_iff_ne.mpr c38
                                  replace H := Option.bind_eq_some_iff.mp H
                                  obtain ⟨t519, A410, H⟩ := H
                                  replace H : (some t519) = some r := H
                                  have A41 := Aside0.mk A410
                                  clear A410
                                  obtain rfl := Option.some.inj H
                                  go_wp2_with (first | ((with_reducible refine gate_callee (f := 31) rfl ?_); refine goesL_ (some 94) rfl rfl Try.func31 (by kernel_rfl) rfl #[.int .i64 a0, .slice A1 l1.length c1, .int .u64 a2] rfl (by (try simp only [List.map_toArray, List.map_cons, List.map_nil]); first | done | rfl | (simp only [List.length_drop, List.length_take]; rfl)) ?_; (with_reducible refine (steiner_Down.calls k2 a0 _ _ l1 a2 t511 t512 _ ?side1 ?side2 A27.out).mono ?_); (case side1 => repeat (first | exact (Kd.C_below HR1.out HB.out) | (with_reducible refine Kd.C_alloc ?_ _) | (with_reducible refine Kd.C_drewN ?_ _) | (with_reducible refine Kd.C_drew ?_))); (case side2 => exact HC1.out); rintro e w42 ⟨rfl, hb⟩; refine ⟨_, rfl, ?_⟩; have n0_ := Aside0.mk (Kd.R_below (by (with_reducible repeat (first | apply Kd.R_alloc | apply Kd.R_drewN | apply Kd.R_drew)); exact HO_8.out) hb); have n1_ := Aside0.mk (Kd.R_below (by (with_reducible repeat (first | apply Kd.R_alloc | apply Kd.R_drewN | apply Kd.R_drew)); exact HO_55.out) hb); have n2_ := Aside0.mk (below_step (by repeat (first | (with_reducible first | exact HB.out | apply below_alloc | apply pw_below_drewN | apply below_drew1) | exact HB.out)) hb); clear HO_8; clear HO_55; clear HB; have HO_8 := n0_; have HO_55 := n1_; have HB := n2_; clear n0_ n1_ n2_; (try clear hb); (try clear hb2); (try clear hk); (try clear hi)) | ((with_reducible refine gate_callee (f := 27) rfl ?_); refine goesL_ (some 101) rfl rfl Try.func27 (by kernel_rfl) rfl #[.int .i64 a0, .slice A1 l1.length c1, .int .u64 a2] rfl (by (try simp only [List.map_toArray, List.map_cons, List.map_nil]); first | done | rfl | (simp only [List.length_drop, List.length_take]; rfl)) ?_; (with_reducible refine (steiner_Is.calls k2 a0 _ _ l1 a2 true t514 _ ?side1 ?side2 A28.out).mono ?_); (case side1 => repeat (first | exact (Kd.C_below HR1.out HB.out) | (with_reducible refine Kd.C_alloc ?_ _) | (with_reducible refine Kd.C_drewN ?_ _) | (with_reducible refine Kd.C_drew ?_))); (case side2 => exact HC1.out); rintro e w43 ⟨rfl, hb⟩; refine ⟨_, rfl, ?_⟩; have n0_ := Aside0.mk (Kd.R_below (by (with_reducible repeat (first | apply Kd.R_alloc | apply Kd.R_drewN | apply Kd.R_drew)); exact HO_8.out) hb); have n1_ := Aside0.mk (Kd.R_below (by (with_reducible repeat (first | apply Kd.R_alloc | apply Kd.R_drewN | apply Kd.R_drew)); exact HO_55.out) hb); have n2_ := Aside0.mk (below_step (by repeat (first | (with_reducible first | exact HB.out | apply below_alloc | apply pw_below_drewN | apply below_drew1) | exact HB.out)) hb); clear HO_8; clear HO_55; clear HB; have HO_8 := n0_; have HO_55 := n1_; have HB := n2_; clear n0_ n1_ n2_; (try clear hb); (try clear hb2); (try clear hk); (try clear hi)) | ((with_reducible refine gate_callee (f := 28) rfl ?_); refine goesL_ (some 124) rfl rfl Try.func28 (by kernel_rfl) rfl #[.int .i64 a0, .int .u64 a2, .int .u64 t511] rfl (by (try simp only [List.map_toArray, List.map_cons, List.map_nil]); first | done | rfl | (simp only [List.length_drop, List.length_take]; rfl)) ?_; (with_reducible refine (node_Above.calls k2 a0 a2 t511 true t516 _ A30.out).mono ?_); rintro e w' ⟨rfl, ⟨nd, rfl⟩⟩; refine ⟨_, rfl, ?_⟩) | ((with_reducible refine gate_callee (f := 37) rfl ?_); refine goesL_ (some 130) rfl rfl Try.func37 (by kernel_rfl) rfl #[.int .i64 a0, .int .u64 t511] rfl (by (try simp only [List.map_toArray, List.map_cons, List.map_nil]); first | done | rfl | (simp only [List.length_drop, List.length_take]; rfl)) ?_; (with_reducible refine (node_Depth.calls k2 a0 t511 t517 t518 _ A31.out).mono ?_); rintro e w' ⟨rfl, ⟨nd, rfl⟩⟩; refine ⟨_, rfl, ?_⟩) | (go_at_call 38; (with_reducible refine (medlarref02_In.calls k2 _ _ t502 t511 t519 _ ?side1 ?side2 A41.out).mono ?_); (case side1 => repeat (first | exact (Kd.R_reads' HO_8.out).2.2 | (with_reducible refine Kd.C_alloc ?_ _) | (with_reducible refine Kd.C_drewN ?_ _) | (with_reducible refine Kd.C_drew ?_))); (case side2 => exact (Kd.R_reads' HO_8.out).2.1); rintro e w' ⟨rfl, ⟨nd, rfl⟩⟩))
                                  go_ret
                                  exact ⟨by first | rfl | (simp [errW_none, errW_some] <;> rfl) | (simp [*, errW_none, errW_some] <;> rfl), by repeat (first | (with_reducible first | exact HB.out | apply below_alloc | apply pw_below_drewN | apply below_drew1) | exact HB.out)⟩
                              · rw [if_neg c37] at H
                                have c37b0 : (t518 == 0) = false := beq_eq_false_iff_ne.mpr c37
                                have c37b1 : (t518 != 0) = true := bne_iff_ne.mpr c37
                                exact absurd ((Option.some.inj H).trans hT.out) Bool.false_ne_true
                            · replace c36 := Bool.eq_false_iff.mpr c36
                              subst c36
                              have H1 : (some false) = some r := by rw [if_neg (show ¬ (false = true) by decide)] at H; exact H
                              clear H
                              have H := H1
                              clear H1
                              exact absurd ((Option.some.inj H).trans hT.out) Bool.false_ne_true
                          · rw [if_neg c35] at H
                            have c35b0 : (t516 == 0) = false := beq_eq_false_iff_ne.mpr c35
                            have c35b1 : (t516 != 0) = true := bne_iff_ne.mpr c35
                            exact absurd ((Option.some.inj H).trans hT.out) Bool.false_ne_true
                        · replace c34 := Bool.eq_false_iff.mpr c34
                          subst c34
                          have H1 : (some false) = some r := by rw [if_neg (show ¬ (false = true) by decide)] at H; exact H
                          clear H
                          have H := H1
                          clear H1
                          exact absurd ((Option.some.inj H).trans hT.out) Bool.false_ne_true
                      · rw [if_neg c33] at H
                        have c33b0 : (t514 == 0) = false := beq_eq_false_iff_ne.mpr c33
                        have c33b1 : (t514 != 0) = true := bne_iff_ne.mpr c33
                        exact absurd ((Option.some.inj H).trans hT.out) Bool.false_ne_true
                    · replace c32 := Bool.eq_false_iff.mpr c32
                      subst c32
                      have H1 : (some false) = some r := by rw [if_neg (show ¬ (false = true) by decide)] at H; exact H
                      clear H
                      have H := H1
                      clear H1
                      exact absurd ((Option.some.inj H).trans hT.out) Bool.false_ne_true
                  · rw [if_neg c29] at H
                    have c29b0 : (t512 == 0) = false := beq_eq_false_iff_ne.mpr c29
                    have c29b1 : (t512 != 0) = true := bne_iff_ne.mpr c29
                    by_cases c44 : t501 = true
                    · subst c44
                      have H1 : (if t514 = t512 then (some true) else (if t514 = 0 then (some (!t513)) else (some false))) = some r := by rw [if_pos rfl] at H; exact H
                      clear H
                      have H := H1
                      clear H1
                      by_cases c45 : t514 = t512
                      · rw [if_pos c45] at H
                        have c45b0 : (t514 == t512) = true := beq_iff_eq.mpr c45
                        have c45b1 : (t514 != t512) = false := bne_eq_false_iff_eq.mpr c45
                        clear c45
                        obtain rfl := Option.some.inj H
                        go_wp2_with (first | ((with_reducible refine gate_callee (f := 31) rfl ?_); refine goesL_ (some 94) rfl rfl Try.func31 (by kernel_rfl) rfl #[.int .i64 a0, .slice A1 l1.length c1, .int .u64 a2] rfl (by (try simp only [List.map_toArray, List.map_cons, List.map_nil]); first | done | rfl | (simp only [List.length_drop, List.length_take]; rfl)) ?_; (with_reducible refine (steiner_Down.calls k2 a0 _ _ l1 a2 t511 t512 _ ?side1 ?side2 A27.out).mono ?_); (case side1 => repeat (first | exact (Kd.C_below HR1.out HB.out) | (with_reducible refine Kd.C_alloc ?_ _) | (with_reducible refine Kd.C_drewN ?_ _) | (with_reducible refine Kd.C_drew ?_))); (case side2 => exact HC1.out); rintro e w46 ⟨rfl, hb⟩; refine ⟨_, rfl, ?_⟩; have n0_ := Aside0.mk (Kd.R_below (by (with_reducible repeat (first | apply Kd.R_alloc | apply Kd.R_drewN | apply Kd.R_drew)); exact HO_8.out) hb); have n1_ := Aside0.mk (Kd.R_below (by (with_reducible repeat (first | apply Kd.R_alloc | apply Kd.R_drewN | apply Kd.R_drew)); exact HO_55.out) hb); have n2_ := Aside0.mk (below_step (by repeat (first | (with_reducible first | exact HB.out | apply below_alloc | apply pw_below_drewN | apply below_drew1) | exact HB.out)) hb); clear HO_8; clear HO_55; clear HB; have HO_8 := n0_; have HO_55 := n1_; have HB := n2_; clear n0_ n1_ n2_; (try clear hb); (try clear hb2); (try clear hk); (try clear hi)) | ((with_reducible refine gate_callee (f := 27) rfl ?_); refine goesL_ (some 101) rfl rfl Try.func27 (by kernel_rfl) rfl #[.int .i64 a0, .slice A1 l1.length c1, .int .u64 a2] rfl (by (try simp only [List.map_toArray, List.map_cons, List.map_nil]); first | done | rfl | (simp only [List.length_drop, List.length_take]; rfl)) ?_; (with_reducible refine (steiner_Is.calls k2 a0 _ _ l1 a2 t513 t514 _ ?side1 ?side2 A28.out).mono ?_); (case side1 => repeat (first | exact (Kd.C_below HR1.out HB.out) | (with_reducible refine Kd.C_alloc ?_ _) | (with_reducible refine Kd.C_drewN ?_ _) | (with_reducible refine Kd.C_drew ?_))); (case side2 => exact HC1.out); rintro e w47 ⟨rfl, hb⟩; refine ⟨_, rfl, ?_⟩; have n0_ := Aside0.mk (Kd.R_below (by (with_reducible repeat (first | apply Kd.R_alloc | apply Kd.R_drewN | apply Kd.R_drew)); exact HO_8.out) hb); have n1_ := Aside0.mk (Kd.R_below (by (with_reducible repeat (first | apply Kd.R_alloc | apply Kd.R_drewN | apply Kd.R_drew)); exact HO_55.out) hb); have n2_ := Aside0.mk (below_step (by repeat (first | (with_reducible first | exact HB.out | apply below_alloc | apply pw_below_drewN | apply below_drew1) | exact HB.out)) hb); clear HO_8; clear HO_55; clear HB; have HO_8 := n0_; have HO_55 := n1_; have HB := n2_; clear n0_ n1_ n2_; (try clear hb); (try clear hb2); (try clear hk); (try clear hi)))
                        go_ret
                        exact ⟨by first | rfl | (simp [errW_none, errW_some] <;> rfl) | (simp [*, errW_none, errW_some] <;> rfl), by repeat (first | (with_reducible first | exact HB.out | apply below_alloc | apply pw_below_drewN | apply below_drew1) | exact HB.out)⟩
                      · rw [if_neg c45] at H
                        have c45b0 : (t514 == t512) = false := beq_eq_false_iff_ne.mpr c45
                        have c45b1 : (t514 != t512) = true := bne_iff_ne.mpr c45
                        by_cases c48 : t514 = 0
                        · rw [if_pos c48] at H
                          have c48b0 : (t514 == 0) = true := beq_iff_eq.mpr c48
                          have c48b1 : (t514 != 0) = false := bne_eq_false_iff_eq.mpr c48
                          clear c48
                          obtain rfl := Option.some.inj H
                          go_wp2_with (first | ((with_reducible refine gate_callee (f := 31) rfl ?_); refine goesL_ (some 94) rfl rfl Try.func31 (by kernel_rfl) rfl #[.int .i64 a0, .slice A1 l1.length c1, .int .u64 a2] rfl (by (try simp only [List.map_toArray, List.map_cons, List.map_nil]); first | done | rfl | (simp only [List.length_drop, List.length_take]; rfl)) ?_; (with_reducible refine (steiner_Down.calls k2 a0 _ _ l1 a2 t511 t512 _ ?side1 ?side2 A27.out).mono ?_); (case side1 => repeat (first | exact (Kd.C_below HR1.out HB.out) | (with_reducible refine Kd.C_alloc ?_ _) | (with_reducible refine Kd.C_drewN ?_ _) | (with_reducible refine Kd.C_drew ?_))); (case side2 => exact HC1.out); rintro e w49 ⟨rfl, hb⟩; refine ⟨_, rfl, ?_⟩; have n0_ := Aside0.mk (Kd.R_below (by (with_reducible repeat (first | apply Kd.R_alloc | apply Kd.R_drewN | apply Kd.R_drew)); exact HO_8.out) hb); have n1_ := Aside0.mk (Kd.R_below (by (with_reducible repeat (first | apply Kd.R_alloc | apply Kd.R_drewN | apply Kd.R_drew)); exact HO_55.out) hb); have n2_ := Aside0.mk (below_step (by repeat (first | (with_reducible first | exact HB.out | apply below_alloc | apply pw_below_drewN | apply below_drew1) | exact HB.out)) hb); clear HO_8; clear HO_55; clear HB; have HO_8 := n0_; have HO_55 := n1_; have HB := n2_; clear n0_ n1_ n2_; (try clear hb); (try clear hb2); (try clear hk); (try clear hi)) | ((with_reducible refine gate_callee (f := 27) rfl ?_); refine goesL_ (some 101) rfl rfl Try.func27 (by kernel_rfl) rfl #[.int .i64 a0, .slice A1 l1.length c1, .int .u64 a2] rfl (by (try simp only [List.map_toArray, List.map_cons, List.map_nil]); first | done | rfl | (simp only [List.length_drop, List.length_take]; rfl)) ?_; (with_reducible refine (steiner_Is.calls k2 a0 _ _ l1 a2 t513 t514 _ ?side1 ?side2 A28.out).mono ?_); (case side1 => repeat (first | exact (Kd.C_below HR1.out HB.out) | (with_reducible refine Kd.C_alloc ?_ _) | (with_reducible refine Kd.C_drewN ?_ _) | (with_reducible refine Kd.C_drew ?_))); (case side2 => exact HC1.out); rintro e w50 ⟨rfl, hb⟩; refine ⟨_, rfl, ?_⟩; have n0_ := Aside0.mk (Kd.R_below (by (with_reducible repeat (first | apply Kd.R_alloc | apply Kd.R_drewN | apply Kd.R_drew)); exact HO_8.out) hb); have n1_ := Aside0.mk (Kd.R_below (by (with_reducible repeat (first | apply Kd.R_alloc | apply Kd.R_drewN | apply Kd.R_drew)); exact HO_55.out) hb); have n2_ := Aside0.mk (below_step (by repeat (first | (with_reducible first | exact HB.out | apply below_alloc | apply pw_below_drewN | apply below_drew1) | exact HB.out)) hb); clear HO_8; clear HO_55; clear HB; have HO_8 := n0_; have HO_55 := n1_; have HB := n2_; clear n0_ n1_ n2_; (try clear hb); (try clear hb2); (try clear hk); (try clear hi)))
                          go_ret
                          exact ⟨by first | rfl | (simp [errW_none, errW_some] <;> rfl) | (simp [*, errW_none, errW_some] <;> rfl), by repeat (first | (with_reducible first | exact HB.out | apply below_alloc | apply pw_below_drewN | apply below_drew1) | exact HB.out)⟩
                        · rw [if_neg c48] at H
                          have c48b0 : (t514 == 0) = false := beq_eq_false_iff_ne.mpr c48
                          have c48b1 : (t514 != 0) = true := bne_iff_ne.mpr c48
                          exact absurd ((Option.some.inj H).trans hT.out) Bool.false_ne_true
                    · replace c44 := Bool.eq_false_iff.mpr c44
                      subst c44
                      have H1 : (some false) = some r := by rw [if_neg (show ¬ (false = true) by decide)] at H; exact H
                      clear H
                      have H := H1
                      clear H1
                      exact absurd ((Option.some.inj H).trans hT.out) Bool.false_ne_true
          · rw [if_neg c15] at H
            have c15b0 : ((t502.length : Int) == (wrap64 ((l1.length : Int) - 1))) = false := beq_eq_false_iff_ne.mpr c15
            have c15b1 : ((t502.length : Int) != (wrap64 ((l1.length : Int) - 1))) = true := bne_iff_ne.mpr c15
            exact absurd ((Option.some.inj H).trans hT.out) Bool.false_ne_true

/-- THE ONE PURE STATEMENT of medlarlaw09_SteinerForks: yours. -/
def medlarlaw09_SteinerForks.Pure : Prop := ∀ (a0 : Int) (l1 : List Int) (a2 : Int), (Lit.int .i64 a0).wf = true → l1.length ≤ maxLen → l1.length * 8 ≤ 140737488351232 → (∀ x ∈ l1, (Lit.int .u64 x).wf = true) → (Lit.int .u64 a2).wf = true → ∃ k, medlarlaw09_SteinerForks.f k a0 l1 a2 = some true
theorem medlarlaw09_SteinerForks.walk (P : medlarlaw09_SteinerForks.Pure) (a0 : Int) (a1 : Option Addr) (len1 cap1 : Nat) (z1 : List Int) (a2 : Int) (w : World) (w0 : (Lit.int .i64 a0).wf = true) (w1 : (a1 = none ∧ len1 = 0 ∧ cap1 = 0 ∧ z1 = []) ∨ ∃ x, a1 = some x ∧ len1 ≤ cap1 ∧ cap1 ≤ maxLen ∧ z1.length = cap1 ∧ (∀ i, i < z1.length → w.cell? (x.add i) = some (.int .u64 (z1.getD i 0))) ∧ ∀ n ∈ z1, (Lit.int .u64 n).wf = true) (y1 : len1 * 8 ≤ 140737488351232) (w2 : (Lit.int .u64 a2).wf = true) :
    Calls Try.prog 10 #[.int .i64 a0, .slice a1 len1 cap1, .int .u64 a2] w fun e w' => e = .returned (.bool true) ∧ Below w.heap.size w w' := by
  obtain ⟨l1, rfl, hr1, hm1, hw1, hc1⟩ := ReadsInt.ofRowC w1
  obtain ⟨k, h⟩ := P a0 l1 a2 w0 hm1 y1 hw1 w2
  refine (medlarlaw09_SteinerForks.calls k a0 _ _ l1 a2 true w (Kd.C_of_reads (d := (0 : Int)) (h1 := fun _ => rfl) hr1) hc1 h ⟨rfl⟩).mono ?_
  rintro e w' ⟨rfl, hd⟩
  exact ⟨rfl, hd⟩

end Go.Proofs.Ytoikjfcdpiikbaa.MP
