-- written by a program of this session (wip/tools/mprint.sh) for this seat
import Derived.Test.YtnbiddloiiljjaaMPx0
import Derived.Test.YtnbiddloiiljjaaMPx3
import Derived.Test.YtnbiddloiiljjaaMPx4
import Derived.Test.YtnbiddloiiljjaaMPx5
namespace Go.Proofs.Ytnbiddloiiljjaa.MP
open Go.RowKit Go.Proofs.YtnbiddloiiljjaaW.PrintWords Go.Proofs.YtnbiddloiiljjaaW.PrintLast Go.Proofs.YtnbiddloiiljjaaW.PrintMore
attribute [local go_sem] max2_int min2_int max_two min_two max_three min_three max_four min_four
set_option linter.unusedVariables false
set_option linter.unusedSimpArgs false
mutual
def medlarlaw23_TraceCover.j0 : Nat → Int → Int → List Int → List Int → Bool → Bool → Option (Bool)
  | 0, _, _, _, _, _, _ => none
  | k + 1, x0, x1, x2, x3, x9, x29 => if x29 = true then (some x9) else ((layer_Cover.f k x0 x1 x2).bind fun bt389 => (if bt389.2 = 0 then ((leaf_Check.f k x0 x3).bind fun t393 => (if t393 = 0 then (medlarlaw23_TraceCover.j1 k x0 x1 x2 x3 x9 bt389.1 ((bt389.1.length : Int) == 0)) else (medlarlaw23_TraceCover.j1 k x0 x1 x2 x3 x9 bt389.1 true))) else (medlarlaw23_TraceCover.j1 k x0 x1 x2 x3 x9 bt389.1 true)))
def medlarlaw23_TraceCover.j1 : Nat → Int → Int → List Int → List Int → Bool → List (S24) → Bool → Option (Bool)
  | 0, _, _, _, _, _, _, _ => none
  | k + 1, x0, x1, x2, x3, x9, x10, x50 => if x50 = true then (some x9) else ((trace_Trace.f k x0 x1 x10 false x3 ([] : List Bool)).bind fun bt394 => (medlarlaw23_TraceCover.l0 k x2 x3 x9 bt394.2.2.2 false x3 (x3.length : Int) 0 bt394.1 bt394.2.1 bt394.2.2.1))
def medlarlaw23_TraceCover.l0 : Nat → List Int → List Int → Bool → Int → Bool → List Int → Int → Int → Bool → Int → Int → Option (Bool)
  | 0, _, _, _, _, _, _, _, _, _, _, _ => none
  | k + 1, x2, x3, x9, x13, x14, x61, x62, x63, x399000, x399001, x399002 => if x63 < x62 then (if 0 ≤ x63 then (if x63 < (x61.length : Int) then (if x14 = true then (medlarlaw23_TraceCover.l0 k x2 x3 x9 x13 true x61 x62 (wrap64 (x63 + 1)) x399000 x399001 x399002) else ((medlarref02_In.f k x2 (rd x61 x63)).bind fun t400 => (medlarlaw23_TraceCover.l0 k x2 x3 x9 x13 (!t400) x61 x62 (wrap64 (x63 + 1)) x399000 x399001 x399002))) else (none)) else (none)) else (if x9 = true then (if x13 = 0 then (if (x399000 == x14) = true then (if x14 = true then ((medlarref02_In.f k x3 x399001).bind fun t401 => (if t401 = true then ((medlarref02_In.f k x2 x399001).bind fun t402 => (some (!t402))) else (some false))) else (some true)) else (some false)) else (some false)) else (some false))
end
def medlarlaw23_TraceCover.f (k : Nat) (a0 : Int) (a1 : Int) (l2 : List Int) (l3 : List Int) : Option (Bool) := (medlarlaw23_live.f k).bind fun t388 => (if (l2.length : Int) > 20 then (medlarlaw23_TraceCover.j0 k a0 a1 l2 l3 t388 true) else (if (l3.length : Int) > 20 then (medlarlaw23_TraceCover.j0 k a0 a1 l2 l3 t388 true) else (medlarlaw23_TraceCover.j0 k a0 a1 l2 l3 t388 (a1 == 3))))
set_option maxHeartbeats 8000000 in
set_option maxRecDepth 100000 in
theorem medlarlaw23_TraceCover.calls (k : Nat) (a0 : Int) (a1 : Int) (A2 : Option Addr) (c2 : Nat) (l2 : List Int) (A3 : Option Addr) (c3 : Nat) (l3 : List Int) (r : Bool) (w : World) (hr2 : Kd.C (Kd.int .u64) w A2 l2.length l2) (hc2 : l2.length ≤ c2) (hr3 : Kd.C (Kd.int .u64) w A3 l3.length l3) (hc3 : l3.length ≤ c3) (h : medlarlaw23_TraceCover.f k a0 a1 l2 l3 = some r) (hT : Aside0 (r = true)) :
    Calls Try.prog 8 #[.int .i64 a0, .int .i64 a1, .slice A2 l2.length c2, .slice A3 l3.length c3] w fun e w' => e = .returned (.bool r) ∧ Below w.heap.size w w' := by
  have hu42 := Try.underlying42
  have hu48 := Try.underlying48
  have HR2 := Aside0.mk hr2
  have HC2 := Aside0.mk hc2
  clear hr2 hc2
  have HR3 := Aside0.mk hr3
  have HC3 := Aside0.mk hc3
  clear hr3 hc3
  have HB := Aside0.mk (Below.refl w.heap.size w)
  have H : ((medlarlaw23_live.f k).bind fun t388 => (if (l2.length : Int) > 20 then (medlarlaw23_TraceCover.j0 k a0 a1 l2 l3 t388 true) else (if (l3.length : Int) > 20 then (medlarlaw23_TraceCover.j0 k a0 a1 l2 l3 t388 true) else (medlarlaw23_TraceCover.j0 k a0 a1 l2 l3 t388 (a1 == 3))))) = some r := h
  clear h
  replace H := Option.bind_eq_some_iff.mp H
  obtain ⟨t388, A50, H⟩ := H
  replace H : (if (l2.length : Int) > 20 then (medlarlaw23_TraceCover.j0 k a0 a1 l2 l3 t388 true) else (if (l3.length : Int) > 20 then (medlarlaw23_TraceCover.j0 k a0 a1 l2 l3 t388 true) else (medlarlaw23_TraceCover.j0 k a0 a1 l2 l3 t388 (a1 == 3)))) = some r := H
  have A5 := Aside0.mk A50
  clear A50
  have HC6 := Aside0.mk H
  clear H
  go_enter Try.func8, Try.ntmps8
  go_upto_region 2 with (first | ((with_reducible refine gate_callee (f := 9) rfl ?_); refine goesL_ (some 17) rfl rfl Try.func9 (by kernel_rfl) rfl #[] rfl (by (try simp only [List.map_toArray, List.map_cons, List.map_nil]); first | done | rfl | (simp only [List.length_drop, List.length_take]; rfl)) ?_; (with_reducible refine (medlarlaw23_live.calls k  t388 _ A5.out).mono ?_); rintro e w7 ⟨rfl, hb⟩; refine ⟨_, rfl, ?_⟩; have n0_ := Aside0.mk (below_step (by repeat (first | (with_reducible first | exact HB.out | apply below_alloc | apply pw_below_drewN | apply below_drew1) | exact HB.out)) hb); clear HB; have HB := n0_; clear n0_; (try clear hb); (try clear hb2); (try clear hk); (try clear hi)))
  (try simp only [Act.put, List.setIfInBounds_toArray, List.set_cons_zero, List.set_cons_succ])
  go_cut [29] (fun v29 wc => ∃ (kq : Nat) (x29_5 : Bool), v29 = .bool x29_5 ∧ Aside0 (medlarlaw23_TraceCover.j0 kq a0 a1 l2 l3 t388 x29_5 = some r) ∧ Aside0 (kq ≤ k) ∧ Aside0 (Below w.heap.size w wc))
  case first =>
    have H := HC6.out
    clear HC6
    by_cases c8 : (l2.length : Int) > 20
    · rw [if_pos c8] at H
      have c8b0 : decide (20 < (l2.length : Int)) = true := decide_eq_true c8
      have c8b1 : decide (20 < l2.length) = true := decide_eq_true (by omega)
      clear c8
      (first | rw [c8b0] | (simp only [i64_w, i32_w]; rw [c8b0]) | skip)
      have H' := Aside0.mk H
      clear H
      go_wp2
      go_meet
      case rel => exact ⟨_, (true), (by first | rfl | (simp; done) | (simp [*]; done)), H', ⟨by first | omega | exact Nat.le_refl _⟩, ⟨by repeat (first | (with_reducible first | exact HB.out | apply below_alloc | apply pw_below_drewN | apply below_drew1) | exact HB.out)⟩⟩
    · rw [if_neg c8] at H
      have c8b0 : decide (20 < (l2.length : Int)) = false := decide_eq_false c8
      have c8b1 : decide (20 < l2.length) = false := decide_eq_false (by omega)
      clear c8
      (first | rw [c8b0] | (simp only [i64_w, i32_w]; rw [c8b0]) | skip)
      by_cases c9 : (l3.length : Int) > 20
      · rw [if_pos c9] at H
        have c9b0 : decide (20 < (l3.length : Int)) = true := decide_eq_true c9
        have c9b1 : decide (20 < l3.length) = true := decide_eq_true (by omega)
        clear c9
        have H' := Aside0.mk H
        clear H
        go_wp2
        go_meet
        case rel => exact ⟨_, (true), (by first | rfl | (simp; done) | (simp [*]; done)), H', ⟨by first | omega | exact Nat.le_refl _⟩, ⟨by repeat (first | (with_reducible first | exact HB.out | apply below_alloc | apply pw_below_drewN | apply below_drew1) | exact HB.out)⟩⟩
      · rw [if_neg c9] at H
        have c9b0 : decide (20 < (l3.length : Int)) = false := decide_eq_false c9
        have c9b1 : decide (20 < l3.length) = false := decide_eq_false (by omega)
        clear c9
        have H' := Aside0.mk H
        clear H
        go_wp2
        go_meet
        case rel => exact ⟨_, ((a1 == 3)), (by first | rfl | (simp; done) | (simp [*]; done)), H', ⟨by first | omega | exact Nat.le_refl _⟩, ⟨by repeat (first | (with_reducible first | exact HB.out | apply below_alloc | apply pw_below_drewN | apply below_drew1) | exact HB.out)⟩⟩
  case rest =>
    clear HC6
    try clear c2
    try clear p2
    try clear c3
    try clear c8
    try clear c8b0
    try clear c8b1
    try clear c9
    try clear c9b0
    try clear c9b1
    obtain ⟨kq, x29_5, rfl, HA, HJ5, HB⟩ := hcut
    cases kq with
    | zero => exact absurd HA.out (by simp [medlarlaw23_TraceCover.j0])
    | succ kj5 =>
      have H := HA.out
      clear HA
      simp only [medlarlaw23_TraceCover.j0] at H
      by_cases c10 : x29_5 = true
      · subst c10
        have H1 : (some t388) = some r := by rw [if_pos rfl] at H; exact H
        clear H
        have H := H1
        clear H1
        obtain rfl := Option.some.inj H
        go_wp2
        go_ret
        exact ⟨by first | rfl | (simp [errW_none, errW_some] <;> rfl) | (simp [*, errW_none, errW_some] <;> rfl), by repeat (first | (with_reducible first | exact HB.out | apply below_alloc | apply pw_below_drewN | apply below_drew1) | exact HB.out)⟩
      · replace c10 := Bool.eq_false_iff.mpr c10
        subst c10
        have H1 : ((layer_Cover.f kj5 a0 a1 l2).bind fun bt389 => (if bt389.2 = 0 then ((leaf_Check.f kj5 a0 l3).bind fun t393 => (if t393 = 0 then (medlarlaw23_TraceCover.j1 kj5 a0 a1 l2 l3 t388 bt389.1 ((bt389.1.length : Int) == 0)) else (medlarlaw23_TraceCover.j1 kj5 a0 a1 l2 l3 t388 bt389.1 true))) else (medlarlaw23_TraceCover.j1 kj5 a0 a1 l2 l3 t388 bt389.1 true))) = some r := by rw [if_neg (show ¬ (false = true) by decide)] at H; exact H
        clear H
        have H := H1
        clear H1
        replace H := Option.bind_eq_some_iff.mp H
        obtain ⟨⟨t389, t390⟩, A110, H⟩ := H
        replace H : (if t390 = 0 then ((leaf_Check.f kj5 a0 l3).bind fun t393 => (if t393 = 0 then (medlarlaw23_TraceCover.j1 kj5 a0 a1 l2 l3 t388 t389 ((t389.length : Int) == 0)) else (medlarlaw23_TraceCover.j1 kj5 a0 a1 l2 l3 t388 t389 true))) else (medlarlaw23_TraceCover.j1 kj5 a0 a1 l2 l3 t388 t389 true)) = some r := H
        have A11 := Aside0.mk A110
        clear A110
        have HC12 := Aside0.mk H
        clear H
        go_upto_region 5 with (first | ((with_reducible refine gate_callee (f := 26) rfl ?_); refine goesL_ (some 35) rfl rfl Try.func26 (by kernel_rfl) rfl #[.int .i64 a0, .int .i64 a1, .slice A2 l2.length c2] rfl (by (try simp only [List.map_toArray, List.map_cons, List.map_nil]); first | done | rfl | (simp only [List.length_drop, List.length_take]; rfl)) ?_; (with_reducible refine (layer_Cover.calls kj5 a0 a1 _ _ l2 t389 t390 _ ?side1 ?side2 A11.out).mono ?_); (case side1 => repeat (first | exact (Kd.C_below HR2.out HB.out) | (with_reducible refine Kd.C_alloc ?_ _) | (with_reducible refine Kd.C_drewN ?_ _) | (with_reducible refine Kd.C_drew ?_))); (case side2 => exact HC2.out); rintro e w13 ⟨v391, rfl, ho0, hb⟩; refine ⟨_, rfl, ?_⟩; have n0_ := Aside0.mk (Kd.R_lower ho0 (below_size (by repeat (first | (with_reducible first | exact HB.out | apply below_alloc | apply pw_below_drewN | apply below_drew1) | exact HB.out)))); have n1_ := Aside0.mk (below_step (by repeat (first | (with_reducible first | exact HB.out | apply below_alloc | apply pw_below_drewN | apply below_drew1) | exact HB.out)) hb); clear HB; have HO392 := n0_; have HB := n1_; clear n0_ n1_; (try clear hb); (try clear hb2); (try clear hk); (try clear hi); (try clear ho0)))
        (try simp only [Act.put, List.setIfInBounds_toArray, List.set_cons_zero, List.set_cons_succ])
        go_cut [50] (fun v50 wc => ∃ (kq : Nat) (x50_11 : Bool), v50 = .bool x50_11 ∧ Aside0 (medlarlaw23_TraceCover.j1 kq a0 a1 l2 l3 t388 t389 x50_11 = some r) ∧ Aside0 (kq ≤ kj5) ∧ Aside0 (Kd.R k24 24 wc w.heap.size (fun _ => True) v391 t389) ∧ Aside0 (Below w.heap.size w wc))
        case first =>
          have H := HC12.out
          clear HC12
          by_cases c14 : t390 = 0
          · rw [if_pos c14] at H
            have c14b0 : (t390 == 0) = true := beq_iff_eq.mpr c14
            have c14b1 : (t390 != 0) = false := bne_eq_false_iff_eq.mpr c14
            clear c14
            (first | rw [c14b0] | (simp only [i64_w, i32_w]; rw [c14b0]) | skip)
            replace H := Option.bind_eq_some_iff.mp H
            obtain ⟨t393, A150, H⟩ := H
            replace H : (if t393 = 0 then (medlarlaw23_TraceCover.j1 kj5 a0 a1 l2 l3 t388 t389 ((t389.length : Int) == 0)) else (medlarlaw23_TraceCover.j1 kj5 a0 a1 l2 l3 t388 t389 true)) = some r := H
            have A15 := Aside0.mk A150
            clear A150
            by_cases c16 : t393 = 0
            · rw [if_pos c16] at H
              have c16b0 : (t393 == 0) = true := beq_iff_eq.mpr c16
              have c16b1 : (t393 != 0) = false := bne_eq_false_iff_eq.mpr c16
              clear c16
              have H' := Aside0.mk H
              clear H
              go_wp2_with (first | (go_at_call 27; (with_reducible refine (leaf_Check.calls kj5 a0 _ _ l3 t393 _ ?side1 ?side2 A15.out).mono ?_); (case side1 => repeat (first | exact (Kd.C_below HR3.out HB.out) | (with_reducible refine Kd.C_alloc ?_ _) | (with_reducible refine Kd.C_drewN ?_ _) | (with_reducible refine Kd.C_drew ?_))); (case side2 => exact HC3.out); rintro e w' ⟨rfl, ⟨nd, rfl⟩⟩; obtain ⟨Ao17, co17, eo17⟩ := Kd.R_slice HO392.out; subst eo17))
              go_meet
              case rel => exact ⟨_, (((t389.length : Int) == 0)), (by first | rfl | (simp; done) | (simp [*]; done)), H', ⟨by have := HJ5.out; first | omega | exact Nat.le_refl _⟩, ⟨by (with_reducible repeat (first | apply Kd.R_alloc | apply Kd.R_drewN | apply Kd.R_drew)); exact HO392.out⟩, ⟨by repeat (first | (with_reducible first | exact HB.out | apply below_alloc | apply pw_below_drewN | apply below_drew1) | exact HB.out)⟩⟩
            · rw [if_neg c16] at H
              have c16b0 : (t393 == 0) = false := beq_eq_false_iff_ne.mpr c16
              have c16b1 : (t393 != 0) = true := bne_iff_ne.mpr c16
              have H' := Aside0.mk H
              clear H
              go_wp2_with (first | (go_at_call 27; (with_reducible refine (leaf_Check.calls kj5 a0 _ _ l3 t393 _ ?side1 ?side2 A15.out).mono ?_); (case side1 => repeat (first | exact (Kd.C_below HR3.out HB.out) | (with_reducible refine Kd.C_alloc ?_ _) | (with_reducible refine Kd.C_drewN ?_ _) | (with_reducible refine Kd.C_drew ?_))); (case side2 => exact HC3.out); rintro e w' ⟨rfl, ⟨nd, rfl⟩⟩))
              go_meet
              case rel => exact ⟨_, (true), (by first | rfl | (simp; done) | (simp [*]; done)), H', ⟨by have := HJ5.out; first | omega | exact Nat.le_refl _⟩, ⟨by (with_reducible repeat (first | apply Kd.R_alloc | apply Kd.R_drewN | apply Kd.R_drew)); exact HO392.out⟩, ⟨by repeat (first | (with_reducible first | exact HB.out | apply below_alloc | apply pw_below_drewN | apply below_drew1) | exact HB.out)⟩⟩
          · rw [if_neg c14] at H
            have c14b0 : (t390 == 0) = false := beq_eq_false_iff_ne.mpr c14
            have c14b1 : (t390 != 0) = true := bne_iff_ne.mpr c14
            (first | rw [c14b0] | (simp only [i64_w, i32_w]; rw [c14b0]) | skip)
            have H' := Aside0.mk H
            clear H
            go_wp2
            go_meet
            case rel => exact ⟨_, (true), (by first | rfl | (simp; done) | (simp [*]; done)), H', ⟨by have := HJ5.out; first | omega | exact Nat.le_refl _⟩, ⟨by (with_reducible repeat (first | apply Kd.R_alloc | apply Kd.R_drewN | apply Kd.R_drew)); exact HO392.out⟩, ⟨by repeat (first | (with_reducible first | exact HB.out | apply below_alloc | apply pw_below_drewN | apply below_drew1) | exact HB.out)⟩⟩
        case rest =>
          clear HC12
          try clear c1
          try clear c2
          try clear p2
          try clear c3
          try clear c8
          try clear c8b0
          try clear c8b1
          try clear c9
          try clear c9b0
          try clear c9b1
          try clear c10
          try clear c14
          try clear c14b0
          try clear c14b1
          try clear c16
          try clear c16b0
          try clear c16b1
          try clear p2
          obtain ⟨kq, x50_11, rfl, HA, HJ11, HO_10, HB⟩ := hcut
          cases kq with
          | zero => exact absurd HA.out (by simp [medlarlaw23_TraceCover.j1])
          | succ kj11 =>
            have H := HA.out
            clear HA
            simp only [medlarlaw23_TraceCover.j1] at H
            by_cases c18 : x50_11 = true
            · subst c18
              have H1 : (some t388) = some r := by rw [if_pos rfl] at H; exact H
              clear H
              have H := H1
              clear H1
              obtain rfl := Option.some.inj H
              go_wp2
              go_ret
              exact ⟨by first | rfl | (simp [errW_none, errW_some] <;> rfl) | (simp [*, errW_none, errW_some] <;> rfl), by repeat (first | (with_reducible first | exact HB.out | apply below_alloc | apply pw_below_drewN | apply below_drew1) | exact HB.out)⟩
            · replace c18 := Bool.eq_false_iff.mpr c18
              subst c18
              have H1 : ((trace_Trace.f kj11 a0 a1 t389 false l3 ([] : List Bool)).bind fun bt394 => (medlarlaw23_TraceCover.l0 kj11 l2 l3 t388 bt394.2.2.2 false l3 (l3.length : Int) 0 bt394.1 bt394.2.1 bt394.2.2.1)) = some r := by rw [if_neg (show ¬ (false = true) by decide)] at H; exact H
              clear H
              have H := H1
              clear H1
              replace H := Option.bind_eq_some_iff.mp H
              obtain ⟨⟨t394, t395, t396, t397⟩, A190, H⟩ := H
              replace H : (medlarlaw23_TraceCover.l0 kj11 l2 l3 t388 t397 false l3 (l3.length : Int) 0 t394 t395 t396) = some r := H
              have A19 := Aside0.mk A190
              clear A190
              have H' := Aside0.mk H
              clear H
              obtain ⟨Ao20, co20, eo20⟩ := Kd.R_slice HO_10.out
              subst eo20
              go_wp2_with (first | ((with_reducible refine gate_callee (f := 20) rfl ?_); refine goesL_ (some 58) rfl rfl Try.func20 (by kernel_rfl) rfl #[.int .i64 a0, .int .i64 a1, .slice Ao20 t389.length co20, .agg #[.bool false, .slice A3 l3.length c3, .slice none 0 0]] rfl (by (try simp only [List.map_toArray, List.map_cons, List.map_nil]); first | done | rfl | (simp only [List.length_drop, List.length_take]; rfl)) ?_; (refine (trace_Trace.calls kj11 a0 a1 _ _ t389 false _ _ l3 _ _ ([] : List Bool) t394 t395 t396 t397 _ ?side1 ?side2 ?side3 ?side4 ?side5 ?side6 A19.out).mono ?_); (case side1 => repeat (first | exact (Kd.R_reads' HO_10.out).2.2 | (with_reducible refine Kd.C_alloc ?_ _) | (with_reducible refine Kd.C_drewN ?_ _) | (with_reducible refine Kd.C_drew ?_))); (case side2 => exact (Kd.R_reads' HO_10.out).2.1); (case side3 => repeat (first | exact (Kd.C_below HR3.out HB.out) | (with_reducible refine Kd.C_alloc ?_ _) | (with_reducible refine Kd.C_drewN ?_ _) | (with_reducible refine Kd.C_drew ?_))); (case side4 => exact HC3.out); (case side5 => exact Kd.C_nil _ _); (case side6 => exact Nat.le_refl _); rintro e w21 ⟨rfl, hb⟩; refine ⟨_, rfl, ?_⟩; have n0_ := Aside0.mk (Kd.R_below (by (with_reducible repeat (first | apply Kd.R_alloc | apply Kd.R_drewN | apply Kd.R_drew)); exact HO_10.out) hb); have n1_ := Aside0.mk (below_step (by repeat (first | (with_reducible first | exact HB.out | apply below_alloc | apply pw_below_drewN | apply below_drew1) | exact HB.out)) hb); clear HO_10; clear HB; have HO_10 := n0_; have HB := n1_; clear n0_ n1_; (try clear hb); (try clear hb2); (try clear hk); (try clear hi)) | ((with_reducible refine gate_dst (N := 12) rfl ?_); (try (refine gate_guard (by rfl) ?_; dsimp only)); refine box_event ?hg (N := 12) ?hd (cs := #[.bool false, .int .u64 0, .int .i64 0]) (t := 48) ?hr ?_; (case hd => rfl); (case hg => rfl); (case hr => first | (go_simp; done) | (go_simp; rfl)); intro gb398 hg w22 hbox hb; have n0_ := Aside0.mk (Kd.R_below (by (with_reducible repeat (first | apply Kd.R_alloc | apply Kd.R_drewN | apply Kd.R_drew)); exact HO_10.out) hb); have n1_ := Aside0.mk (below_step (by repeat (first | (with_reducible first | exact HB.out | apply below_alloc | apply pw_below_drewN | apply below_drew1) | exact HB.out)) hb); have n2_ := Aside0.mk (hbox); have n3_ := Aside0.mk ((by rw [hg]; exact (below_size (by repeat (first | (with_reducible first | exact HB.out | apply below_alloc | apply pw_below_drewN | apply below_drew1) | exact HB.out))) : w.heap.size ≤ gb398)); have n4_ := Aside0.mk ((by rw [hg]; exact (below_size (by repeat (first | (with_reducible first | exact HB.out | apply below_alloc | apply pw_below_drewN | apply below_drew1) | exact HB.out))) : w.heap.size ≤ gb398)); clear HO_10; clear HB; have HO_10 := n0_; have HB := n1_; have BK398 := n2_; have GW398 := n3_; have GE398 := n4_; clear n0_ n1_ n2_ n3_ n4_; clear hb hbox hg; have hcz23_0 : w22.cell? ⟨gb398, 0, none⟩ = some (.bool false) := (blk_cell BK398.out 0).trans rfl; have hcz23_1 : w22.cell? ⟨gb398, 1, none⟩ = some (.int .u64 0) := (blk_cell BK398.out 1).trans rfl; have hcz23_2 : w22.cell? ⟨gb398, 2, none⟩ = some (.int .i64 0) := (blk_cell BK398.out 2).trans rfl; have hfz23_0 := blk_frozen BK398.out 0; have hfz23_1 := blk_frozen BK398.out 1; have hfz23_2 := blk_frozen BK398.out 2))
              go_loopg [14, 63] kj11 (fun kq v14 v63 w' => ∃ (x14_3 : Bool) (x63_3 : Int), v14 = .bool x14_3 ∧ v63 = .int .i64 x63_3 ∧ Aside0 (medlarlaw23_TraceCover.l0 kq l2 l3 t388 t397 x14_3 l3 (l3.length : Int) x63_3 t394 t395 t396 = some r) ∧ Aside0 (kq ≤ kj11) ∧ Aside0 (w'.heap[gb398]? = some (.cells #[.bool t394, .int .u64 t395, .int .i64 t396] 48 (0, 0))) ∧ Aside0 (Below w.heap.size w w'))
              case atStart => exact ⟨(false), (0), (by first | rfl | (simp; done) | (simp [*]; done)), (by first | rfl | (simp; done) | (simp [*]; done)), H', ⟨Nat.le_refl _⟩, ⟨by (with_reducible repeat (first | refine blk_drewN ?_ _ | refine blk_drew ?_ | refine blk_alloc ?_ _)); refine blk_put (cs := #[.bool t394, .int .u64 t395, .int .i64 0]) ?_ 2 _ rfl; (with_reducible repeat (first | refine blk_drewN ?_ _ | refine blk_drew ?_ | refine blk_alloc ?_ _)); refine blk_put (cs := #[.bool t394, .int .u64 0, .int .i64 0]) ?_ 1 _ rfl; (with_reducible repeat (first | refine blk_drewN ?_ _ | refine blk_drew ?_ | refine blk_alloc ?_ _)); refine blk_put (cs := #[.bool false, .int .u64 0, .int .i64 0]) ?_ 0 _ rfl; (with_reducible repeat (first | refine blk_drewN ?_ _ | refine blk_drew ?_ | refine blk_alloc ?_ _)); exact BK398.out⟩, ⟨by repeat (first | (with_reducible first | exact HB.out | apply below_alloc | apply pw_below_drewN | apply below_drew1 | refine below_set ?_ GE398.out) | exact HB.out)⟩⟩
              case round =>
                clear H'
                try clear c1
                try clear c2
                try clear p2
                try clear c3
                try clear c8
                try clear c8b0
                try clear c8b1
                try clear c9
                try clear c9b0
                try clear c9b1
                try clear c10
                try clear c14
                try clear c14b0
                try clear c14b1
                try clear c16
                try clear c16b0
                try clear c16b1
                try clear c18
                try clear c20
                try clear hcz23_0
                try clear hcz23_1
                try clear hcz23_2
                try clear hfz23_0
                try clear hfz23_1
                try clear hfz23_2
                try clear p2
                obtain ⟨x14_3, x63_3, rfl, rfl, HA, HK3, BK398, HB⟩ := hrel
                cases gk with
                | zero => exact absurd HA.out (by simp [medlarlaw23_TraceCover.l0])
                | succ k3 =>
                  have H := HA.out
                  clear HA
                  simp only [medlarlaw23_TraceCover.l0] at H
                  by_cases c24 : x63_3 < (l3.length : Int)
                  · rw [if_pos c24] at H
                    have c24b0 : decide (x63_3 < (l3.length : Int)) = true := decide_eq_true c24
                    clear c24
                    by_cases c25 : 0 ≤ x63_3
                    · rw [if_pos c25] at H
                      have c25b0 : decide (0 ≤ x63_3) = true := decide_eq_true c25
                      clear c25
                      by_cases c26 : x63_3 < (l3.length : Int)
                      · rw [if_pos c26] at H
                        have c26b0 : decide (x63_3 < (l3.length : Int)) = true := decide_eq_true c26
                        clear c26
                        by_cases c27 : x14_3 = true
                        · subst c27
                          have H1 : (medlarlaw23_TraceCover.l0 k3 l2 l3 t388 t397 true l3 (l3.length : Int) (wrap64 (x63_3 + 1)) t394 t395 t396) = some r := by rw [if_pos rfl] at H; exact H
                          clear H
                          have H := H1
                          clear H1
                          have H' := Aside0.mk H
                          clear H
                          have p399 : 0 ≤ (x63_3 : Int) := of_decide_eq_true (by first | (with_reducible assumption) | assumption)
                          have q399 : x63_3 < (l3.length : Int) := of_decide_eq_true (by first | (with_reducible assumption) | assumption)
                          obtain ⟨ad399, e399, hx399_0⟩ := Kd.at_int HR3.out x63_3 p399 q399
                          cases e399
                          replace hx399_0 := (HB.out.cell (World.block_lt_of_cell? w _ hx399_0)).trans hx399_0
                          replace p399 := eq_true p399
                          replace q399 := eq_true q399
                          go_wp2
                          go_roundg k3
                          case measure => have := HJ5.out; have := HJ11.out; have := HK3.out; omega
                          case rel => exact ⟨(true), (wrap64 (x63_3 + 1)), (by first | rfl | (simp; done) | (simp [*]; done)), (by first | rfl | (simp; done) | (simp [*]; done)), H', ⟨by have := HJ5.out; have := HJ11.out; have := HK3.out; omega⟩, ⟨by (with_reducible repeat (first | refine blk_drewN ?_ _ | refine blk_drew ?_ | refine blk_alloc ?_ _)); exact BK398.out⟩, ⟨by repeat (first | (with_reducible first | exact HB.out | apply below_alloc | apply pw_below_drewN | apply below_drew1 | refine below_set ?_ GE398.out) | exact HB.out)⟩⟩
                        · replace c27 := Bool.eq_false_iff.mpr c27
                          subst c27
                          have H1 : ((medlarref02_In.f k3 l2 (rd l3 x63_3)).bind fun t400 => (medlarlaw23_TraceCover.l0 k3 l2 l3 t388 t397 (!t400) l3 (l3.length : Int) (wrap64 (x63_3 + 1)) t394 t395 t396)) = some r := by rw [if_neg (show ¬ (false = true) by decide)] at H; exact H
                          clear H
                          have H := H1
                          clear H1
                          replace H := Option.bind_eq_some_iff.mp H
                          obtain ⟨t400, A280, H⟩ := H
                          replace H : (medlarlaw23_TraceCover.l0 k3 l2 l3 t388 t397 (!t400) l3 (l3.length : Int) (wrap64 (x63_3 + 1)) t394 t395 t396) = some r := H
                          have A28 := Aside0.mk A280
                          clear A280
                          have H' := Aside0.mk H
                          clear H
                          have p399 : 0 ≤ (x63_3 : Int) := of_decide_eq_true (by first | (with_reducible assumption) | assumption)
                          have q399 : x63_3 < (l3.length : Int) := of_decide_eq_true (by first | (with_reducible assumption) | assumption)
                          obtain ⟨ad399, e399, hx399_0⟩ := Kd.at_int HR3.out x63_3 p399 q399
                          cases e399
                          replace hx399_0 := (HB.out.cell (World.block_lt_of_cell? w _ hx399_0)).trans hx399_0
                          replace p399 := eq_true p399
                          replace q399 := eq_true q399
                          go_wp2_with (first | (go_at_call 24; (with_reducible refine (medlarref02_In.calls k3 _ _ l2 (rd l3 x63_3) t400 _ ?side1 ?side2 A28.out).mono ?_); (case side1 => repeat (first | exact (Kd.C_below HR2.out HB.out) | (with_reducible refine Kd.C_alloc ?_ _) | (with_reducible refine Kd.C_drewN ?_ _) | (with_reducible refine Kd.C_drew ?_))); (case side2 => exact HC2.out); rintro e w' ⟨rfl, ⟨nd, rfl⟩⟩))
                          go_roundg k3
                          case measure => have := HJ5.out; have := HJ11.out; have := HK3.out; omega
                          case rel => exact ⟨(!t400), (wrap64 (x63_3 + 1)), (by first | rfl | (simp; done) | (simp [*]; done)), (by first | rfl | (simp; done) | (simp [*]; done)), H', ⟨by have := HJ5.out; have := HJ11.out; have := HK3.out; omega⟩, ⟨by (with_reducible repeat (first | refine blk_drewN ?_ _ | refine blk_drew ?_ | refine blk_alloc ?_ _)); exact BK398.out⟩, ⟨by repeat (first | (with_reducible first | exact HB.out | apply below_alloc | apply pw_below_drewN | apply below_drew1 | refine below_set ?_ GE398.out) | exact HB.out)⟩⟩
                      · rw [if_neg c26] at H
                        exact absurd H (by simp)
                    · rw [if_neg c25] at H
                      exact absurd H (by simp)
                  · rw [if_neg c24] at H
                    have c24b0 : decide (x63_3 < (l3.length : Int)) = false := decide_eq_false c24
                    clear c24
                    by_cases c29 : t388 = true
                    · subst c29
                      have H1 : (if t397 = 0 then (if (t394 == x14_3) = true then (if x14_3 = true then ((medlarref02_In.f k3 l3 t395).bind fun t401 => (if t401 = true then ((medlarref02_In.f k3 l2 t395).bind fun t402 => (some (!t402))) else (some false))) else (some true)) else (some false)) else (some false)) = some r := by rw [if_pos rfl] at H; exact H
                      clear H
                      have H := H1
                      clear H1
                      by_cases c30 : t397 = 0
                      · rw [if_pos c30] at H
                        have c30b0 : (t397 == 0) = true := beq_iff_eq.mpr c30
                        have c30b1 : (t397 != 0) = false := bne_eq_false_iff_eq.mpr c30
                        clear c30
                        by_cases c31 : (t394 == x14_3) = true
                        · rw [if_pos c31] at H
                          have c31b0 : (t394 == x14_3) = true := c31
                          (try (have c31b1 : decide (t394 = x14_3) = true := by simpa using c31))
                          (try (have c31b2 : (t394 == x14_3) = true := by simpa using c31))
                          clear c31
                          by_cases c32 : x14_3 = true
                          · subst c32
                            have H1 : ((medlarref02_In.f k3 l3 t395).bind fun t401 => (if t401 = true then ((medlarref02_In.f k3 l2 t395).bind fun t402 => (some (!t402))) else (some false))) = some r := by rw [if_pos rfl] at H; exact H
                            clear H
                            have H := H1
                            clear H1
                            replace H := Option.bind_eq_some_iff.mp H
                            obtain ⟨t401, A330, H⟩ := H
                            replace H : (if t401 = true then ((medlarref02_In.f k3 l2 t395).bind fun t402 => (some (!t402))) else (some false)) = some r := H
                            have A33 := Aside0.mk A330
                            clear A330
                            by_cases c34 : t401 = true
                            · subst c34
                              have H1 : ((medlarref02_In.f k3 l2 t395).bind fun t402 => (some (!t402))) = some r := by rw [if_pos rfl] at H; exact H
                              clear H
                              have H := H1
                              clear H1
                              replace H := Option.bind_eq_some_iff.mp H
                              obtain ⟨t402, A350, H⟩ := H
                              replace H : (some (!t402)) = some r := H
                              have A35 := Aside0.mk A350
                              clear A350
                              obtain rfl := Option.some.inj H
                              have hcz36_0 : wr.cell? ⟨gb398, 0, none⟩ = some (.bool t394) := (blk_cell BK398.out 0).trans rfl
                              have hcz36_1 : wr.cell? ⟨gb398, 1, none⟩ = some (.int .u64 t395) := (blk_cell BK398.out 1).trans rfl
                              have hcz36_2 : wr.cell? ⟨gb398, 2, none⟩ = some (.int .i64 t396) := (blk_cell BK398.out 2).trans rfl
                              have hfz36_0 := blk_frozen BK398.out 0
                              have hfz36_1 := blk_frozen BK398.out 1
                              have hfz36_2 := blk_frozen BK398.out 2
                              go_wp2_with (first | (go_at_call 24; (with_reducible refine (medlarref02_In.calls k3 _ _ l3 t395 true _ ?side1 ?side2 A33.out).mono ?_); (case side1 => repeat (first | exact (Kd.C_below HR3.out HB.out) | (with_reducible refine Kd.C_alloc ?_ _) | (with_reducible refine Kd.C_drewN ?_ _) | (with_reducible refine Kd.C_drew ?_))); (case side2 => exact HC3.out); rintro e w' ⟨rfl, ⟨nd, rfl⟩⟩) | (go_at_call 24; (with_reducible refine (medlarref02_In.calls k3 _ _ l2 t395 t402 _ ?side1 ?side2 A35.out).mono ?_); (case side1 => repeat (first | exact (Kd.C_below HR2.out (by repeat (first | (with_reducible first | exact HB.out | apply below_alloc | apply pw_below_drewN | apply below_drew1 | refine below_set ?_ GE398.out) | exact HB.out))) | (with_reducible refine Kd.C_alloc ?_ _) | (with_reducible refine Kd.C_drewN ?_ _) | (with_reducible refine Kd.C_drew ?_))); (case side2 => exact HC2.out); rintro e w' ⟨rfl, ⟨nd, rfl⟩⟩))
                              go_ret
                              exact ⟨by first | rfl | (simp [errW_none, errW_some] <;> rfl) | (simp [*, errW_none, errW_some] <;> rfl), by repeat (first | (with_reducible first | exact HB.out | apply below_alloc | apply pw_below_drewN | apply below_drew1 | refine below_set ?_ GE398.out) | exact HB.out)⟩
                            · replace c34 := Bool.eq_false_iff.mpr c34
                              subst c34
                              have H1 : (some false) = some r := by rw [if_neg (show ¬ (false = true) by decide)] at H; exact H
                              clear H
                              have H := H1
                              clear H1
                              exact absurd ((Option.some.inj H).trans hT.out) Bool.false_ne_true
                          · replace c32 := Bool.eq_false_iff.mpr c32
                            subst c32
                            have H1 : (some true) = some r := by rw [if_neg (show ¬ (false = true) by decide)] at H; exact H
                            clear H
                            have H := H1
                            clear H1
                            obtain rfl := Option.some.inj H
                            have hcz37_0 : wr.cell? ⟨gb398, 0, none⟩ = some (.bool t394) := (blk_cell BK398.out 0).trans rfl
                            have hcz37_1 : wr.cell? ⟨gb398, 1, none⟩ = some (.int .u64 t395) := (blk_cell BK398.out 1).trans rfl
                            have hcz37_2 : wr.cell? ⟨gb398, 2, none⟩ = some (.int .i64 t396) := (blk_cell BK398.out 2).trans rfl
                            have hfz37_0 := blk_frozen BK398.out 0
                            have hfz37_1 := blk_frozen BK398.out 1
                            have hfz37_2 := blk_frozen BK398.out 2
                            go_wp2
                            go_ret
                            exact ⟨by first | rfl | (simp [errW_none, errW_some] <;> rfl) | (simp [*, errW_none, errW_some] <;> rfl), by repeat (first | (with_reducible first | exact HB.out | apply below_alloc | apply pw_below_drewN | apply below_drew1 | refine below_set ?_ GE398.out) | exact HB.out)⟩
                        · rw [if_neg c31] at H
                          have c31b0 : (t394 == x14_3) = false := by simpa using c31
                          (try (have c31b1 : decide (t394 = x14_3) = false := by simpa using c31))
                          (try (have c31b2 : (t394 == x14_3) = false := by simpa using c31))
                          (try (have c31b3 : ¬ (t394 = x14_3) := by simpa using c31))
                          clear c31
                          exact absurd ((Option.some.inj H).trans hT.out) Bool.false_ne_true
                      · rw [if_neg c30] at H
                        have c30b0 : (t397 == 0) = false := beq_eq_false_iff_ne.mpr c30
                        have c30b1 : (t397 != 0) = true := bne_iff_ne.mpr c30
                        exact absurd ((Option.some.inj H).trans hT.out) Bool.false_ne_true
                    · replace c29 := Bool.eq_false_iff.mpr c29
                      subst c29
                      have H1 : (some false) = some r := by rw [if_neg (show ¬ (false = true) by decide)] at H; exact H
                      clear H
                      have H := H1
                      clear H1
                      exact absurd ((Option.some.inj H).trans hT.out) Bool.false_ne_true
def medlarlaw23_TraceCover.Pure : Prop := ∀ (a0 : Int) (a1 : Int) (l2 : List Int) (l3 : List Int), (Lit.int .i64 a0).wf = true → (Lit.int .i64 a1).wf = true → l2.length ≤ maxLen → l2.length * 8 ≤ 140737488351232 → (∀ x ∈ l2, (Lit.int .u64 x).wf = true) → l3.length ≤ maxLen → l3.length * 8 ≤ 140737488351232 → (∀ x ∈ l3, (Lit.int .u64 x).wf = true) → ∃ k, medlarlaw23_TraceCover.f k a0 a1 l2 l3 = some true
theorem medlarlaw23_TraceCover.walk (P : medlarlaw23_TraceCover.Pure) (a0 : Int) (a1 : Int) (a2 : Option Addr) (len2 cap2 : Nat) (z2 : List Int) (a3 : Option Addr) (len3 cap3 : Nat) (z3 : List Int) (w : World) (w0 : (Lit.int .i64 a0).wf = true) (w1 : (Lit.int .i64 a1).wf = true) (w2 : (a2 = none ∧ len2 = 0 ∧ cap2 = 0 ∧ z2 = []) ∨ ∃ x, a2 = some x ∧ len2 ≤ cap2 ∧ cap2 ≤ maxLen ∧ z2.length = cap2 ∧ (∀ i, i < z2.length → w.cell? (x.add i) = some (.int .u64 (z2.getD i 0))) ∧ ∀ n ∈ z2, (Lit.int .u64 n).wf = true) (y2 : len2 * 8 ≤ 140737488351232) (w3 : (a3 = none ∧ len3 = 0 ∧ cap3 = 0 ∧ z3 = []) ∨ ∃ x, a3 = some x ∧ len3 ≤ cap3 ∧ cap3 ≤ maxLen ∧ z3.length = cap3 ∧ (∀ i, i < z3.length → w.cell? (x.add i) = some (.int .u64 (z3.getD i 0))) ∧ ∀ n ∈ z3, (Lit.int .u64 n).wf = true) (y3 : len3 * 8 ≤ 140737488351232) :
    Calls Try.prog 8 #[.int .i64 a0, .int .i64 a1, .slice a2 len2 cap2, .slice a3 len3 cap3] w fun e w' => e = .returned (.bool true) ∧ Below w.heap.size w w' := by
  obtain ⟨l2, rfl, hr2, hm2, hw2, hc2⟩ := ReadsInt.ofRowC w2
  obtain ⟨l3, rfl, hr3, hm3, hw3, hc3⟩ := ReadsInt.ofRowC w3
  obtain ⟨k, h⟩ := P a0 a1 l2 l3 w0 w1 hm2 y2 hw2 hm3 y3 hw3
  refine (medlarlaw23_TraceCover.calls k a0 a1 _ _ l2 _ _ l3 true w (Kd.C_of_reads (d := (0 : Int)) (h1 := fun _ => rfl) hr2) hc2 (Kd.C_of_reads (d := (0 : Int)) (h1 := fun _ => rfl) hr3) hc3 h ⟨rfl⟩).mono ?_
  rintro e w' ⟨rfl, hd⟩
  exact ⟨rfl, hd⟩
end Go.Proofs.Ytnbiddloiiljjaa.MP
