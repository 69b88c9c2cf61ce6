-- written by a program of this session (wip/tools/mprint.sh) for this seat
import Derived.Test.YtoikjfcdpiikbaaMPx0
import Derived.Test.YtoikjfcdpiikbaaMPx13
import Derived.Test.YtoikjfcdpiikbaaMPx18
namespace Go.Proofs.Ytoikjfcdpiikbaa.MP
open Go.RowKit Go.Proofs.YtoikjfcdpiikbaaW.PrintWords Go.Proofs.YtoikjfcdpiikbaaW.PrintLast Go.Proofs.YtoikjfcdpiikbaaW.PrintMore
attribute [local go_sem] max2_int min2_int max_two min_two max_three min_three max_four min_four   -- for this text's walks alone
set_option linter.unusedVariables false
set_option linter.unusedSimpArgs false

/-! ### medlarlaw10_WholeBound: function 7 -/
def medlarlaw10_WholeBound.j0 : Nat → Int → Bool → Bool → Option (Bool)
  | 0, _, _, _ => none
  | k + 1, x0, x5, x47 => if x47 = true then (some false) else (if x0 > 10 then (some x5) else (if 0 ≤ x0 then ((whole_Bound.f k x0 (shl .i64 1 x0)).bind fun bt370 => (if x5 = true then (if bt370.2 = 0 then (some (bt370.1 == 0)) else (some false)) else (some false))) else (none)))
def medlarlaw10_WholeBound.f (k : Nat) (a0 : Int) (a1 : Int) : Option (Bool) := (medlarlaw10_live.f k).bind fun t365 => ((whole_Bound.f k a0 a1).bind fun bt366 => (if bt366.2 = 0 then ((whole_Bound.f k a0 1).bind fun bt368 => (if bt368.2 = 0 then (if bt368.1 = (IntKind.u64.wrap (a0)) then (medlarlaw10_WholeBound.j0 k a0 t365 (decide (bt366.1 > (IntKind.u64.wrap (wrap64 ((mx a1 1) * a0)))))) else (medlarlaw10_WholeBound.j0 k a0 t365 true)) else (medlarlaw10_WholeBound.j0 k a0 t365 true))) else (if t365 = true then (some (bt366.1 == 0)) else (some false))))
theorem medlarlaw10_WholeBound.mono_l : ∀ k, (∀ y0 y1 y2, LeO (medlarlaw10_WholeBound.j0 k y0 y1 y2) (medlarlaw10_WholeBound.j0 (k + 1) y0 y1 y2))
  | 0 => fun _ _ _ r h => by simp [medlarlaw10_WholeBound.j0] at h
  | k + 1 => by
    have ih0 := medlarlaw10_WholeBound.mono_l k
    · intro y0 y1 y2
      unfold medlarlaw10_WholeBound.j0
      repeat' first
      | (with_reducible exact ih0 _ _ _)
      | (with_reducible exact medlarlaw10_live.mono _)
      | (with_reducible exact whole_Bound.mono _ _ _)
      | (with_reducible exact LeO.refl _)
      | (with_reducible exact LeO.none _)
      | (with_reducible refine LeO.ite ?_ ?_)
      | (with_reducible refine LeO.bind ?_ (fun _ => ?_))
      | exact ih0 _ _ _
      | exact medlarlaw10_live.mono _
      | exact whole_Bound.mono _ _ _
      | exact LeO.none _
      | refine LeO.ite ?_ ?_
      | refine LeO.bind ?_ (fun _ => ?_)
theorem medlarlaw10_WholeBound.mono : ∀ a0 a1 k, LeO (medlarlaw10_WholeBound.f k a0 a1) (medlarlaw10_WholeBound.f (k + 1) a0 a1) := by
  intro a0 a1 k
  have ih0 := medlarlaw10_WholeBound.mono_l k
  unfold medlarlaw10_WholeBound.f
  repeat' first
      | (with_reducible exact ih0 _ _ _)
      | (with_reducible exact medlarlaw10_live.mono _)
      | (with_reducible exact whole_Bound.mono _ _ _)
      | (with_reducible exact LeO.refl _)
      | (with_reducible exact LeO.none _)
      | (with_reducible refine LeO.ite ?_ ?_)
      | (with_reducible refine LeO.bind ?_ (fun _ => ?_))
      | exact ih0 _ _ _
      | exact medlarlaw10_live.mono _
      | exact whole_Bound.mono _ _ _
      | exact LeO.none _
      | refine LeO.ite ?_ ?_
      | refine LeO.bind ?_ (fun _ => ?_)
set_option maxHeartbeats 8000000 in
set_option maxRecDepth 100000 in
theorem medlarlaw10_WholeBound.calls (k : Nat) (a0 : Int) (a1 : Int) (r : Bool) (w : World) (h : medlarlaw10_WholeBound.f k a0 a1 = some r) (hT : Aside0 (r = true)) :
    Calls Try.prog 7 #[.int .i64 a0, .int .i64 a1] w fun e w' => e = .returned (.bool r) ∧ Below w.heap.size w w' := by
  have HB := Aside0.mk (Below.refl w.heap.size w)
  have H : ((medlarlaw10_live.f k).bind fun t365 => ((whole_Bound.f k a0 a1).bind fun bt366 => (if bt366.2 = 0 then ((whole_Bound.f k a0 1).bind fun bt368 => (if bt368.2 = 0 then (if bt368.1 = (IntKind.u64.wrap (a0)) then (medlarlaw10_WholeBound.j0 k a0 t365 (decide (bt366.1 > (IntKind.u64.wrap (wrap64 ((mx a1 1) * a0)))))) else (medlarlaw10_WholeBound.j0 k a0 t365 true)) else (medlarlaw10_WholeBound.j0 k a0 t365 true))) else (if t365 = true then (some (bt366.1 == 0)) else (some false))))) = some r := h
  clear h
  replace H := Option.bind_eq_some_iff.mp H
  obtain ⟨t365, A30, H⟩ := H
  replace H : ((whole_Bound.f k a0 a1).bind fun bt366 => (if bt366.2 = 0 then ((whole_Bound.f k a0 1).bind fun bt368 => (if bt368.2 = 0 then (if bt368.1 = (IntKind.u64.wrap (a0)) then (medlarlaw10_WholeBound.j0 k a0 t365 (decide (bt366.1 > (IntKind.u64.wrap (wrap64 ((mx a1 1) * a0)))))) else (medlarlaw10_WholeBound.j0 k a0 t365 true)) else (medlarlaw10_WholeBound.j0 k a0 t365 true))) else (if t365 = true then (some (bt366.1 == 0)) else (some false)))) = some r := H
  have A3 := Aside0.mk A30
  clear A30
  replace H := Option.bind_eq_some_iff.mp H
  obtain ⟨⟨t366, t367⟩, A40, H⟩ := H
  replace H : (if t367 = 0 then ((whole_Bound.f k a0 1).bind fun bt368 => (if bt368.2 = 0 then (if bt368.1 = (IntKind.u64.wrap (a0)) then (medlarlaw10_WholeBound.j0 k a0 t365 (decide (t366 > (IntKind.u64.wrap (wrap64 ((mx a1 1) * a0)))))) else (medlarlaw10_WholeBound.j0 k a0 t365 true)) else (medlarlaw10_WholeBound.j0 k a0 t365 true))) else (if t365 = true then (some (t366 == 0)) else (some false))) = some r := H
  have A4 := Aside0.mk A40
  clear A40
  by_cases c5 : t367 = 0
  · rw [if_pos c5] at H
    have c5b0 : (t367 == 0) = true := beq_iff_eq.mpr c5
    have c5b1 : (t367 != 0) = false := bne_eq_false_iff_eq.mpr c5
    clear c5
    replace H := Option.bind_eq_some_iff.mp H
    obtain ⟨⟨t368, t369⟩, A60, H⟩ := H
    replace H : (if t369 = 0 then (if t368 = (IntKind.u64.wrap (a0)) then (medlarlaw10_WholeBound.j0 k a0 t365 (decide (t366 > (IntKind.u64.wrap (wrap64 ((mx a1 1) * a0)))))) else (medlarlaw10_WholeBound.j0 k a0 t365 true)) else (medlarlaw10_WholeBound.j0 k a0 t365 true)) = some r := H
    have A6 := Aside0.mk A60
    clear A60
    have HC7 := Aside0.mk H
    clear H
    go_enter Try.func7, Try.ntmps7
    go_upto_region 6 with (first | ((with_reducible refine gate_callee (f := 21) rfl ?_); refine goesL_ (some 12) rfl rfl Try.func21 (by kernel_rfl) rfl #[] rfl (by (try simp only [List.map_toArray, List.map_cons, List.map_nil]); first | done | rfl | (simp only [List.length_drop, List.length_take]; rfl)) ?_; (with_reducible refine (medlarlaw10_live.calls k  t365 _ A3.out).mono ?_); rintro e w8 ⟨rfl, hb⟩; refine ⟨_, rfl, ?_⟩; have n0_ := Aside0.mk (below_step (by repeat (first | (with_reducible first | exact HB.out | apply below_alloc | apply pw_below_drewN | apply below_drew1) | exact HB.out)) hb); clear HB; have HB := n0_; clear n0_; (try clear hb); (try clear hb2); (try clear hk); (try clear hi)) | ((with_reducible refine gate_callee (f := 24) rfl ?_); refine goesL_ (some 16) rfl rfl Try.func24 (by kernel_rfl) rfl #[.int .i64 a0, .int .i64 a1] rfl (by (try simp only [List.map_toArray, List.map_cons, List.map_nil]); first | done | rfl | (simp only [List.length_drop, List.length_take]; rfl)) ?_; (with_reducible refine (whole_Bound.calls k a0 a1 t366 t367 _ A4.out).mono ?_); rintro e w9 ⟨rfl, hb⟩; refine ⟨_, rfl, ?_⟩; have n0_ := Aside0.mk (below_step (by repeat (first | (with_reducible first | exact HB.out | apply below_alloc | apply pw_below_drewN | apply below_drew1) | exact HB.out)) hb); clear HB; have HB := n0_; clear n0_; (try clear hb); (try clear hb2); (try clear hk); (try clear hi)) | ((with_reducible refine gate_callee (f := 24) rfl ?_); refine goesL_ (some 28) rfl rfl Try.func24 (by kernel_rfl) rfl #[.int .i64 a0, .int .i64 1] rfl (by (try simp only [List.map_toArray, List.map_cons, List.map_nil]); first | done | rfl | (simp only [List.length_drop, List.length_take]; rfl)) ?_; (with_reducible refine (whole_Bound.calls k a0 1 t368 t369 _ A6.out).mono ?_); rintro e w10 ⟨rfl, hb⟩; refine ⟨_, rfl, ?_⟩; have n0_ := Aside0.mk (below_step (by repeat (first | (with_reducible first | exact HB.out | apply below_alloc | apply pw_below_drewN | apply below_drew1) | exact HB.out)) hb); clear HB; have HB := n0_; clear n0_; (try clear hb); (try clear hb2); (try clear hk); (try clear hi)))
    (try simp only [Act.put, List.setIfInBounds_toArray, List.set_cons_zero, List.set_cons_succ])
    go_cut [47] (fun v47 wc => ∃ (kq : Nat) (x47_6 : Bool), v47 = .bool x47_6 ∧ Aside0 (medlarlaw10_WholeBound.j0 kq a0 t365 x47_6 = some r) ∧ Aside0 (kq ≤ k) ∧ Aside0 (Below w.heap.size w wc))
    case first =>
      have H := HC7.out
      clear HC7
      by_cases c11 : t369 = 0
      · rw [if_pos c11] at H
        have c11b0 : (t369 == 0) = true := beq_iff_eq.mpr c11
        have c11b1 : (t369 != 0) = false := bne_eq_false_iff_eq.mpr c11
        clear c11
        (first | rw [c11b0] | (simp only [i64_w, i32_w]; rw [c11b0]) | skip)
        by_cases c12 : t368 = (IntKind.u64.wrap (a0))
        · rw [if_pos c12] at H
          have c12b0 : (t368 == (IntKind.u64.wrap (a0))) = true := beq_iff_eq.mpr c12
          have c12b1 : (t368 != (IntKind.u64.wrap (a0))) = false := bne_eq_false_iff_eq.mpr c12
          clear c12
          obtain ⟨ji13, hji13⟩ : ∃ j_ : Int, (mx a1 1) = j_ := ⟨_, rfl⟩
          replace H : (medlarlaw10_WholeBound.j0 k a0 t365 (decide (t366 > (IntKind.u64.wrap (wrap64 ((ji13) * a0)))))) = some r := by first | (rw [hji13] at H; exact H) | (simp only [hji13] at H ⊢; exact H)
          (try (have hji13l : 1 ≤ ji13 := by (rw [← hji13]; unfold mx; (repeat' split) <;> omega)))
          (try (have hji13m : 0 ≤ ji13 := by omega))
          have hji13_ : (if a1 < 1 then 1 else a1) = ji13 := hji13
          have H' := Aside0.mk H
          clear H
          go_wp2
          go_meet
          case rel => exact ⟨_, (decide (t366 > (IntKind.u64.wrap (wrap64 ((ji13) * a0))))), (by first | rfl | (simp; done) | (simp only [← hji13] <;> (first | rfl | simp)) | (simp [*]; done)), H', ⟨by first | omega | exact Nat.le_refl _⟩, ⟨by repeat (first | (with_reducible first | exact HB.out | apply below_alloc | apply pw_below_drewN | apply below_drew1) | exact HB.out)⟩⟩
        · rw [if_neg c12] at H
          have c12b0 : (t368 == (IntKind.u64.wrap (a0))) = false := beq_eq_false_iff_ne.mpr c12
          have c12b1 : (t368 != (IntKind.u64.wrap (a0))) = true := bne_iff_ne.mpr c12
          have H' := Aside0.mk H
          clear H
          go_wp2
          go_meet
          case rel => exact ⟨_, (true), (by first | rfl | (simp; done) | (simp [*]; done)), H', ⟨by first | omega | exact Nat.le_refl _⟩, ⟨by repeat (first | (with_reducible first | exact HB.out | apply below_alloc | apply pw_below_drewN | apply below_drew1) | exact HB.out)⟩⟩
      · rw [if_neg c11] at H
        have c11b0 : (t369 == 0) = false := beq_eq_false_iff_ne.mpr c11
        have c11b1 : (t369 != 0) = true := bne_iff_ne.mpr c11
        (first | rw [c11b0] | (simp only [i64_w, i32_w]; rw [c11b0]) | skip)
        have H' := Aside0.mk H
        clear H
        go_wp2
        go_meet
        case rel => exact ⟨_, (true), (by first | rfl | (simp; done) | (simp [*]; done)), H', ⟨by first | omega | exact Nat.le_refl _⟩, ⟨by repeat (first | (with_reducible first | exact HB.out | apply below_alloc | apply pw_below_drewN | apply below_drew1) | exact HB.out)⟩⟩
    case rest =>
      clear HC7
      try clear c1
      try clear c2
      try clear p2
      try clear c5
      try clear c5b0
      try clear c5b1
      try clear p6
      try clear c7
      try clear c11
      try clear c11b0
      try clear c11b1
      try clear c12
      try clear c12b0
      try clear c12b1
      obtain ⟨kq, x47_6, rfl, HA, HJ6, HB⟩ := hcut
      cases kq with
      | zero => exact absurd HA.out (by simp [medlarlaw10_WholeBound.j0])
      | succ kj6 =>
        have H := HA.out
        clear HA
        simp only [medlarlaw10_WholeBound.j0] at H
        by_cases c14 : x47_6 = true
        · subst c14
          have H1 : (some false) = some r := by rw [if_pos rfl] at H; exact H
          clear H
          have H := H1
          clear H1
          exact absurd ((Option.some.inj H).trans hT.out) Bool.false_ne_true
        · replace c14 := Bool.eq_false_iff.mpr c14
          subst c14
          have H1 : (if a0 > 10 then (some t365) else (if 0 ≤ a0 then ((whole_Bound.f kj6 a0 (shl .i64 1 a0)).bind fun bt370 => (if t365 = true then (if bt370.2 = 0 then (some (bt370.1 == 0)) else (some false)) else (some false))) else (none))) = some r := by rw [if_neg (show ¬ (false = true) by decide)] at H; exact H
          clear H
          have H := H1
          clear H1
          by_cases c15 : a0 > 10
          · rw [if_pos c15] at H
            have c15b0 : decide (10 < a0) = true := decide_eq_true c15
            clear c15
            obtain rfl := Option.some.inj H
            go_wp2
            go_ret
            exact ⟨by first | rfl | (simp [errW_none, errW_some] <;> rfl) | (simp [*, errW_none, errW_some] <;> rfl), by repeat (first | (with_reducible first | exact HB.out | apply below_alloc | apply pw_below_drewN | apply below_drew1) | exact HB.out)⟩
          · rw [if_neg c15] at H
            have c15b0 : decide (10 < a0) = false := decide_eq_false c15
            clear c15
            by_cases c16 : 0 ≤ a0
            · rw [if_pos c16] at H
              have c16b0 := eq_true c16
              have c16b1 : decide (0 ≤ a0) = true := decide_eq_true c16
              clear c16
              obtain ⟨ji17, hji17⟩ : ∃ j_ : Int, (shl .i64 1 a0) = j_ := ⟨_, rfl⟩
              replace H : ((whole_Bound.f kj6 a0 (ji17)).bind fun bt370 => (if t365 = true then (if bt370.2 = 0 then (some (bt370.1 == 0)) else (some false)) else (some false))) = some r := by first | (rw [hji17] at H; exact H) | (simp only [hji17] at H ⊢; exact H)
              have hji17_ : (IntKind.i64.wrap (1 * 2 ^ min a0.toNat 64)) = ji17 := hji17
              have hji17z : a0 ≤ 64 → (IntKind.i64.wrap (1 * 2 ^ a0.toNat)) = ji17 := shl_small hji17
              have hji17u : (IntKind.i64.wrap (2 ^ min a0.toNat 64)) = ji17 := by have h_ := hji17_; rw [Int.one_mul] at h_; exact h_
              have hji17v : a0 ≤ 64 → (IntKind.i64.wrap (2 ^ a0.toNat)) = ji17 := fun hle_ => by have h_ := hji17z hle_; rw [Int.one_mul] at h_; exact h_
              have hji17y : (wrap64 (1 * 2 ^ min a0.toNat 64)) = ji17 := (i64_w _).symm.trans hji17_
              have hji17x : a0 ≤ 64 → (wrap64 (1 * 2 ^ a0.toNat)) = ji17 := fun h_ => (i64_w _).symm.trans (hji17z h_)
              replace H := Option.bind_eq_some_iff.mp H
              obtain ⟨⟨t370, t371⟩, A180, H⟩ := H
              replace H : (if t365 = true then (if t371 = 0 then (some (t370 == 0)) else (some false)) else (some false)) = some r := H
              have A18 := Aside0.mk A180
              clear A180
              by_cases c19 : t365 = true
              · subst c19
                have H1 : (if t371 = 0 then (some (t370 == 0)) else (some false)) = some r := by rw [if_pos rfl] at H; exact H
                clear H
                have H := H1
                clear H1
                by_cases c20 : t371 = 0
                · rw [if_pos c20] at H
                  have c20b0 : (t371 == 0) = true := beq_iff_eq.mpr c20
                  have c20b1 : (t371 != 0) = false := bne_eq_false_iff_eq.mpr c20
                  clear c20
                  obtain rfl := Option.some.inj H
                  go_wp2_with (first | ((with_reducible refine gate_callee (f := 24) rfl ?_); refine goesL_ (some 55) rfl rfl Try.func24 (by kernel_rfl) rfl #[.int .i64 a0, .int .i64 ji17] rfl (by (try simp only [List.map_toArray, List.map_cons, List.map_nil]); first | done | (simp only [hji17]; rfl) | rfl | (simp only [List.length_drop, List.length_take]; rfl)) ?_; (with_reducible refine (whole_Bound.calls kj6 a0 ji17 t370 t371 _ A18.out).mono ?_); rintro e w21 ⟨rfl, hb⟩; refine ⟨_, rfl, ?_⟩; have n0_ := Aside0.mk (below_step (by repeat (first | (with_reducible first | exact HB.out | apply below_alloc | apply pw_below_drewN | apply below_drew1) | exact HB.out)) hb); clear HB; have HB := n0_; clear n0_; (try clear hb); (try clear hb2); (try clear hk); (try clear hi)))
                  go_ret
                  exact ⟨by first | rfl | (simp [errW_none, errW_some] <;> rfl) | (simp only [← hji17]; first | rfl | (simp [errW_none, errW_some] <;> rfl)) | (simp [*, errW_none, errW_some] <;> rfl), by repeat (first | (with_reducible first | exact HB.out | apply below_alloc | apply pw_below_drewN | apply below_drew1) | exact HB.out)⟩
                · rw [if_neg c20] at H
                  have c20b0 : (t371 == 0) = false := beq_eq_false_iff_ne.mpr c20
                  have c20b1 : (t371 != 0) = true := bne_iff_ne.mpr c20
                  exact absurd ((Option.some.inj H).trans hT.out) Bool.false_ne_true
              · replace c19 := Bool.eq_false_iff.mpr c19
                subst c19
                have H1 : (some false) = some r := by rw [if_neg (show ¬ (false = true) by decide)] at H; exact H
                clear H
                have H := H1
                clear H1
                exact absurd ((Option.some.inj H).trans hT.out) Bool.false_ne_true
            · rw [if_neg c16] at H
              exact absurd H (by simp)
  · rw [if_neg c5] at H
    have c5b0 : (t367 == 0) = false := beq_eq_false_iff_ne.mpr c5
    have c5b1 : (t367 != 0) = true := bne_iff_ne.mpr c5
    by_cases c22 : t365 = true
    · subst c22
      have H1 : (some (t366 == 0)) = some r := by rw [if_pos rfl] at H; exact H
      clear H
      have H := H1
      clear H1
      obtain rfl := Option.some.inj H
      go_enter Try.func7, Try.ntmps7
      go_wp2_with (first | ((with_reducible refine gate_callee (f := 21) rfl ?_); refine goesL_ (some 12) rfl rfl Try.func21 (by kernel_rfl) rfl #[] rfl (by (try simp only [List.map_toArray, List.map_cons, List.map_nil]); first | done | rfl | (simp only [List.length_drop, List.length_take]; rfl)) ?_; (with_reducible refine (medlarlaw10_live.calls k  true _ A3.out).mono ?_); rintro e w23 ⟨rfl, hb⟩; refine ⟨_, rfl, ?_⟩; have n0_ := Aside0.mk (below_step (by repeat (first | (with_reducible first | exact HB.out | apply below_alloc | apply pw_below_drewN | apply below_drew1) | exact HB.out)) hb); clear HB; have HB := n0_; clear n0_; (try clear hb); (try clear hb2); (try clear hk); (try clear hi)) | ((with_reducible refine gate_callee (f := 24) rfl ?_); refine goesL_ (some 16) rfl rfl Try.func24 (by kernel_rfl) rfl #[.int .i64 a0, .int .i64 a1] rfl (by (try simp only [List.map_toArray, List.map_cons, List.map_nil]); first | done | rfl | (simp only [List.length_drop, List.length_take]; rfl)) ?_; (with_reducible refine (whole_Bound.calls k a0 a1 t366 t367 _ A4.out).mono ?_); rintro e w24 ⟨rfl, hb⟩; refine ⟨_, rfl, ?_⟩; have n0_ := Aside0.mk (below_step (by repeat (first | (with_reducible first | exact HB.out | apply below_alloc | apply pw_below_drewN | apply below_drew1) | exact HB.out)) hb); clear HB; have HB := n0_; clear n0_; (try clear hb); (try clear hb2); (try clear hk); (try clear hi)))
      go_ret
      exact ⟨by first | rfl | (simp [errW_none, errW_some] <;> rfl) | (simp [*, errW_none, errW_some] <;> rfl), by repeat (first | (with_reducible first | exact HB.out | apply below_alloc | apply pw_below_drewN | apply below_drew1) | exact HB.out)⟩
    · replace c22 := Bool.eq_false_iff.mpr c22
      subst c22
      have H1 : (some false) = some r := by rw [if_neg (show ¬ (false = true) by decide)] at H; exact H
      clear H
      have H := H1
      clear H1
      exact absurd ((Option.some.inj H).trans hT.out) Bool.false_ne_true

/-- THE ONE PURE STATEMENT of medlarlaw10_WholeBound: yours. -/
def medlarlaw10_WholeBound.Pure : Prop := ∀ (a0 : Int) (a1 : Int), (Lit.int .i64 a0).wf = true → (Lit.int .i64 a1).wf = true → ∃ k, medlarlaw10_WholeBound.f k a0 a1 = some true
theorem medlarlaw10_WholeBound.walk (P : medlarlaw10_WholeBound.Pure) (a0 : Int) (a1 : Int) (w : World) (w0 : (Lit.int .i64 a0).wf = true) (w1 : (Lit.int .i64 a1).wf = true) :
    Calls Try.prog 7 #[.int .i64 a0, .int .i64 a1] w fun e w' => e = .returned (.bool true) ∧ Below w.heap.size w w' := by
  obtain ⟨k, h⟩ := P a0 a1 w0 w1
  refine (medlarlaw10_WholeBound.calls k a0 a1 true w h ⟨rfl⟩).mono ?_
  rintro e w' ⟨rfl, hd⟩
  exact ⟨rfl, hd⟩

end Go.Proofs.Ytoikjfcdpiikbaa.MP
