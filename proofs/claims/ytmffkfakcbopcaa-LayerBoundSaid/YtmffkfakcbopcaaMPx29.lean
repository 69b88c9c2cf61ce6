-- written by a program of this session (wip/tools/mprint.sh) for this seat
import Derived.Test.YtmffkfakcbopcaaMPx0
import Derived.Test.YtmffkfakcbopcaaMPx24
import Derived.Test.YtmffkfakcbopcaaMPx28
namespace Go.Proofs.Ytmffkfakcbopcaa.MP
open Go.RowKit Go.Proofs.YtmffkfakcbopcaaW.PrintWords Go.Proofs.YtmffkfakcbopcaaW.PrintLast Go.Proofs.YtmffkfakcbopcaaW.PrintMore
attribute [local go_sem] max2_int min2_int max_two min_two max_three min_three max_four min_four   -- for this text's walks alone
set_option linter.unusedVariables false
set_option linter.unusedSimpArgs false

/-! ### medlarlaw12_LayerBound: function 10 -/
def medlarlaw12_LayerBound.f (k : Nat) (a0 : Int) (a1 : Int) : Option (Bool) := (medlarlaw12_live.f k).bind fun t686 => ((layer_Bound.f k a0 2 a1).bind fun bt687 => ((layer_Bound.f k a0 3 a1).bind fun bt689 => ((layer_Bound.f k a0 1 a1).bind fun bt691 => (if bt687.2 = 0 then ((layer_Bound.f k a0 3 1).bind fun bt693 => (if t686 = true then (if bt689.2 = 0 then (if bt691.2 = 0 then (if bt693.2 = 0 then (if bt693.1 = 2 then (if bt687.1 ≤ bt689.1 then (if bt689.1 ≤ (IntKind.u64.wrap (2 * bt687.1)) then (if a1 = 1 then (if bt687.1 = 1 then (if bt691.1 = (IntKind.u64.wrap (a0)) then (if a1 = 0 then (if bt689.1 = 1 then (some (bt691.1 == 1)) else (some false)) else (some true)) else (some false)) else (some false)) else (if a1 = 0 then (if bt687.1 = 1 then (if bt689.1 = 1 then (some (bt691.1 == 1)) else (some false)) else (some false)) else (some true))) else (some false)) else (some false)) else (some false)) else (some false)) else (some false)) else (some false)) else (some false))) else (if t686 = true then (if bt687.2 = bt689.2 then (some (bt687.2 == bt691.2)) else (some false)) else (some false))))))
theorem medlarlaw12_LayerBound.mono : ∀ a0 a1 k, LeO (medlarlaw12_LayerBound.f k a0 a1) (medlarlaw12_LayerBound.f (k + 1) a0 a1) := by
  intro a0 a1 k
  unfold medlarlaw12_LayerBound.f
  repeat' first
      | (with_reducible exact layer_Bound.mono _ _ _ _)
      | (with_reducible exact medlarlaw12_live.mono _)
      | (with_reducible exact LeO.refl _)
      | (with_reducible exact LeO.none _)
      | (with_reducible refine LeO.ite ?_ ?_)
      | (with_reducible refine LeO.bind ?_ (fun _ => ?_))
      | exact layer_Bound.mono _ _ _ _
      | exact medlarlaw12_live.mono _
      | exact LeO.none _
      | refine LeO.ite ?_ ?_
      | refine LeO.bind ?_ (fun _ => ?_)
set_option maxHeartbeats 8000000 in
set_option maxRecDepth 100000 in
theorem medlarlaw12_LayerBound.calls (k : Nat) (a0 : Int) (a1 : Int) (r : Bool) (w : World) (h : medlarlaw12_LayerBound.f k a0 a1 = some r) (hT : Aside0 (r = true)) :
    Calls Try.prog 10 #[.int .i64 a0, .int .i64 a1] w fun e w' => e = .returned (.bool r) ∧ Below w.heap.size w w' := by
  have HB := Aside0.mk (Below.refl w.heap.size w)
  have H : ((medlarlaw12_live.f k).bind fun t686 => ((layer_Bound.f k a0 2 a1).bind fun bt687 => ((layer_Bound.f k a0 3 a1).bind fun bt689 => ((layer_Bound.f k a0 1 a1).bind fun bt691 => (if bt687.2 = 0 then ((layer_Bound.f k a0 3 1).bind fun bt693 => (if t686 = true then (if bt689.2 = 0 then (if bt691.2 = 0 then (if bt693.2 = 0 then (if bt693.1 = 2 then (if bt687.1 ≤ bt689.1 then (if bt689.1 ≤ (IntKind.u64.wrap (2 * bt687.1)) then (if a1 = 1 then (if bt687.1 = 1 then (if bt691.1 = (IntKind.u64.wrap (a0)) then (if a1 = 0 then (if bt689.1 = 1 then (some (bt691.1 == 1)) else (some false)) else (some true)) else (some false)) else (some false)) else (if a1 = 0 then (if bt687.1 = 1 then (if bt689.1 = 1 then (some (bt691.1 == 1)) else (some false)) else (some false)) else (some true))) else (some false)) else (some false)) else (some false)) else (some false)) else (some false)) else (some false)) else (some false))) else (if t686 = true then (if bt687.2 = bt689.2 then (some (bt687.2 == bt691.2)) else (some false)) else (some false))))))) = some r := h
  clear h
  replace H := Option.bind_eq_some_iff.mp H
  obtain ⟨t686, A30, H⟩ := H
  replace H : ((layer_Bound.f k a0 2 a1).bind fun bt687 => ((layer_Bound.f k a0 3 a1).bind fun bt689 => ((layer_Bound.f k a0 1 a1).bind fun bt691 => (if bt687.2 = 0 then ((layer_Bound.f k a0 3 1).bind fun bt693 => (if t686 = true then (if bt689.2 = 0 then (if bt691.2 = 0 then (if bt693.2 = 0 then (if bt693.1 = 2 then (if bt687.1 ≤ bt689.1 then (if bt689.1 ≤ (IntKind.u64.wrap (2 * bt687.1)) then (if a1 = 1 then (if bt687.1 = 1 then (if bt691.1 = (IntKind.u64.wrap (a0)) then (if a1 = 0 then (if bt689.1 = 1 then (some (bt691.1 == 1)) else (some false)) else (some true)) else (some false)) else (some false)) else (if a1 = 0 then (if bt687.1 = 1 then (if bt689.1 = 1 then (some (bt691.1 == 1)) else (some false)) else (some false)) else (some true))) else (some false)) else (some false)) else (some false)) else (some false)) else (some false)) else (some false)) else (some false))) else (if t686 = true then (if bt687.2 = bt689.2 then (some (bt687.2 == bt691.2)) else (some false)) else (some false)))))) = some r := H
  have A3 := Aside0.mk A30
  clear A30
  replace H := Option.bind_eq_some_iff.mp H
  obtain ⟨⟨t687, t688⟩, A40, H⟩ := H
  replace H : ((layer_Bound.f k a0 3 a1).bind fun bt689 => ((layer_Bound.f k a0 1 a1).bind fun bt691 => (if t688 = 0 then ((layer_Bound.f k a0 3 1).bind fun bt693 => (if t686 = true then (if bt689.2 = 0 then (if bt691.2 = 0 then (if bt693.2 = 0 then (if bt693.1 = 2 then (if t687 ≤ bt689.1 then (if bt689.1 ≤ (IntKind.u64.wrap (2 * t687)) then (if a1 = 1 then (if t687 = 1 then (if bt691.1 = (IntKind.u64.wrap (a0)) then (if a1 = 0 then (if bt689.1 = 1 then (some (bt691.1 == 1)) else (some false)) else (some true)) else (some false)) else (some false)) else (if a1 = 0 then (if t687 = 1 then (if bt689.1 = 1 then (some (bt691.1 == 1)) else (some false)) else (some false)) else (some true))) else (some false)) else (some false)) else (some false)) else (some false)) else (some false)) else (some false)) else (some false))) else (if t686 = true then (if t688 = bt689.2 then (some (t688 == bt691.2)) else (some false)) else (some false))))) = some r := H
  have A4 := Aside0.mk A40
  clear A40
  replace H := Option.bind_eq_some_iff.mp H
  obtain ⟨⟨t689, t690⟩, A50, H⟩ := H
  replace H : ((layer_Bound.f k a0 1 a1).bind fun bt691 => (if t688 = 0 then ((layer_Bound.f k a0 3 1).bind fun bt693 => (if t686 = true then (if t690 = 0 then (if bt691.2 = 0 then (if bt693.2 = 0 then (if bt693.1 = 2 then (if t687 ≤ t689 then (if t689 ≤ (IntKind.u64.wrap (2 * t687)) then (if a1 = 1 then (if t687 = 1 then (if bt691.1 = (IntKind.u64.wrap (a0)) then (if a1 = 0 then (if t689 = 1 then (some (bt691.1 == 1)) else (some false)) else (some true)) else (some false)) else (some false)) else (if a1 = 0 then (if t687 = 1 then (if t689 = 1 then (some (bt691.1 == 1)) else (some false)) else (some false)) else (some true))) else (some false)) else (some false)) else (some false)) else (some false)) else (some false)) else (some false)) else (some false))) else (if t686 = true then (if t688 = t690 then (some (t688 == bt691.2)) else (some false)) else (some false)))) = some r := H
  have A5 := Aside0.mk A50
  clear A50
  replace H := Option.bind_eq_some_iff.mp H
  obtain ⟨⟨t691, t692⟩, A60, H⟩ := H
  replace H : (if t688 = 0 then ((layer_Bound.f k a0 3 1).bind fun bt693 => (if t686 = true then (if t690 = 0 then (if t692 = 0 then (if bt693.2 = 0 then (if bt693.1 = 2 then (if t687 ≤ t689 then (if t689 ≤ (IntKind.u64.wrap (2 * t687)) then (if a1 = 1 then (if t687 = 1 then (if t691 = (IntKind.u64.wrap (a0)) then (if a1 = 0 then (if t689 = 1 then (some (t691 == 1)) else (some false)) else (some true)) else (some false)) else (some false)) else (if a1 = 0 then (if t687 = 1 then (if t689 = 1 then (some (t691 == 1)) else (some false)) else (some false)) else (some true))) else (some false)) else (some false)) else (some false)) else (some false)) else (some false)) else (some false)) else (some false))) else (if t686 = true then (if t688 = t690 then (some (t688 == t692)) else (some false)) else (some false))) = some r := H
  have A6 := Aside0.mk A60
  clear A60
  by_cases c7 : t688 = 0
  · rw [if_pos c7] at H
    have c7b0 : (t688 == 0) = true := beq_iff_eq.mpr c7
    have c7b1 : (t688 != 0) = false := bne_eq_false_iff_eq.mpr c7
    clear c7
    replace H := Option.bind_eq_some_iff.mp H
    obtain ⟨⟨t693, t694⟩, A80, H⟩ := H
    replace H : (if t686 = true then (if t690 = 0 then (if t692 = 0 then (if t694 = 0 then (if t693 = 2 then (if t687 ≤ t689 then (if t689 ≤ (IntKind.u64.wrap (2 * t687)) then (if a1 = 1 then (if t687 = 1 then (if t691 = (IntKind.u64.wrap (a0)) then (if a1 = 0 then (if t689 = 1 then (some (t691 == 1)) else (some false)) else (some true)) else (some false)) else (some false)) else (if a1 = 0 then (if t687 = 1 then (if t689 = 1 then (some (t691 == 1)) else (some false)) else (some false)) else (some true))) else (some false)) else (some false)) else (some false)) else (some false)) else (some false)) else (some false)) else (some false)) = some r := H
    have A8 := Aside0.mk A80
    clear A80
    by_cases c9 : t686 = true
    · subst c9
      have H1 : (if t690 = 0 then (if t692 = 0 then (if t694 = 0 then (if t693 = 2 then (if t687 ≤ t689 then (if t689 ≤ (IntKind.u64.wrap (2 * t687)) then (if a1 = 1 then (if t687 = 1 then (if t691 = (IntKind.u64.wrap (a0)) then (if a1 = 0 then (if t689 = 1 then (some (t691 == 1)) else (some false)) else (some true)) else (some false)) else (some false)) else (if a1 = 0 then (if t687 = 1 then (if t689 = 1 then (some (t691 == 1)) else (some false)) else (some false)) else (some true))) else (some false)) else (some false)) else (some false)) else (some false)) else (some false)) else (some false)) = some r := by rw [if_pos rfl] at H; exact H
      clear H
      have H := H1
      clear H1
      by_cases c10 : t690 = 0
      · rw [if_pos c10] at H
        have c10b0 : (t690 == 0) = true := beq_iff_eq.mpr c10
        have c10b1 : (t690 != 0) = false := bne_eq_false_iff_eq.mpr c10
        clear c10
        by_cases c11 : t692 = 0
        · rw [if_pos c11] at H
          have c11b0 : (t692 == 0) = true := beq_iff_eq.mpr c11
          have c11b1 : (t692 != 0) = false := bne_eq_false_iff_eq.mpr c11
          clear c11
          by_cases c12 : t694 = 0
          · rw [if_pos c12] at H
            have c12b0 : (t694 == 0) = true := beq_iff_eq.mpr c12
            have c12b1 : (t694 != 0) = false := bne_eq_false_iff_eq.mpr c12
            clear c12
            by_cases c13 : t693 = 2
            · rw [if_pos c13] at H
              have c13b0 : (t693 == 2) = true := beq_iff_eq.mpr c13
              have c13b1 : (t693 != 2) = false := bne_eq_false_iff_eq.mpr c13
              clear c13
              by_cases c14 : t687 ≤ t689
              · rw [if_pos c14] at H
                have c14b0 : decide (t687 ≤ t689) = true := decide_eq_true c14
                clear c14
                by_cases c15 : t689 ≤ (IntKind.u64.wrap (2 * t687))
                · rw [if_pos c15] at H
                  have c15b0 : decide (t689 ≤ (IntKind.u64.wrap (2 * t687))) = true := decide_eq_true c15
                  clear c15
                  by_cases c16 : a1 = 1
                  · rw [if_pos c16] at H
                    have c16b0 : (a1 == 1) = true := beq_iff_eq.mpr c16
                    have c16b1 : (a1 != 1) = false := bne_eq_false_iff_eq.mpr c16
                    clear c16
                    by_cases c17 : t687 = 1
                    · rw [if_pos c17] at H
                      have c17b0 : (t687 == 1) = true := beq_iff_eq.mpr c17
                      have c17b1 : (t687 != 1) = false := bne_eq_false_iff_eq.mpr c17
                      clear c17
                      by_cases c18 : t691 = (IntKind.u64.wrap (a0))
                      · rw [if_pos c18] at H
                        have c18b0 : (t691 == (IntKind.u64.wrap (a0))) = true := beq_iff_eq.mpr c18
                        have c18b1 : (t691 != (IntKind.u64.wrap (a0))) = false := bne_eq_false_iff_eq.mpr c18
                        clear c18
                        by_cases c19 : a1 = 0
                        · rw [if_pos c19] at H
                          have c19b0 : (a1 == 0) = true := beq_iff_eq.mpr c19
                          have c19b1 : (a1 != 0) = false := bne_eq_false_iff_eq.mpr c19
                          clear c19
                          by_cases c20 : t689 = 1
                          · rw [if_pos c20] at H
                            have c20b0 : (t689 == 1) = true := beq_iff_eq.mpr c20
                            have c20b1 : (t689 != 1) = false := bne_eq_false_iff_eq.mpr c20
                            clear c20
                            obtain rfl := Option.some.inj H
                            go_enter Try.func10, Try.ntmps10
                            go_wp2_with (first | ((with_reducible refine gate_callee (f := 30) rfl ?_); refine goesL_ (some 14) rfl rfl Try.func30 (by kernel_rfl) rfl #[] rfl (by (try simp only [List.map_toArray, List.map_cons, List.map_nil]); first | done | rfl | (simp only [List.length_drop, List.length_take]; rfl)) ?_; (with_reducible refine (medlarlaw12_live.calls k  true _ A3.out).mono ?_); rintro e w21 ⟨rfl, hb⟩; refine ⟨_, rfl, ?_⟩; have n0_ := Aside0.mk (below_step (by repeat (first | (with_reducible first | exact HB.out | apply below_alloc | apply pw_below_drewN | apply below_drew1) | exact HB.out)) hb); clear HB; have HB := n0_; clear n0_; (try clear hb); (try clear hb2); (try clear hk); (try clear hi)) | ((with_reducible refine gate_callee (f := 34) rfl ?_); refine goesL_ (some 18) rfl rfl Try.func34 (by kernel_rfl) rfl #[.int .i64 a0, .int .i64 2, .int .i64 a1] rfl (by (try simp only [List.map_toArray, List.map_cons, List.map_nil]); first | done | rfl | (simp only [List.length_drop, List.length_take]; rfl)) ?_; (with_reducible refine (layer_Bound.calls k a0 2 a1 t687 t688 _ A4.out).mono ?_); rintro e w22 ⟨rfl, hb⟩; refine ⟨_, rfl, ?_⟩; have n0_ := Aside0.mk (below_step (by repeat (first | (with_reducible first | exact HB.out | apply below_alloc | apply pw_below_drewN | apply below_drew1) | exact HB.out)) hb); clear HB; have HB := n0_; clear n0_; (try clear hb); (try clear hb2); (try clear hk); (try clear hi)) | ((with_reducible refine gate_callee (f := 34) rfl ?_); refine goesL_ (some 24) rfl rfl Try.func34 (by kernel_rfl) rfl #[.int .i64 a0, .int .i64 3, .int .i64 a1] rfl (by (try simp only [List.map_toArray, List.map_cons, List.map_nil]); first | done | rfl | (simp only [List.length_drop, List.length_take]; rfl)) ?_; (with_reducible refine (layer_Bound.calls k a0 3 a1 t689 t690 _ A5.out).mono ?_); rintro e w23 ⟨rfl, hb⟩; refine ⟨_, rfl, ?_⟩; have n0_ := Aside0.mk (below_step (by repeat (first | (with_reducible first | exact HB.out | apply below_alloc | apply pw_below_drewN | apply below_drew1) | exact HB.out)) hb); clear HB; have HB := n0_; clear n0_; (try clear hb); (try clear hb2); (try clear hk); (try clear hi)) | ((with_reducible refine gate_callee (f := 34) rfl ?_); refine goesL_ (some 30) rfl rfl Try.func34 (by kernel_rfl) rfl #[.int .i64 a0, .int .i64 1, .int .i64 a1] rfl (by (try simp only [List.map_toArray, List.map_cons, List.map_nil]); first | done | rfl | (simp only [List.length_drop, List.length_take]; rfl)) ?_; (with_reducible refine (layer_Bound.calls k a0 1 a1 t691 t692 _ A6.out).mono ?_); rintro e w24 ⟨rfl, hb⟩; refine ⟨_, rfl, ?_⟩; have n0_ := Aside0.mk (below_step (by repeat (first | (with_reducible first | exact HB.out | apply below_alloc | apply pw_below_drewN | apply below_drew1) | exact HB.out)) hb); clear HB; have HB := n0_; clear n0_; (try clear hb); (try clear hb2); (try clear hk); (try clear hi)) | ((with_reducible refine gate_callee (f := 34) rfl ?_); refine goesL_ (some 48) rfl rfl Try.func34 (by kernel_rfl) rfl #[.int .i64 a0, .int .i64 3, .int .i64 1] rfl (by (try simp only [List.map_toArray, List.map_cons, List.map_nil]); first | done | rfl | (simp only [List.length_drop, List.length_take]; rfl)) ?_; (with_reducible refine (layer_Bound.calls k a0 3 1 t693 t694 _ A8.out).mono ?_); rintro e w25 ⟨rfl, hb⟩; refine ⟨_, rfl, ?_⟩; have n0_ := Aside0.mk (below_step (by repeat (first | (with_reducible first | exact HB.out | apply below_alloc | apply pw_below_drewN | apply below_drew1) | exact HB.out)) hb); clear HB; have HB := n0_; clear n0_; (try clear hb); (try clear hb2); (try clear hk); (try clear hi)))
                            go_ret
                            exact ⟨by first | rfl | (simp [errW_none, errW_some] <;> rfl) | (simp [*, errW_none, errW_some] <;> rfl), by repeat (first | (with_reducible first | exact HB.out | apply below_alloc | apply pw_below_drewN | apply below_drew1) | exact HB.out)⟩
                          · rw [if_neg c20] at H
                            have c20b0 : (t689 == 1) = false := beq_eq_false_iff_ne.mpr c20
                            have c20b1 : (t689 != 1) = true := bne_iff_ne.mpr c20
                            exact absurd ((Option.some.inj H).trans hT.out) Bool.false_ne_true
                        · rw [if_neg c19] at H
                          have c19b0 : (a1 == 0) = false := beq_eq_false_iff_ne.mpr c19
                          have c19b1 : (a1 != 0) = true := bne_iff_ne.mpr c19
                          obtain rfl := Option.some.inj H
                          go_enter Try.func10, Try.ntmps10
                          go_wp2_with (first | ((with_reducible refine gate_callee (f := 30) rfl ?_); refine goesL_ (some 14) rfl rfl Try.func30 (by kernel_rfl) rfl #[] rfl (by (try simp only [List.map_toArray, List.map_cons, List.map_nil]); first | done | rfl | (simp only [List.length_drop, List.length_take]; rfl)) ?_; (with_reducible refine (medlarlaw12_live.calls k  true _ A3.out).mono ?_); rintro e w26 ⟨rfl, hb⟩; refine ⟨_, rfl, ?_⟩; have n0_ := Aside0.mk (below_step (by repeat (first | (with_reducible first | exact HB.out | apply below_alloc | apply pw_below_drewN | apply below_drew1) | exact HB.out)) hb); clear HB; have HB := n0_; clear n0_; (try clear hb); (try clear hb2); (try clear hk); (try clear hi)) | ((with_reducible refine gate_callee (f := 34) rfl ?_); refine goesL_ (some 18) rfl rfl Try.func34 (by kernel_rfl) rfl #[.int .i64 a0, .int .i64 2, .int .i64 a1] rfl (by (try simp only [List.map_toArray, List.map_cons, List.map_nil]); first | done | rfl | (simp only [List.length_drop, List.length_take]; rfl)) ?_; (with_reducible refine (layer_Bound.calls k a0 2 a1 t687 t688 _ A4.out).mono ?_); rintro e w27 ⟨rfl, hb⟩; refine ⟨_, rfl, ?_⟩; have n0_ := Aside0.mk (below_step (by repeat (first | (with_reducible first | exact HB.out | apply below_alloc | apply pw_below_drewN | apply below_drew1) | exact HB.out)) hb); clear HB; have HB := n0_; clear n0_; (try clear hb); (try clear hb2); (try clear hk); (try clear hi)) | ((with_reducible refine gate_callee (f := 34) rfl ?_); refine goesL_ (some 24) rfl rfl Try.func34 (by kernel_rfl) rfl #[.int .i64 a0, .int .i64 3, .int .i64 a1] rfl (by (try simp only [List.map_toArray, List.map_cons, List.map_nil]); first | done | rfl | (simp only [List.length_drop, List.length_take]; rfl)) ?_; (with_reducible refine (layer_Bound.calls k a0 3 a1 t689 t690 _ A5.out).mono ?_); rintro e w28 ⟨rfl, hb⟩; refine ⟨_, rfl, ?_⟩; have n0_ := Aside0.mk (below_step (by repeat (first | (with_reducible first | exact HB.out | apply below_alloc | apply pw_below_drewN | apply below_drew1) | exact HB.out)) hb); clear HB; have HB := n0_; clear n0_; (try clear hb); (try clear hb2); (try clear hk); (try clear hi)) | ((with_reducible refine gate_callee (f := 34) rfl ?_); refine goesL_ (some 30) rfl rfl Try.func34 (by kernel_rfl) rfl #[.int .i64 a0, .int .i64 1, .int .i64 a1] rfl (by (try simp only [List.map_toArray, List.map_cons, List.map_nil]); first | done | rfl | (simp only [List.length_drop, List.length_take]; rfl)) ?_; (with_reducible refine (layer_Bound.calls k a0 1 a1 t691 t692 _ A6.out).mono ?_); rintro e w29 ⟨rfl, hb⟩; refine ⟨_, rfl, ?_⟩; have n0_ := Aside0.mk (below_step (by repeat (first | (with_reducible first | exact HB.out | apply below_alloc | apply pw_below_drewN | apply below_drew1) | exact HB.out)) hb); clear HB; have HB := n0_; clear n0_; (try clear hb); (try clear hb2); (try clear hk); (try clear hi)) | ((with_reducible refine gate_callee (f := 34) rfl ?_); refine goesL_ (some 48) rfl rfl Try.func34 (by kernel_rfl) rfl #[.int .i64 a0, .int .i64 3, .int .i64 1] rfl (by (try simp only [List.map_toArray, List.map_cons, List.map_nil]); first | done | rfl | (simp only [List.length_drop, List.length_take]; rfl)) ?_; (with_reducible refine (layer_Bound.calls k a0 3 1 t693 t694 _ A8.out).mono ?_); rintro e w30 ⟨rfl, hb⟩; refine ⟨_, rfl, ?_⟩; have n0_ := Aside0.mk (below_step (by repeat (first | (with_reducible first | exact HB.out | apply below_alloc | apply pw_below_drewN | apply below_drew1) | exact HB.out)) hb); clear HB; have HB := n0_; clear n0_; (try clear hb); (try clear hb2); (try clear hk); (try clear hi)))
                          go_ret
                          exact ⟨by first | rfl | (simp [errW_none, errW_some] <;> rfl) | (simp [*, errW_none, errW_some] <;> rfl), by repeat (first | (with_reducible first | exact HB.out | apply below_alloc | apply pw_below_drewN | apply below_drew1) | exact HB.out)⟩
                      · rw [if_neg c18] at H
                        have c18b0 : (t691 == (IntKind.u64.wrap (a0))) = false := beq_eq_false_iff_ne.mpr c18
                        have c18b1 : (t691 != (IntKind.u64.wrap (a0))) = true := bne_iff_ne.mpr c18
                        exact absurd ((Option.some.inj H).trans hT.out) Bool.false_ne_true
                    · rw [if_neg c17] at H
                      have c17b0 : (t687 == 1) = false := beq_eq_false_iff_ne.mpr c17
                      have c17b1 : (t687 != 1) = true := bne_iff_ne.mpr c17
                      exact absurd ((Option.some.inj H).trans hT.out) Bool.false_ne_true
                  · rw [if_neg c16] at H
                    have c16b0 : (a1 == 1) = false := beq_eq_false_iff_ne.mpr c16
                    have c16b1 : (a1 != 1) = true := bne_iff_ne.mpr c16
                    by_cases c31 : a1 = 0
                    · rw [if_pos c31] at H
                      have c31b0 : (a1 == 0) = true := beq_iff_eq.mpr c31
                      have c31b1 : (a1 != 0) = false := bne_eq_false_iff_eq.mpr c31
                      clear c31
                      by_cases c32 : t687 = 1
                      · rw [if_pos c32] at H
                        have c32b0 : (t687 == 1) = true := beq_iff_eq.mpr c32
                        have c32b1 : (t687 != 1) = false := bne_eq_false_iff_eq.mpr c32
                        clear c32
                        by_cases c33 : t689 = 1
                        · rw [if_pos c33] at H
                          have c33b0 : (t689 == 1) = true := beq_iff_eq.mpr c33
                          have c33b1 : (t689 != 1) = false := bne_eq_false_iff_eq.mpr c33
                          clear c33
                          obtain rfl := Option.some.inj H
                          go_enter Try.func10, Try.ntmps10
                          go_wp2_with (first | ((with_reducible refine gate_callee (f := 30) rfl ?_); refine goesL_ (some 14) rfl rfl Try.func30 (by kernel_rfl) rfl #[] rfl (by (try simp only [List.map_toArray, List.map_cons, List.map_nil]); first | done | rfl | (simp only [List.length_drop, List.length_take]; rfl)) ?_; (with_reducible refine (medlarlaw12_live.calls k  true _ A3.out).mono ?_); rintro e w34 ⟨rfl, hb⟩; refine ⟨_, rfl, ?_⟩; have n0_ := Aside0.mk (below_step (by repeat (first | (with_reducible first | exact HB.out | apply below_alloc | apply pw_below_drewN | apply below_drew1) | exact HB.out)) hb); clear HB; have HB := n0_; clear n0_; (try clear hb); (try clear hb2); (try clear hk); (try clear hi)) | ((with_reducible refine gate_callee (f := 34) rfl ?_); refine goesL_ (some 18) rfl rfl Try.func34 (by kernel_rfl) rfl #[.int .i64 a0, .int .i64 2, .int .i64 a1] rfl (by (try simp only [List.map_toArray, List.map_cons, List.map_nil]); first | done | rfl | (simp only [List.length_drop, List.length_take]; rfl)) ?_; (with_reducible refine (layer_Bound.calls k a0 2 a1 t687 t688 _ A4.out).mono ?_); rintro e w35 ⟨rfl, hb⟩; refine ⟨_, rfl, ?_⟩; have n0_ := Aside0.mk (below_step (by repeat (first | (with_reducible first | exact HB.out | apply below_alloc | apply pw_below_drewN | apply below_drew1) | exact HB.out)) hb); clear HB; have HB := n0_; clear n0_; (try clear hb); (try clear hb2); (try clear hk); (try clear hi)) | ((with_reducible refine gate_callee (f := 34) rfl ?_); refine goesL_ (some 24) rfl rfl Try.func34 (by kernel_rfl) rfl #[.int .i64 a0, .int .i64 3, .int .i64 a1] rfl (by (try simp only [List.map_toArray, List.map_cons, List.map_nil]); first | done | rfl | (simp only [List.length_drop, List.length_take]; rfl)) ?_; (with_reducible refine (layer_Bound.calls k a0 3 a1 t689 t690 _ A5.out).mono ?_); rintro e w36 ⟨rfl, hb⟩; refine ⟨_, rfl, ?_⟩; have n0_ := Aside0.mk (below_step (by repeat (first | (with_reducible first | exact HB.out | apply below_alloc | apply pw_below_drewN | apply below_drew1) | exact HB.out)) hb); clear HB; have HB := n0_; clear n0_; (try clear hb); (try clear hb2); (try clear hk); (try clear hi)) | ((with_reducible refine gate_callee (f := 34) rfl ?_); refine goesL_ (some 30) rfl rfl Try.func34 (by kernel_rfl) rfl #[.int .i64 a0, .int .i64 1, .int .i64 a1] rfl (by (try simp only [List.map_toArray, List.map_cons, List.map_nil]); first | done | rfl | (simp only [List.length_drop, List.length_take]; rfl)) ?_; (with_reducible refine (layer_Bound.calls k a0 1 a1 t691 t692 _ A6.out).mono ?_); rintro e w37 ⟨rfl, hb⟩; refine ⟨_, rfl, ?_⟩; have n0_ := Aside0.mk (below_step (by repeat (first | (with_reducible first | exact HB.out | apply below_alloc | apply pw_below_drewN | apply below_drew1) | exact HB.out)) hb); clear HB; have HB := n0_; clear n0_; (try clear hb); (try clear hb2); (try clear hk); (try clear hi)) | ((with_reducible refine gate_callee (f := 34) rfl ?_); refine goesL_ (some 48) rfl rfl Try.func34 (by kernel_rfl) rfl #[.int .i64 a0, .int .i64 3, .int .i64 1] rfl (by (try simp only [List.map_toArray, List.map_cons, List.map_nil]); first | done | rfl | (simp only [List.length_drop, List.length_take]; rfl)) ?_; (with_reducible refine (layer_Bound.calls k a0 3 1 t693 t694 _ A8.out).mono ?_); rintro e w38 ⟨rfl, hb⟩; refine ⟨_, rfl, ?_⟩; have n0_ := Aside0.mk (below_step (by repeat (first | (with_reducible first | exact HB.out | apply below_alloc | apply pw_below_drewN | apply below_drew1) | exact HB.out)) hb); clear HB; have HB := n0_; clear n0_; (try clear hb); (try clear hb2); (try clear hk); (try clear hi)))
                          go_ret
                          exact ⟨by first | rfl | (simp [errW_none, errW_some] <;> rfl) | (simp [*, errW_none, errW_some] <;> rfl), by repeat (first | (with_reducible first | exact HB.out | apply below_alloc | apply pw_below_drewN | apply below_drew1) | exact HB.out)⟩
                        · rw [if_neg c33] at H
                          have c33b0 : (t689 == 1) = false := beq_eq_false_iff_ne.mpr c33
                          have c33b1 : (t689 != 1) = true := bne_iff_ne.mpr c33
                          exact absurd ((Option.some.inj H).trans hT.out) Bool.false_ne_true
                      · rw [if_neg c32] at H
                        have c32b0 : (t687 == 1) = false := beq_eq_false_iff_ne.mpr c32
                        have c32b1 : (t687 != 1) = true := bne_iff_ne.mpr c32
                        exact absurd ((Option.some.inj H).trans hT.out) Bool.false_ne_true
                    · rw [if_neg c31] at H
                      have c31b0 : (a1 == 0) = false := beq_eq_false_iff_ne.mpr c31
                      have c31b1 : (a1 != 0) = true := bne_iff_ne.mpr c31
                      obtain rfl := Option.some.inj H
                      go_enter Try.func10, Try.ntmps10
                      go_wp2_with (first | ((with_reducible refine gate_callee (f := 30) rfl ?_); refine goesL_ (some 14) rfl rfl Try.func30 (by kernel_rfl) rfl #[] rfl (by (try simp only [List.map_toArray, List.map_cons, List.map_nil]); first | done | rfl | (simp only [List.length_drop, List.length_take]; rfl)) ?_; (with_reducible refine (medlarlaw12_live.calls k  true _ A3.out).mono ?_); rintro e w39 ⟨rfl, hb⟩; refine ⟨_, rfl, ?_⟩; have n0_ := Aside0.mk (below_step (by repeat (first | (with_reducible first | exact HB.out | apply below_alloc | apply pw_below_drewN | apply below_drew1) | exact HB.out)) hb); clear HB; have HB := n0_; clear n0_; (try clear hb); (try clear hb2); (try clear hk); (try clear hi)) | ((with_reducible refine gate_callee (f := 34) rfl ?_); refine goesL_ (some 18) rfl rfl Try.func34 (by kernel_rfl) rfl #[.int .i64 a0, .int .i64 2, .int .i64 a1] rfl (by (try simp only [List.map_toArray, List.map_cons, List.map_nil]); first | done | rfl | (simp only [List.length_drop, List.length_take]; rfl)) ?_; (with_reducible refine (layer_Bound.calls k a0 2 a1 t687 t688 _ A4.out).mono ?_); rintro e w40 ⟨rfl, hb⟩; refine ⟨_, rfl, ?_⟩; have n0_ := Aside0.mk (below_step (by repeat (first | (with_reducible first | exact HB.out | apply below_alloc | apply pw_below_drewN | apply below_drew1) | exact HB.out)) hb); clear HB; have HB := n0_; clear n0_; (try clear hb); (try clear hb2); (try clear hk); (try clear hi)) | ((with_reducible refine gate_callee (f := 34) rfl ?_); refine goesL_ (some 24) rfl rfl Try.func34 (by kernel_rfl) rfl #[.int .i64 a0, .int .i64 3, .int .i64 a1] rfl (by (try simp only [List.map_toArray, List.map_cons, List.map_nil]); first | done | rfl | (simp only [List.length_drop, List.length_take]; rfl)) ?_; (with_reducible refine (layer_Bound.calls k a0 3 a1 t689 t690 _ A5.out).mono ?_); rintro e w41 ⟨rfl, hb⟩; refine ⟨_, rfl, ?_⟩; have n0_ := Aside0.mk (below_step (by repeat (first | (with_reducible first | exact HB.out | apply below_alloc | apply pw_below_drewN | apply below_drew1) | exact HB.out)) hb); clear HB; have HB := n0_; clear n0_; (try clear hb); (try clear hb2); (try clear hk); (try clear hi)) | ((with_reducible refine gate_callee (f := 34) rfl ?_); refine goesL_ (some 30) rfl rfl Try.func34 (by kernel_rfl) rfl #[.int .i64 a0, .int .i64 1, .int .i64 a1] rfl (by (try simp only [List.map_toArray, List.map_cons, List.map_nil]); first | done | rfl | (simp only [List.length_drop, List.length_take]; rfl)) ?_; (with_reducible refine (layer_Bound.calls k a0 1 a1 t691 t692 _ A6.out).mono ?_); rintro e w42 ⟨rfl, hb⟩; refine ⟨_, rfl, ?_⟩; have n0_ := Aside0.mk (below_step (by repeat (first | (with_reducible first | exact HB.out | apply below_alloc | apply pw_below_drewN | apply below_drew1) | exact HB.out)) hb); clear HB; have HB := n0_; clear n0_; (try clear hb); (try clear hb2); (try clear hk); (try clear hi)) | ((with_reducible refine gate_callee (f := 34) rfl ?_); refine goesL_ (some 48) rfl rfl Try.func34 (by kernel_rfl) rfl #[.int .i64 a0, .int .i64 3, .int .i64 1] rfl (by (try simp only [List.map_toArray, List.map_cons, List.map_nil]); first | done | rfl | (simp only [List.length_drop, List.length_take]; rfl)) ?_; (with_reducible refine (layer_Bound.calls k a0 3 1 t693 t694 _ A8.out).mono ?_); rintro e w43 ⟨rfl, hb⟩; refine ⟨_, rfl, ?_⟩; have n0_ := Aside0.mk (below_step (by repeat (first | (with_reducible first | exact HB.out | apply below_alloc | apply pw_below_drewN | apply below_drew1) | exact HB.out)) hb); clear HB; have HB := n0_; clear n0_; (try clear hb); (try clear hb2); (try clear hk); (try clear hi)))
                      go_ret
                      exact ⟨by first | rfl | (simp [errW_none, errW_some] <;> rfl) | (simp [*, errW_none, errW_some] <;> rfl), by repeat (first | (with_reducible first | exact HB.out | apply below_alloc | apply pw_below_drewN | apply below_drew1) | exact HB.out)⟩
                · rw [if_neg c15] at H
                  have c15b0 : decide (t689 ≤ (IntKind.u64.wrap (2 * t687))) = false := decide_eq_false c15
                  clear c15
                  exact absurd ((Option.some.inj H).trans hT.out) Bool.false_ne_true
              · rw [if_neg c14] at H
                have c14b0 : decide (t687 ≤ t689) = false := decide_eq_false c14
                clear c14
                exact absurd ((Option.some.inj H).trans hT.out) Bool.false_ne_true
            · rw [if_neg c13] at H
              have c13b0 : (t693 == 2) = false := beq_eq_false_iff_ne.mpr c13
              have c13b1 : (t693 != 2) = true := bne_iff_ne.mpr c13
              exact absurd ((Option.some.inj H).trans hT.out) Bool.false_ne_true
          · rw [if_neg c12] at H
            have c12b0 : (t694 == 0) = false := beq_eq_false_iff_ne.mpr c12
            have c12b1 : (t694 != 0) = true := bne_iff_ne.mpr c12
            exact absurd ((Option.some.inj H).trans hT.out) Bool.false_ne_true
        · rw [if_neg c11] at H
          have c11b0 : (t692 == 0) = false := beq_eq_false_iff_ne.mpr c11
          have c11b1 : (t692 != 0) = true := bne_iff_ne.mpr c11
          exact absurd ((Option.some.inj H).trans hT.out) Bool.false_ne_true
      · rw [if_neg c10] at H
        have c10b0 : (t690 == 0) = false := beq_eq_false_iff_ne.mpr c10
        have c10b1 : (t690 != 0) = true := bne_iff_ne.mpr c10
        exact absurd ((Option.some.inj H).trans hT.out) Bool.false_ne_true
    · replace c9 := Bool.eq_false_iff.mpr c9
      subst c9
      have H1 : (some false) = some r := by rw [if_neg (show ¬ (false = true) by decide)] at H; exact H
      clear H
      have H := H1
      clear H1
      exact absurd ((Option.some.inj H).trans hT.out) Bool.false_ne_true
  · rw [if_neg c7] at H
    have c7b0 : (t688 == 0) = false := beq_eq_false_iff_ne.mpr c7
    have c7b1 : (t688 != 0) = true := bne_iff_ne.mpr c7
    by_cases c44 : t686 = true
    · subst c44
      have H1 : (if t688 = t690 then (some (t688 == t692)) else (some false)) = some r := by rw [if_pos rfl] at H; exact H
      clear H
      have H := H1
      clear H1
      by_cases c45 : t688 = t690
      · rw [if_pos c45] at H
        have c45b0 : (t688 == t690) = true := beq_iff_eq.mpr c45
        have c45b1 : (t688 != t690) = false := bne_eq_false_iff_eq.mpr c45
        clear c45
        obtain rfl := Option.some.inj H
        go_enter Try.func10, Try.ntmps10
        go_wp2_with (first | ((with_reducible refine gate_callee (f := 30) rfl ?_); refine goesL_ (some 14) rfl rfl Try.func30 (by kernel_rfl) rfl #[] rfl (by (try simp only [List.map_toArray, List.map_cons, List.map_nil]); first | done | rfl | (simp only [List.length_drop, List.length_take]; rfl)) ?_; (with_reducible refine (medlarlaw12_live.calls k  true _ A3.out).mono ?_); rintro e w46 ⟨rfl, hb⟩; refine ⟨_, rfl, ?_⟩; have n0_ := Aside0.mk (below_step (by repeat (first | (with_reducible first | exact HB.out | apply below_alloc | apply pw_below_drewN | apply below_drew1) | exact HB.out)) hb); clear HB; have HB := n0_; clear n0_; (try clear hb); (try clear hb2); (try clear hk); (try clear hi)) | ((with_reducible refine gate_callee (f := 34) rfl ?_); refine goesL_ (some 18) rfl rfl Try.func34 (by kernel_rfl) rfl #[.int .i64 a0, .int .i64 2, .int .i64 a1] rfl (by (try simp only [List.map_toArray, List.map_cons, List.map_nil]); first | done | rfl | (simp only [List.length_drop, List.length_take]; rfl)) ?_; (with_reducible refine (layer_Bound.calls k a0 2 a1 t687 t688 _ A4.out).mono ?_); rintro e w47 ⟨rfl, hb⟩; refine ⟨_, rfl, ?_⟩; have n0_ := Aside0.mk (below_step (by repeat (first | (with_reducible first | exact HB.out | apply below_alloc | apply pw_below_drewN | apply below_drew1) | exact HB.out)) hb); clear HB; have HB := n0_; clear n0_; (try clear hb); (try clear hb2); (try clear hk); (try clear hi)) | ((with_reducible refine gate_callee (f := 34) rfl ?_); refine goesL_ (some 24) rfl rfl Try.func34 (by kernel_rfl) rfl #[.int .i64 a0, .int .i64 3, .int .i64 a1] rfl (by (try simp only [List.map_toArray, List.map_cons, List.map_nil]); first | done | rfl | (simp only [List.length_drop, List.length_take]; rfl)) ?_; (with_reducible refine (layer_Bound.calls k a0 3 a1 t689 t690 _ A5.out).mono ?_); rintro e w48 ⟨rfl, hb⟩; refine ⟨_, rfl, ?_⟩; have n0_ := Aside0.mk (below_step (by repeat (first | (with_reducible first | exact HB.out | apply below_alloc | apply pw_below_drewN | apply below_drew1) | exact HB.out)) hb); clear HB; have HB := n0_; clear n0_; (try clear hb); (try clear hb2); (try clear hk); (try clear hi)) | ((with_reducible refine gate_callee (f := 34) rfl ?_); refine goesL_ (some 30) rfl rfl Try.func34 (by kernel_rfl) rfl #[.int .i64 a0, .int .i64 1, .int .i64 a1] rfl (by (try simp only [List.map_toArray, List.map_cons, List.map_nil]); first | done | rfl | (simp only [List.length_drop, List.length_take]; rfl)) ?_; (with_reducible refine (layer_Bound.calls k a0 1 a1 t691 t692 _ A6.out).mono ?_); rintro e w49 ⟨rfl, hb⟩; refine ⟨_, rfl, ?_⟩; have n0_ := Aside0.mk (below_step (by repeat (first | (with_reducible first | exact HB.out | apply below_alloc | apply pw_below_drewN | apply below_drew1) | exact HB.out)) hb); clear HB; have HB := n0_; clear n0_; (try clear hb); (try clear hb2); (try clear hk); (try clear hi)))
        go_ret
        exact ⟨by first | rfl | (simp [errW_none, errW_some] <;> rfl) | (simp [*, errW_none, errW_some] <;> rfl), by repeat (first | (with_reducible first | exact HB.out | apply below_alloc | apply pw_below_drewN | apply below_drew1) | exact HB.out)⟩
      · rw [if_neg c45] at H
        have c45b0 : (t688 == t690) = false := beq_eq_false_iff_ne.mpr c45
        have c45b1 : (t688 != t690) = true := bne_iff_ne.mpr c45
        exact absurd ((Option.some.inj H).trans hT.out) Bool.false_ne_true
    · replace c44 := Bool.eq_false_iff.mpr c44
      subst c44
      have H1 : (some false) = some r := by rw [if_neg (show ¬ (false = true) by decide)] at H; exact H
      clear H
      have H := H1
      clear H1
      exact absurd ((Option.some.inj H).trans hT.out) Bool.false_ne_true

/-- THE ONE PURE STATEMENT of medlarlaw12_LayerBound: yours. -/
def medlarlaw12_LayerBound.Pure : Prop := ∀ (a0 : Int) (a1 : Int), (Lit.int .i64 a0).wf = true → (Lit.int .i64 a1).wf = true → ∃ k, medlarlaw12_LayerBound.f k a0 a1 = some true
theorem medlarlaw12_LayerBound.walk (P : medlarlaw12_LayerBound.Pure) (a0 : Int) (a1 : Int) (w : World) (w0 : (Lit.int .i64 a0).wf = true) (w1 : (Lit.int .i64 a1).wf = true) :
    Calls Try.prog 10 #[.int .i64 a0, .int .i64 a1] w fun e w' => e = .returned (.bool true) ∧ Below w.heap.size w w' := by
  obtain ⟨k, h⟩ := P a0 a1 w0 w1
  refine (medlarlaw12_LayerBound.calls k a0 a1 true w h ⟨rfl⟩).mono ?_
  rintro e w' ⟨rfl, hd⟩
  exact ⟨rfl, hd⟩

end Go.Proofs.Ytmffkfakcbopcaa.MP
