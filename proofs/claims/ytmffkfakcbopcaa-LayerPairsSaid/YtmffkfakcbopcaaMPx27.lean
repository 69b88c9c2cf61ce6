-- written by a program of this session (wip/tools/mprint.sh) for this seat
import Derived.Test.YtmffkfakcbopcaaMPx0
import Derived.Test.YtmffkfakcbopcaaMPx23
import Derived.Test.YtmffkfakcbopcaaMPx24
import Derived.Test.YtmffkfakcbopcaaMPx26
namespace Go.Proofs.Ytmffkfakcbopcaa.MP
open Go.RowKit Go.Proofs.YtmffkfakcbopcaaW.PrintWords Go.Proofs.YtmffkfakcbopcaaW.PrintLast Go.Proofs.YtmffkfakcbopcaaW.PrintMore
attribute [local go_sem] max2_int min2_int max_two min_two max_three min_three max_four min_four   -- for this text's walks alone
set_option linter.unusedVariables false
set_option linter.unusedSimpArgs false

/-! ### medlarlaw12_LayerPairs: function 9 -/
def medlarlaw12_LayerPairs.f (k : Nat) (a0 : Int) : Option (Bool) := (medlarlaw12_live.f k).bind fun t674 => ((layer_Pairs.f k a0).bind fun bt675 => (if bt675.2 = 0 then ((sub_Step.f k a0).bind fun bt677 => (if t674 = true then (if bt677.2 = 0 then (if bt675.1 ≥ a0 then (if bt675.1 ≤ (wrap64 (Int.tdiv (wrap64 (a0 * (wrap64 (a0 + 1)))) 2)) then (if bt677.1 > 1 then (some true) else (some (bt675.1 == (wrap64 (Int.tdiv (wrap64 (a0 * (wrap64 (a0 + 1)))) 2))))) else (some false)) else (some false)) else (some false)) else (some false))) else (if t674 = true then (some (bt675.1 == 0)) else (some false))))
theorem medlarlaw12_LayerPairs.mono : ∀ a0 k, LeO (medlarlaw12_LayerPairs.f k a0) (medlarlaw12_LayerPairs.f (k + 1) a0) := by
  intro a0 k
  unfold medlarlaw12_LayerPairs.f
  repeat' first
      | (with_reducible exact layer_Pairs.mono _ _)
      | (with_reducible exact medlarlaw12_live.mono _)
      | (with_reducible exact sub_Step.mono _ _)
      | (with_reducible exact LeO.refl _)
      | (with_reducible exact LeO.none _)
      | (with_reducible refine LeO.ite ?_ ?_)
      | (with_reducible refine LeO.bind ?_ (fun _ => ?_))
      | exact layer_Pairs.mono _ _
      | exact medlarlaw12_live.mono _
      | exact sub_Step.mono _ _
      | exact LeO.none _
      | refine LeO.ite ?_ ?_
      | refine LeO.bind ?_ (fun _ => ?_)
set_option maxHeartbeats 8000000 in
set_option maxRecDepth 100000 in
theorem medlarlaw12_LayerPairs.calls (k : Nat) (a0 : Int) (r : Bool) (w : World) (h : medlarlaw12_LayerPairs.f k a0 = some r) (hT : Aside0 (r = true)) :
    Calls Try.prog 9 #[.int .i64 a0] w fun e w' => e = .returned (.bool r) ∧ Below w.heap.size w w' := by
  have HB := Aside0.mk (Below.refl w.heap.size w)
  have H : ((medlarlaw12_live.f k).bind fun t674 => ((layer_Pairs.f k a0).bind fun bt675 => (if bt675.2 = 0 then ((sub_Step.f k a0).bind fun bt677 => (if t674 = true then (if bt677.2 = 0 then (if bt675.1 ≥ a0 then (if bt675.1 ≤ (wrap64 (Int.tdiv (wrap64 (a0 * (wrap64 (a0 + 1)))) 2)) then (if bt677.1 > 1 then (some true) else (some (bt675.1 == (wrap64 (Int.tdiv (wrap64 (a0 * (wrap64 (a0 + 1)))) 2))))) else (some false)) else (some false)) else (some false)) else (some false))) else (if t674 = true then (some (bt675.1 == 0)) else (some false))))) = some r := h
  clear h
  replace H := Option.bind_eq_some_iff.mp H
  obtain ⟨t674, A20, H⟩ := H
  replace H : ((layer_Pairs.f k a0).bind fun bt675 => (if bt675.2 = 0 then ((sub_Step.f k a0).bind fun bt677 => (if t674 = true then (if bt677.2 = 0 then (if bt675.1 ≥ a0 then (if bt675.1 ≤ (wrap64 (Int.tdiv (wrap64 (a0 * (wrap64 (a0 + 1)))) 2)) then (if bt677.1 > 1 then (some true) else (some (bt675.1 == (wrap64 (Int.tdiv (wrap64 (a0 * (wrap64 (a0 + 1)))) 2))))) else (some false)) else (some false)) else (some false)) else (some false))) else (if t674 = true then (some (bt675.1 == 0)) else (some false)))) = some r := H
  have A2 := Aside0.mk A20
  clear A20
  replace H := Option.bind_eq_some_iff.mp H
  obtain ⟨⟨t675, t676⟩, A30, H⟩ := H
  replace H : (if t676 = 0 then ((sub_Step.f k a0).bind fun bt677 => (if t674 = true then (if bt677.2 = 0 then (if t675 ≥ a0 then (if t675 ≤ (wrap64 (Int.tdiv (wrap64 (a0 * (wrap64 (a0 + 1)))) 2)) then (if bt677.1 > 1 then (some true) else (some (t675 == (wrap64 (Int.tdiv (wrap64 (a0 * (wrap64 (a0 + 1)))) 2))))) else (some false)) else (some false)) else (some false)) else (some false))) else (if t674 = true then (some (t675 == 0)) else (some false))) = some r := H
  have A3 := Aside0.mk A30
  clear A30
  by_cases c4 : t676 = 0
  · rw [if_pos c4] at H
    have c4b0 : (t676 == 0) = true := beq_iff_eq.mpr c4
    have c4b1 : (t676 != 0) = false := bne_eq_false_iff_eq.mpr c4
    clear c4
    replace H := Option.bind_eq_some_iff.mp H
    obtain ⟨⟨t677, t678⟩, A50, H⟩ := H
    replace H : (if t674 = true then (if t678 = 0 then (if t675 ≥ a0 then (if t675 ≤ (wrap64 (Int.tdiv (wrap64 (a0 * (wrap64 (a0 + 1)))) 2)) then (if t677 > 1 then (some true) else (some (t675 == (wrap64 (Int.tdiv (wrap64 (a0 * (wrap64 (a0 + 1)))) 2))))) else (some false)) else (some false)) else (some false)) else (some false)) = some r := H
    have A5 := Aside0.mk A50
    clear A50
    by_cases c6 : t674 = true
    · subst c6
      have H1 : (if t678 = 0 then (if t675 ≥ a0 then (if t675 ≤ (wrap64 (Int.tdiv (wrap64 (a0 * (wrap64 (a0 + 1)))) 2)) then (if t677 > 1 then (some true) else (some (t675 == (wrap64 (Int.tdiv (wrap64 (a0 * (wrap64 (a0 + 1)))) 2))))) else (some false)) else (some false)) else (some false)) = some r := by rw [if_pos rfl] at H; exact H
      clear H
      have H := H1
      clear H1
      by_cases c7 : t678 = 0
      · rw [if_pos c7] at H
        have c7b0 : (t678 == 0) = true := beq_iff_eq.mpr c7
        have c7b1 : (t678 != 0) = false := bne_eq_false_iff_eq.mpr c7
        clear c7
        by_cases c8 : t675 ≥ a0
        · rw [if_pos c8] at H
          have c8b0 : decide (a0 ≤ t675) = true := decide_eq_true c8
          clear c8
          by_cases c9 : t675 ≤ (wrap64 (Int.tdiv (wrap64 (a0 * (wrap64 (a0 + 1)))) 2))
          · rw [if_pos c9] at H
            have c9b0 : decide (t675 ≤ (wrap64 (Int.tdiv (wrap64 (a0 * (wrap64 (a0 + 1)))) 2))) = true := decide_eq_true c9
            clear c9
            by_cases c10 : t677 > 1
            · rw [if_pos c10] at H
              have c10b0 : decide (1 < t677) = true := decide_eq_true c10
              clear c10
              obtain rfl := Option.some.inj H
              go_enter Try.func9, Try.ntmps9
              go_wp2_with (first | ((with_reducible refine gate_callee (f := 30) rfl ?_); refine goesL_ (some 8) rfl rfl Try.func30 (by kernel_rfl) rfl #[] rfl (by (try simp only [List.map_toArray, List.map_cons, List.map_nil]); first | done | rfl | (simp only [List.length_drop, List.length_take]; rfl)) ?_; (with_reducible refine (medlarlaw12_live.calls k  true _ A2.out).mono ?_); rintro e w11 ⟨rfl, hb⟩; refine ⟨_, rfl, ?_⟩; have n0_ := Aside0.mk (below_step (by repeat (first | (with_reducible first | exact HB.out | apply below_alloc | apply pw_below_drewN | apply below_drew1) | exact HB.out)) hb); clear HB; have HB := n0_; clear n0_; (try clear hb); (try clear hb2); (try clear hk); (try clear hi)) | ((with_reducible refine gate_callee (f := 32) rfl ?_); refine goesL_ (some 11) rfl rfl Try.func32 (by kernel_rfl) rfl #[.int .i64 a0] rfl (by (try simp only [List.map_toArray, List.map_cons, List.map_nil]); first | done | rfl | (simp only [List.length_drop, List.length_take]; rfl)) ?_; (with_reducible refine (layer_Pairs.calls k a0 t675 t676 _ A3.out).mono ?_); rintro e w12 ⟨rfl, hb⟩; refine ⟨_, rfl, ?_⟩; have n0_ := Aside0.mk (below_step (by repeat (first | (with_reducible first | exact HB.out | apply below_alloc | apply pw_below_drewN | apply below_drew1) | exact HB.out)) hb); clear HB; have HB := n0_; clear n0_; (try clear hb); (try clear hb2); (try clear hk); (try clear hi)) | ((with_reducible refine gate_callee (f := 33) rfl ?_); refine goesL_ (some 23) rfl rfl Try.func33 (by kernel_rfl) rfl #[.int .i64 a0] rfl (by (try simp only [List.map_toArray, List.map_cons, List.map_nil]); first | done | rfl | (simp only [List.length_drop, List.length_take]; rfl)) ?_; (with_reducible refine (sub_Step.calls k a0 t677 t678 _ A5.out).mono ?_); rintro e w' ⟨rfl, ⟨nd, rfl⟩⟩; refine ⟨_, rfl, ?_⟩))
              go_ret
              exact ⟨by first | rfl | (simp [errW_none, errW_some] <;> rfl) | (simp [*, errW_none, errW_some] <;> rfl), by repeat (first | (with_reducible first | exact HB.out | apply below_alloc | apply pw_below_drewN | apply below_drew1) | exact HB.out)⟩
            · rw [if_neg c10] at H
              have c10b0 : decide (1 < t677) = false := decide_eq_false c10
              clear c10
              obtain rfl := Option.some.inj H
              go_enter Try.func9, Try.ntmps9
              go_wp2_with (first | ((with_reducible refine gate_callee (f := 30) rfl ?_); refine goesL_ (some 8) rfl rfl Try.func30 (by kernel_rfl) rfl #[] rfl (by (try simp only [List.map_toArray, List.map_cons, List.map_nil]); first | done | rfl | (simp only [List.length_drop, List.length_take]; rfl)) ?_; (with_reducible refine (medlarlaw12_live.calls k  true _ A2.out).mono ?_); rintro e w13 ⟨rfl, hb⟩; refine ⟨_, rfl, ?_⟩; have n0_ := Aside0.mk (below_step (by repeat (first | (with_reducible first | exact HB.out | apply below_alloc | apply pw_below_drewN | apply below_drew1) | exact HB.out)) hb); clear HB; have HB := n0_; clear n0_; (try clear hb); (try clear hb2); (try clear hk); (try clear hi)) | ((with_reducible refine gate_callee (f := 32) rfl ?_); refine goesL_ (some 11) rfl rfl Try.func32 (by kernel_rfl) rfl #[.int .i64 a0] rfl (by (try simp only [List.map_toArray, List.map_cons, List.map_nil]); first | done | rfl | (simp only [List.length_drop, List.length_take]; rfl)) ?_; (with_reducible refine (layer_Pairs.calls k a0 t675 t676 _ A3.out).mono ?_); rintro e w14 ⟨rfl, hb⟩; refine ⟨_, rfl, ?_⟩; have n0_ := Aside0.mk (below_step (by repeat (first | (with_reducible first | exact HB.out | apply below_alloc | apply pw_below_drewN | apply below_drew1) | exact HB.out)) hb); clear HB; have HB := n0_; clear n0_; (try clear hb); (try clear hb2); (try clear hk); (try clear hi)) | ((with_reducible refine gate_callee (f := 33) rfl ?_); refine goesL_ (some 23) rfl rfl Try.func33 (by kernel_rfl) rfl #[.int .i64 a0] rfl (by (try simp only [List.map_toArray, List.map_cons, List.map_nil]); first | done | rfl | (simp only [List.length_drop, List.length_take]; rfl)) ?_; (with_reducible refine (sub_Step.calls k a0 t677 t678 _ A5.out).mono ?_); rintro e w' ⟨rfl, ⟨nd, rfl⟩⟩; refine ⟨_, rfl, ?_⟩))
              go_ret
              exact ⟨by first | rfl | (simp [errW_none, errW_some] <;> rfl) | (simp [*, errW_none, errW_some] <;> rfl), by repeat (first | (with_reducible first | exact HB.out | apply below_alloc | apply pw_below_drewN | apply below_drew1) | exact HB.out)⟩
          · rw [if_neg c9] at H
            have c9b0 : decide (t675 ≤ (wrap64 (Int.tdiv (wrap64 (a0 * (wrap64 (a0 + 1)))) 2))) = false := decide_eq_false c9
            clear c9
            exact absurd ((Option.some.inj H).trans hT.out) Bool.false_ne_true
        · rw [if_neg c8] at H
          have c8b0 : decide (a0 ≤ t675) = false := decide_eq_false c8
          clear c8
          exact absurd ((Option.some.inj H).trans hT.out) Bool.false_ne_true
      · rw [if_neg c7] at H
        have c7b0 : (t678 == 0) = false := beq_eq_false_iff_ne.mpr c7
        have c7b1 : (t678 != 0) = true := bne_iff_ne.mpr c7
        exact absurd ((Option.some.inj H).trans hT.out) Bool.false_ne_true
    · replace c6 := Bool.eq_false_iff.mpr c6
      subst c6
      have H1 : (some false) = some r := by rw [if_neg (show ¬ (false = true) by decide)] at H; exact H
      clear H
      have H := H1
      clear H1
      exact absurd ((Option.some.inj H).trans hT.out) Bool.false_ne_true
  · rw [if_neg c4] at H
    have c4b0 : (t676 == 0) = false := beq_eq_false_iff_ne.mpr c4
    have c4b1 : (t676 != 0) = true := bne_iff_ne.mpr c4
    by_cases c15 : t674 = true
    · subst c15
      have H1 : (some (t675 == 0)) = some r := by rw [if_pos rfl] at H; exact H
      clear H
      have H := H1
      clear H1
      obtain rfl := Option.some.inj H
      go_enter Try.func9, Try.ntmps9
      go_wp2_with (first | ((with_reducible refine gate_callee (f := 30) rfl ?_); refine goesL_ (some 8) rfl rfl Try.func30 (by kernel_rfl) rfl #[] rfl (by (try simp only [List.map_toArray, List.map_cons, List.map_nil]); first | done | rfl | (simp only [List.length_drop, List.length_take]; rfl)) ?_; (with_reducible refine (medlarlaw12_live.calls k  true _ A2.out).mono ?_); rintro e w16 ⟨rfl, hb⟩; refine ⟨_, rfl, ?_⟩; have n0_ := Aside0.mk (below_step (by repeat (first | (with_reducible first | exact HB.out | apply below_alloc | apply pw_below_drewN | apply below_drew1) | exact HB.out)) hb); clear HB; have HB := n0_; clear n0_; (try clear hb); (try clear hb2); (try clear hk); (try clear hi)) | ((with_reducible refine gate_callee (f := 32) rfl ?_); refine goesL_ (some 11) rfl rfl Try.func32 (by kernel_rfl) rfl #[.int .i64 a0] rfl (by (try simp only [List.map_toArray, List.map_cons, List.map_nil]); first | done | rfl | (simp only [List.length_drop, List.length_take]; rfl)) ?_; (with_reducible refine (layer_Pairs.calls k a0 t675 t676 _ A3.out).mono ?_); rintro e w17 ⟨rfl, hb⟩; refine ⟨_, rfl, ?_⟩; have n0_ := Aside0.mk (below_step (by repeat (first | (with_reducible first | exact HB.out | apply below_alloc | apply pw_below_drewN | apply below_drew1) | exact HB.out)) hb); clear HB; have HB := n0_; clear n0_; (try clear hb); (try clear hb2); (try clear hk); (try clear hi)))
      go_ret
      exact ⟨by first | rfl | (simp [errW_none, errW_some] <;> rfl) | (simp [*, errW_none, errW_some] <;> rfl), by repeat (first | (with_reducible first | exact HB.out | apply below_alloc | apply pw_below_drewN | apply below_drew1) | exact HB.out)⟩
    · replace c15 := Bool.eq_false_iff.mpr c15
      subst c15
      have H1 : (some false) = some r := by rw [if_neg (show ¬ (false = true) by decide)] at H; exact H
      clear H
      have H := H1
      clear H1
      exact absurd ((Option.some.inj H).trans hT.out) Bool.false_ne_true

/-- THE ONE PURE STATEMENT of medlarlaw12_LayerPairs: yours. -/
def medlarlaw12_LayerPairs.Pure : Prop := ∀ (a0 : Int), (Lit.int .i64 a0).wf = true → ∃ k, medlarlaw12_LayerPairs.f k a0 = some true
theorem medlarlaw12_LayerPairs.walk (P : medlarlaw12_LayerPairs.Pure) (a0 : Int) (w : World) (w0 : (Lit.int .i64 a0).wf = true) :
    Calls Try.prog 9 #[.int .i64 a0] w fun e w' => e = .returned (.bool true) ∧ Below w.heap.size w w' := by
  obtain ⟨k, h⟩ := P a0 w0
  refine (medlarlaw12_LayerPairs.calls k a0 true w h ⟨rfl⟩).mono ?_
  rintro e w' ⟨rfl, hd⟩
  exact ⟨rfl, hd⟩

end Go.Proofs.Ytmffkfakcbopcaa.MP
