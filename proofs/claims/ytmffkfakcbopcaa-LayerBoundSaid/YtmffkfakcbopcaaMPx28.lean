-- written by a program of this session (wip/tools/mprint.sh) for this seat
import Derived.Test.YtmffkfakcbopcaaMPx0
import Derived.Test.YtmffkfakcbopcaaMPx8
import Derived.Test.YtmffkfakcbopcaaMPx23
namespace Go.Proofs.Ytmffkfakcbopcaa.MP
open Go.RowKit Go.Proofs.YtmffkfakcbopcaaW.PrintWords Go.Proofs.YtmffkfakcbopcaaW.PrintLast Go.Proofs.YtmffkfakcbopcaaW.PrintMore
attribute [local go_sem] max2_int min2_int max_two min_two max_three min_three max_four min_four   -- for this text's walks alone
set_option linter.unusedVariables false
set_option linter.unusedSimpArgs false

/-! ### layer_Bound: function 34 -/
def layer_Bound.f (k : Nat) (a0 : Int) (a1 : Int) (a2 : Int) : Option (Int × Int) := (layer_check.f k a0 a1).bind fun t679 => (if t679 = 0 then (if a1 = 1 then ((whole_Bound.f k a0 a2).bind fun bt680 => (some (bt680.1, bt680.2))) else (if a1 = 3 then ((diff_Bound.f k a0 a2).bind fun bt682 => (some (IntKind.u64.wrap (bt682.1 * 2 ^ (mx (mn a2 1) 0).toNat), bt682.2))) else ((diff_Bound.f k a0 a2).bind fun bt684 => (some (IntKind.u64.wrap (bt684.1 * 2 ^ (mx 0 0).toNat), bt684.2))))) else (some (0, t679)))
theorem layer_Bound.mono : ∀ a0 a1 a2 k, LeO (layer_Bound.f k a0 a1 a2) (layer_Bound.f (k + 1) a0 a1 a2) := by
  intro a0 a1 a2 k
  unfold layer_Bound.f
  repeat' first
      | (with_reducible exact diff_Bound.mono _ _ _)
      | (with_reducible exact layer_check.mono _ _ _)
      | (with_reducible exact whole_Bound.mono _ _ _)
      | (with_reducible exact LeO.refl _)
      | (with_reducible exact LeO.none _)
      | (with_reducible refine LeO.ite ?_ ?_)
      | (with_reducible refine LeO.bind ?_ (fun _ => ?_))
      | exact diff_Bound.mono _ _ _
      | exact layer_check.mono _ _ _
      | exact whole_Bound.mono _ _ _
      | exact LeO.none _
      | refine LeO.ite ?_ ?_
      | refine LeO.bind ?_ (fun _ => ?_)
set_option maxHeartbeats 8000000 in
set_option maxRecDepth 100000 in
theorem layer_Bound.calls (k : Nat) (a0 : Int) (a1 : Int) (a2 : Int) (r1 : Int) (r2 : Int) (w : World) (h : layer_Bound.f k a0 a1 a2 = some (r1, r2)) :
    Calls Try.prog 34 #[.int .i64 a0, .int .i64 a1, .int .i64 a2] w fun e w' => e = .returned (.tuple #[.int .u64 r1, .int .i64 r2]) ∧ Below w.heap.size w w' := by
  have HB := Aside0.mk (Below.refl w.heap.size w)
  have H : ((layer_check.f k a0 a1).bind fun t679 => (if t679 = 0 then (if a1 = 1 then ((whole_Bound.f k a0 a2).bind fun bt680 => (some (bt680.1, bt680.2))) else (if a1 = 3 then ((diff_Bound.f k a0 a2).bind fun bt682 => (some (IntKind.u64.wrap (bt682.1 * 2 ^ (mx (mn a2 1) 0).toNat), bt682.2))) else ((diff_Bound.f k a0 a2).bind fun bt684 => (some (IntKind.u64.wrap (bt684.1 * 2 ^ (mx 0 0).toNat), bt684.2))))) else (some (0, t679)))) = some (r1, r2) := h
  clear h
  replace H := Option.bind_eq_some_iff.mp H
  obtain ⟨t679, A40, H⟩ := H
  replace H : (if t679 = 0 then (if a1 = 1 then ((whole_Bound.f k a0 a2).bind fun bt680 => (some (bt680.1, bt680.2))) else (if a1 = 3 then ((diff_Bound.f k a0 a2).bind fun bt682 => (some (IntKind.u64.wrap (bt682.1 * 2 ^ (mx (mn a2 1) 0).toNat), bt682.2))) else ((diff_Bound.f k a0 a2).bind fun bt684 => (some (IntKind.u64.wrap (bt684.1 * 2 ^ (mx 0 0).toNat), bt684.2))))) else (some (0, t679))) = some (r1, r2) := H
  have A4 := Aside0.mk A40
  clear A40
  by_cases c5 : t679 = 0
  · rw [if_pos c5] at H
    have c5b0 : (t679 == 0) = true := beq_iff_eq.mpr c5
    have c5b1 : (t679 != 0) = false := bne_eq_false_iff_eq.mpr c5
    clear c5
    by_cases c6 : a1 = 1
    · rw [if_pos c6] at H
      have c6b0 : (a1 == 1) = true := beq_iff_eq.mpr c6
      have c6b1 : (a1 != 1) = false := bne_eq_false_iff_eq.mpr c6
      clear c6
      replace H := Option.bind_eq_some_iff.mp H
      obtain ⟨⟨t680, t681⟩, A70, H⟩ := H
      replace H : (some (t680, t681)) = some (r1, r2) := H
      have A7 := Aside0.mk A70
      clear A70
      simp only [Option.some.injEq, Prod.mk.injEq] at H
      obtain ⟨rfl, rfl⟩ := H
      go_enter Try.func34, Try.ntmps34
      go_wp2_with (first | ((with_reducible refine gate_callee (f := 73) rfl ?_); refine goesL_ (some 11) rfl rfl Try.func73 (by kernel_rfl) rfl #[.int .i64 a0, .int .i64 a1] rfl (by (try simp only [List.map_toArray, List.map_cons, List.map_nil]); first | done | rfl | (simp only [List.length_drop, List.length_take]; rfl)) ?_; (with_reducible refine (layer_check.calls k a0 a1 t679 _ A4.out).mono ?_); rintro e w' ⟨rfl, ⟨nd, rfl⟩⟩; refine ⟨_, rfl, ?_⟩) | ((with_reducible refine gate_callee (f := 50) rfl ?_); refine goesL_ (some 22) rfl rfl Try.func50 (by kernel_rfl) rfl #[.int .i64 a0, .int .i64 a2] rfl (by (try simp only [List.map_toArray, List.map_cons, List.map_nil]); first | done | rfl | (simp only [List.length_drop, List.length_take]; rfl)) ?_; (with_reducible refine (whole_Bound.calls k a0 a2 t680 t681 _ A7.out).mono ?_); rintro e w8 ⟨rfl, hb⟩; refine ⟨_, rfl, ?_⟩; have n0_ := Aside0.mk (below_step (by repeat (first | (with_reducible first | exact HB.out | apply below_alloc | apply pw_below_drewN | apply below_drew1) | exact HB.out)) hb); clear HB; have HB := n0_; clear n0_; (try clear hb); (try clear hb2); (try clear hk); (try clear hi)))
      go_ret2
      exact ⟨by first | rfl | (simp [errW_none, errW_some] <;> rfl) | (simp [*, errW_none, errW_some] <;> rfl), by repeat (first | (with_reducible first | exact HB.out | apply below_alloc | apply pw_below_drewN | apply below_drew1) | exact HB.out)⟩
    · rw [if_neg c6] at H
      have c6b0 : (a1 == 1) = false := beq_eq_false_iff_ne.mpr c6
      have c6b1 : (a1 != 1) = true := bne_iff_ne.mpr c6
      by_cases c9 : a1 = 3
      · rw [if_pos c9] at H
        have c9b0 : (a1 == 3) = true := beq_iff_eq.mpr c9
        have c9b1 : (a1 != 3) = false := bne_eq_false_iff_eq.mpr c9
        clear c9
        obtain ⟨ji10, hji10⟩ : ∃ j_ : Int, (mn a2 1) = j_ := ⟨_, rfl⟩
        replace H : ((diff_Bound.f k a0 a2).bind fun bt682 => (some (IntKind.u64.wrap (bt682.1 * 2 ^ (mx (ji10) 0).toNat), bt682.2))) = some (r1, r2) := by first | (rw [hji10] at H; exact H) | (simp only [hji10] at H ⊢; exact H)
        (try rw [hji10] at A4)
        (try (have hji10h : ji10 ≤ 1 := by (rw [← hji10]; unfold mn; (repeat' split) <;> omega)))
        (try (have hji10g : ji10 ≤ 64 := by omega))
        have hji10_ : (if 1 < a2 then 1 else a2) = ji10 := hji10
        replace H := Option.bind_eq_some_iff.mp H
        obtain ⟨⟨t682, t683⟩, A110, H⟩ := H
        replace H : (some (IntKind.u64.wrap (t682 * 2 ^ (mx (ji10) 0).toNat), t683)) = some (r1, r2) := H
        have A11 := Aside0.mk A110
        clear A110
        obtain ⟨ji12, hji12⟩ : ∃ j_ : Int, (mx (ji10) 0) = j_ := ⟨_, rfl⟩
        replace H : (some (IntKind.u64.wrap (t682 * 2 ^ (ji12).toNat), t683)) = some (r1, r2) := by first | (rw [hji12] at H; exact H) | (simp only [hji12] at H ⊢; exact H)
        (try rw [hji12] at A4)
        (try rw [hji12] at A11)
        have hji12_ : (if (ji10) < 0 then 0 else (ji10)) = ji12 := hji12
        simp only [Option.some.injEq, Prod.mk.injEq] at H
        obtain ⟨rfl, rfl⟩ := H
        go_enter Try.func34, Try.ntmps34
        go_wp2_with (first | ((with_reducible refine gate_callee (f := 73) rfl ?_); refine goesL_ (some 11) rfl rfl Try.func73 (by kernel_rfl) rfl #[.int .i64 a0, .int .i64 a1] rfl (by (try simp only [List.map_toArray, List.map_cons, List.map_nil]); first | done | rfl | (simp only [List.length_drop, List.length_take]; rfl)) ?_; (with_reducible refine (layer_check.calls k a0 a1 t679 _ A4.out).mono ?_); rintro e w' ⟨rfl, ⟨nd, rfl⟩⟩; refine ⟨_, rfl, ?_⟩) | ((with_reducible refine gate_callee (f := 17) rfl ?_); refine goesL_ (some 30) rfl rfl Try.func17 (by kernel_rfl) rfl #[.int .i64 a0, .int .i64 a2] rfl (by (try simp only [List.map_toArray, List.map_cons, List.map_nil]); first | done | rfl | (simp only [List.length_drop, List.length_take]; rfl)) ?_; (with_reducible refine (diff_Bound.calls k a0 a2 t682 t683 _ A11.out).mono ?_); rintro e w13 ⟨rfl, hb⟩; refine ⟨_, rfl, ?_⟩; have n0_ := Aside0.mk (below_step (by repeat (first | (with_reducible first | exact HB.out | apply below_alloc | apply pw_below_drewN | apply below_drew1) | exact HB.out)) hb); clear HB; have HB := n0_; clear n0_; (try clear hb); (try clear hb2); (try clear hk); (try clear hi)))
        go_ret2
        exact ⟨by first | rfl | ((have z_ : ji12 = 0 := (by omega)); rw [z_]; simp; done) | (simp [errW_none, errW_some] <;> rfl) | (simp only [← hji10, ← hji12]; first | rfl | (simp [errW_none, errW_some] <;> rfl)) | (simp [*, errW_none, errW_some] <;> rfl), by repeat (first | (with_reducible first | exact HB.out | apply below_alloc | apply pw_below_drewN | apply below_drew1) | exact HB.out)⟩
      · rw [if_neg c9] at H
        have c9b0 : (a1 == 3) = false := beq_eq_false_iff_ne.mpr c9
        have c9b1 : (a1 != 3) = true := bne_iff_ne.mpr c9
        replace H := Option.bind_eq_some_iff.mp H
        obtain ⟨⟨t684, t685⟩, A140, H⟩ := H
        replace H : (some (IntKind.u64.wrap (t684 * 2 ^ (mx 0 0).toNat), t685)) = some (r1, r2) := H
        have A14 := Aside0.mk A140
        clear A140
        obtain ⟨ji15, hji15⟩ : ∃ j_ : Int, (mx 0 0) = j_ := ⟨_, rfl⟩
        replace H : (some (IntKind.u64.wrap (t684 * 2 ^ (ji15).toNat), t685)) = some (r1, r2) := by first | (rw [hji15] at H; exact H) | (simp only [hji15] at H ⊢; exact H)
        (try rw [hji15] at A4)
        (try rw [hji15] at A14)
        (try (have hji15h : ji15 ≤ 0 := by (rw [← hji15]; unfold mx; (repeat' split) <;> omega)))
        (try (have hji15g : ji15 ≤ 64 := by omega))
        (try (have hji15l : 0 ≤ ji15 := by (rw [← hji15]; unfold mx; (repeat' split) <;> omega)))
        (try (have hji15m : 0 ≤ ji15 := by omega))
        have hji15_ : (if 0 < 0 then 0 else 0) = ji15 := hji15
        simp only [Option.some.injEq, Prod.mk.injEq] at H
        obtain ⟨rfl, rfl⟩ := H
        go_enter Try.func34, Try.ntmps34
        go_wp2_with (first | ((with_reducible refine gate_callee (f := 73) rfl ?_); refine goesL_ (some 11) rfl rfl Try.func73 (by kernel_rfl) rfl #[.int .i64 a0, .int .i64 a1] rfl (by (try simp only [List.map_toArray, List.map_cons, List.map_nil]); first | done | rfl | (simp only [List.length_drop, List.length_take]; rfl)) ?_; (with_reducible refine (layer_check.calls k a0 a1 t679 _ A4.out).mono ?_); rintro e w' ⟨rfl, ⟨nd, rfl⟩⟩; refine ⟨_, rfl, ?_⟩) | ((with_reducible refine gate_callee (f := 17) rfl ?_); refine goesL_ (some 30) rfl rfl Try.func17 (by kernel_rfl) rfl #[.int .i64 a0, .int .i64 a2] rfl (by (try simp only [List.map_toArray, List.map_cons, List.map_nil]); first | done | rfl | (simp only [List.length_drop, List.length_take]; rfl)) ?_; (with_reducible refine (diff_Bound.calls k a0 a2 t684 t685 _ A14.out).mono ?_); rintro e w16 ⟨rfl, hb⟩; refine ⟨_, rfl, ?_⟩; have n0_ := Aside0.mk (below_step (by repeat (first | (with_reducible first | exact HB.out | apply below_alloc | apply pw_below_drewN | apply below_drew1) | exact HB.out)) hb); clear HB; have HB := n0_; clear n0_; (try clear hb); (try clear hb2); (try clear hk); (try clear hi)))
        go_ret2
        exact ⟨by first | rfl | ((have z_ : ji15 = 0 := (by omega)); rw [z_]; simp; done) | (simp [errW_none, errW_some] <;> rfl) | (simp only [← hji15]; first | rfl | (simp [errW_none, errW_some] <;> rfl)) | (simp [*, errW_none, errW_some] <;> rfl), by repeat (first | (with_reducible first | exact HB.out | apply below_alloc | apply pw_below_drewN | apply below_drew1) | exact HB.out)⟩
  · rw [if_neg c5] at H
    have c5b0 : (t679 == 0) = false := beq_eq_false_iff_ne.mpr c5
    have c5b1 : (t679 != 0) = true := bne_iff_ne.mpr c5
    simp only [Option.some.injEq, Prod.mk.injEq] at H
    obtain ⟨rfl, rfl⟩ := H
    go_enter Try.func34, Try.ntmps34
    go_wp2_with (first | ((with_reducible refine gate_callee (f := 73) rfl ?_); refine goesL_ (some 11) rfl rfl Try.func73 (by kernel_rfl) rfl #[.int .i64 a0, .int .i64 a1] rfl (by (try simp only [List.map_toArray, List.map_cons, List.map_nil]); first | done | rfl | (simp only [List.length_drop, List.length_take]; rfl)) ?_; (with_reducible refine (layer_check.calls k a0 a1 t679 _ A4.out).mono ?_); rintro e w' ⟨rfl, ⟨nd, rfl⟩⟩; refine ⟨_, rfl, ?_⟩))
    go_ret2
    exact ⟨by first | rfl | (simp [errW_none, errW_some] <;> rfl) | (simp [*, errW_none, errW_some] <;> rfl), by repeat (first | (with_reducible first | exact HB.out | apply below_alloc | apply pw_below_drewN | apply below_drew1) | exact HB.out)⟩

end Go.Proofs.Ytmffkfakcbopcaa.MP
