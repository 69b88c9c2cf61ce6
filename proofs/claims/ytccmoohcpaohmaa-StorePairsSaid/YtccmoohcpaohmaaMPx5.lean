-- written by a program of this session (wip/tools/mprint.sh) for this seat
import Derived.Test.YtccmoohcpaohmaaMPx0
import Derived.Test.YtccmoohcpaohmaaMPx2
import Derived.Test.YtccmoohcpaohmaaMPx3
import Derived.Test.YtccmoohcpaohmaaMPx4
namespace Go.Proofs.Ytccmoohcpaohmaa.MP
open Go.RowKit Go.Proofs.YtccmoohcpaohmaaW.PrintWords Go.Proofs.YtccmoohcpaohmaaW.PrintLast Go.Proofs.YtccmoohcpaohmaaW.PrintMore
attribute [local go_sem] max2_int min2_int max_two min_two max_three min_three max_four min_four   -- for this text's walks alone
set_option linter.unusedVariables false
set_option linter.unusedSimpArgs false

/-! ### medlarlaw14_StorePairs: function 10 -/
def medlarlaw14_StorePairs.f (k : Nat) (a0 : Int) (a1 : Int) (a2 : Int) : Option (Bool) := (medlarlaw14_live.f k).bind fun t248 => ((store_Pairs.f k a0 a1 a2).bind fun bt249 => ((medlarref14_Pairs.f k a0 a1 a2).bind fun bt253 => ((store_Many.f k a0 a1).bind fun bt257 => ((medlarref14_Many.f k a0 a1).bind fun bt259 => (if t248 = true then ((medlarref08_Same.f k bt249.1 bt253.1).bind fun t261 => (if t261 = true then (if bt249.2 = bt253.2 then (if bt257.1 = bt259.1 then (some (bt257.2 == bt259.2)) else (some false)) else (some false)) else (some false))) else (some false))))))
theorem medlarlaw14_StorePairs.mono : ∀ a0 a1 a2 k, LeO (medlarlaw14_StorePairs.f k a0 a1 a2) (medlarlaw14_StorePairs.f (k + 1) a0 a1 a2) := by
  intro a0 a1 a2 k
  unfold medlarlaw14_StorePairs.f
  repeat' first
      | (with_reducible exact medlarlaw14_live.mono _)
      | (with_reducible exact medlarref08_Same.mono _ _ _)
      | (with_reducible exact medlarref14_Many.mono _ _ _)
      | (with_reducible exact medlarref14_Pairs.mono _ _ _ _)
      | (with_reducible exact store_Many.mono _ _ _)
      | (with_reducible exact store_Pairs.mono _ _ _ _)
      | (with_reducible exact LeO.refl _)
      | (with_reducible exact LeO.none _)
      | (with_reducible refine LeO.ite ?_ ?_)
      | (with_reducible refine LeO.bind ?_ (fun _ => ?_))
      | exact medlarlaw14_live.mono _
      | exact medlarref08_Same.mono _ _ _
      | exact medlarref14_Many.mono _ _ _
      | exact medlarref14_Pairs.mono _ _ _ _
      | exact store_Many.mono _ _ _
      | exact store_Pairs.mono _ _ _ _
      | exact LeO.none _
      | refine LeO.ite ?_ ?_
      | refine LeO.bind ?_ (fun _ => ?_)
set_option maxHeartbeats 8000000 in
set_option maxRecDepth 100000 in
theorem medlarlaw14_StorePairs.calls (k : Nat) (a0 : Int) (a1 : Int) (a2 : Int) (r : Bool) (w : World) (h : medlarlaw14_StorePairs.f k a0 a1 a2 = some r) (hT : Aside0 (r = true)) :
    Calls Try.prog 10 #[.int .i64 a0, .int .i64 a1, .int .u64 a2] w fun e w' => e = .returned (.bool r) ∧ Below w.heap.size w w' := by
  have HB := Aside0.mk (Below.refl w.heap.size w)
  have H : ((medlarlaw14_live.f k).bind fun t248 => ((store_Pairs.f k a0 a1 a2).bind fun bt249 => ((medlarref14_Pairs.f k a0 a1 a2).bind fun bt253 => ((store_Many.f k a0 a1).bind fun bt257 => ((medlarref14_Many.f k a0 a1).bind fun bt259 => (if t248 = true then ((medlarref08_Same.f k bt249.1 bt253.1).bind fun t261 => (if t261 = true then (if bt249.2 = bt253.2 then (if bt257.1 = bt259.1 then (some (bt257.2 == bt259.2)) else (some false)) else (some false)) else (some false))) else (some false))))))) = some r := h
  clear h
  replace H := Option.bind_eq_some_iff.mp H
  obtain ⟨t248, A40, H⟩ := H
  replace H : ((store_Pairs.f k a0 a1 a2).bind fun bt249 => ((medlarref14_Pairs.f k a0 a1 a2).bind fun bt253 => ((store_Many.f k a0 a1).bind fun bt257 => ((medlarref14_Many.f k a0 a1).bind fun bt259 => (if t248 = true then ((medlarref08_Same.f k bt249.1 bt253.1).bind fun t261 => (if t261 = true then (if bt249.2 = bt253.2 then (if bt257.1 = bt259.1 then (some (bt257.2 == bt259.2)) else (some false)) else (some false)) else (some false))) else (some false)))))) = some r := H
  have A4 := Aside0.mk A40
  clear A40
  replace H := Option.bind_eq_some_iff.mp H
  obtain ⟨⟨t249, t250⟩, A50, H⟩ := H
  replace H : ((medlarref14_Pairs.f k a0 a1 a2).bind fun bt253 => ((store_Many.f k a0 a1).bind fun bt257 => ((medlarref14_Many.f k a0 a1).bind fun bt259 => (if t248 = true then ((medlarref08_Same.f k t249 bt253.1).bind fun t261 => (if t261 = true then (if t250 = bt253.2 then (if bt257.1 = bt259.1 then (some (bt257.2 == bt259.2)) else (some false)) else (some false)) else (some false))) else (some false))))) = some r := H
  have A5 := Aside0.mk A50
  clear A50
  replace H := Option.bind_eq_some_iff.mp H
  obtain ⟨⟨t253, t254⟩, A60, H⟩ := H
  replace H : ((store_Many.f k a0 a1).bind fun bt257 => ((medlarref14_Many.f k a0 a1).bind fun bt259 => (if t248 = true then ((medlarref08_Same.f k t249 t253).bind fun t261 => (if t261 = true then (if t250 = t254 then (if bt257.1 = bt259.1 then (some (bt257.2 == bt259.2)) else (some false)) else (some false)) else (some false))) else (some false)))) = some r := H
  have A6 := Aside0.mk A60
  clear A60
  replace H := Option.bind_eq_some_iff.mp H
  obtain ⟨⟨t257, t258⟩, A70, H⟩ := H
  replace H : ((medlarref14_Many.f k a0 a1).bind fun bt259 => (if t248 = true then ((medlarref08_Same.f k t249 t253).bind fun t261 => (if t261 = true then (if t250 = t254 then (if t257 = bt259.1 then (some (t258 == bt259.2)) else (some false)) else (some false)) else (some false))) else (some false))) = some r := H
  have A7 := Aside0.mk A70
  clear A70
  replace H := Option.bind_eq_some_iff.mp H
  obtain ⟨⟨t259, t260⟩, A80, H⟩ := H
  replace H : (if t248 = true then ((medlarref08_Same.f k t249 t253).bind fun t261 => (if t261 = true then (if t250 = t254 then (if t257 = t259 then (some (t258 == t260)) else (some false)) else (some false)) else (some false))) else (some false)) = some r := H
  have A8 := Aside0.mk A80
  clear A80
  by_cases c9 : t248 = true
  · subst c9
    have H1 : ((medlarref08_Same.f k t249 t253).bind fun t261 => (if t261 = true then (if t250 = t254 then (if t257 = t259 then (some (t258 == t260)) else (some false)) else (some false)) else (some false))) = some r := by rw [if_pos rfl] at H; exact H
    clear H
    have H := H1
    clear H1
    replace H := Option.bind_eq_some_iff.mp H
    obtain ⟨t261, A100, H⟩ := H
    replace H : (if t261 = true then (if t250 = t254 then (if t257 = t259 then (some (t258 == t260)) else (some false)) else (some false)) else (some false)) = some r := H
    have A10 := Aside0.mk A100
    clear A100
    by_cases c11 : t261 = true
    · subst c11
      have H1 : (if t250 = t254 then (if t257 = t259 then (some (t258 == t260)) else (some false)) else (some false)) = some r := by rw [if_pos rfl] at H; exact H
      clear H
      have H := H1
      clear H1
      by_cases c12 : t250 = t254
      · rw [if_pos c12] at H
        have c12b0 : (t250 == t254) = true := beq_iff_eq.mpr c12
        have c12b1 : (t250 != t254) = false := bne_eq_false_iff_eq.mpr c12
        clear c12
        by_cases c13 : t257 = t259
        · rw [if_pos c13] at H
          have c13b0 : (t257 == t259) = true := beq_iff_eq.mpr c13
          have c13b1 : (t257 != t259) = false := bne_eq_false_iff_eq.mpr c13
          clear c13
          obtain rfl := Option.some.inj H
          go_enter Try.func10, Try.ntmps10
          go_wp2_with (first | ((with_reducible refine gate_callee (f := 35) rfl ?_); refine goesL_ (some 16) rfl rfl Try.func35 (by kernel_rfl) rfl #[] rfl (by (try simp only [List.map_toArray, List.map_cons, List.map_nil]); first | done | rfl | (simp only [List.length_drop, List.length_take]; rfl)) ?_; (with_reducible refine (medlarlaw14_live.calls k  true _ A4.out).mono ?_); rintro e w14 ⟨rfl, hb⟩; refine ⟨_, rfl, ?_⟩; have n0_ := Aside0.mk (below_step (by repeat (first | (with_reducible first | exact HB.out | apply below_alloc | apply pw_below_drewN | apply below_drew1) | exact HB.out)) hb); clear HB; have HB := n0_; clear n0_; (try clear hb); (try clear hb2); (try clear hk); (try clear hi)) | ((with_reducible refine gate_callee (f := 36) rfl ?_); refine goesL_ (some 21) rfl rfl Try.func36 (by kernel_rfl) rfl #[.int .i64 a0, .int .i64 a1, .int .u64 a2] rfl (by (try simp only [List.map_toArray, List.map_cons, List.map_nil]); first | done | rfl | (simp only [List.length_drop, List.length_take]; rfl)) ?_; (with_reducible refine (store_Pairs.calls k a0 a1 a2 t249 t250 _ A5.out).mono ?_); rintro e w15 ⟨v251, rfl, ho0, hb⟩; refine ⟨_, rfl, ?_⟩; have n0_ := Aside0.mk (Kd.R_lower ho0 (below_size (by repeat (first | (with_reducible first | exact HB.out | apply below_alloc | apply pw_below_drewN | apply below_drew1) | exact HB.out)))); have n1_ := Aside0.mk (below_step (by repeat (first | (with_reducible first | exact HB.out | apply below_alloc | apply pw_below_drewN | apply below_drew1) | exact HB.out)) hb); clear HB; have HO252 := n0_; have HB := n1_; clear n0_ n1_; (try clear hb); (try clear hb2); (try clear hk); (try clear hi); (try clear ho0)) | ((with_reducible refine gate_callee (f := 37) rfl ?_); refine goesL_ (some 28) rfl rfl Try.func37 (by kernel_rfl) rfl #[.int .i64 a0, .int .i64 a1, .int .u64 a2] rfl (by (try simp only [List.map_toArray, List.map_cons, List.map_nil]); first | done | rfl | (simp only [List.length_drop, List.length_take]; rfl)) ?_; (with_reducible refine (medlarref14_Pairs.calls k a0 a1 a2 t253 t254 _ A6.out).mono ?_); rintro e w16 ⟨v255, rfl, ho0, hb⟩; refine ⟨_, rfl, ?_⟩; have n0_ := Aside0.mk (Kd.R_elder' (by (with_reducible repeat (first | apply Kd.R_alloc | apply Kd.R_drewN | apply Kd.R_drew)); exact HO252.out) (Kd.R_base ho0) hb); have n1_ := Aside0.mk (Kd.R_lower (Kd.R_new' ho0 (Kd.R_lt (by (with_reducible repeat (first | apply Kd.R_alloc | apply Kd.R_drewN | apply Kd.R_drew)); exact HO252.out))) (below_size (by repeat (first | (with_reducible first | exact HB.out | apply below_alloc | apply pw_below_drewN | apply below_drew1) | exact HB.out)))); have n2_ := Aside0.mk (below_step (by repeat (first | (with_reducible first | exact HB.out | apply below_alloc | apply pw_below_drewN | apply below_drew1) | exact HB.out)) hb); clear HO252; clear HB; have HO252 := n0_; have HO256 := n1_; have HB := n2_; clear n0_ n1_ n2_; (try clear hb); (try clear hb2); (try clear hk); (try clear hi); (try clear ho0)) | ((with_reducible refine gate_callee (f := 38) rfl ?_); refine goesL_ (some 34) rfl rfl Try.func38 (by kernel_rfl) rfl #[.int .i64 a0, .int .i64 a1] rfl (by (try simp only [List.map_toArray, List.map_cons, List.map_nil]); first | done | rfl | (simp only [List.length_drop, List.length_take]; rfl)) ?_; (with_reducible refine (store_Many.calls k a0 a1 t257 t258 _ A7.out).mono ?_); rintro e w17 ⟨rfl, hb⟩; refine ⟨_, rfl, ?_⟩; have n0_ := Aside0.mk (Kd.R_below (by (with_reducible repeat (first | apply Kd.R_alloc | apply Kd.R_drewN | apply Kd.R_drew)); exact HO252.out) hb); have n1_ := Aside0.mk (Kd.R_below (by (with_reducible repeat (first | apply Kd.R_alloc | apply Kd.R_drewN | apply Kd.R_drew)); exact HO256.out) hb); have n2_ := Aside0.mk (below_step (by repeat (first | (with_reducible first | exact HB.out | apply below_alloc | apply pw_below_drewN | apply below_drew1) | exact HB.out)) hb); clear HO252; clear HO256; clear HB; have HO252 := n0_; have HO256 := n1_; have HB := n2_; clear n0_ n1_ n2_; (try clear hb); (try clear hb2); (try clear hk); (try clear hi)) | ((with_reducible refine gate_callee (f := 39) rfl ?_); refine goesL_ (some 40) rfl rfl Try.func39 (by kernel_rfl) rfl #[.int .i64 a0, .int .i64 a1] rfl (by (try simp only [List.map_toArray, List.map_cons, List.map_nil]); first | done | rfl | (simp only [List.length_drop, List.length_take]; rfl)) ?_; (with_reducible refine (medlarref14_Many.calls k a0 a1 t259 t260 _ A8.out).mono ?_); rintro e w18 ⟨rfl, hb⟩; refine ⟨_, rfl, ?_⟩; have n0_ := Aside0.mk (Kd.R_below (by (with_reducible repeat (first | apply Kd.R_alloc | apply Kd.R_drewN | apply Kd.R_drew)); exact HO252.out) hb); have n1_ := Aside0.mk (Kd.R_below (by (with_reducible repeat (first | apply Kd.R_alloc | apply Kd.R_drewN | apply Kd.R_drew)); exact HO256.out) hb); have n2_ := Aside0.mk (below_step (by repeat (first | (with_reducible first | exact HB.out | apply below_alloc | apply pw_below_drewN | apply below_drew1) | exact HB.out)) hb); clear HO252; clear HO256; clear HB; have HO252 := n0_; have HO256 := n1_; have HB := n2_; clear n0_ n1_ n2_; (try clear hb); (try clear hb2); (try clear hk); (try clear hi); obtain ⟨Ao19, co19, eo19⟩ := Kd.R_slice HO252.out; subst eo19; obtain ⟨Ao20, co20, eo20⟩ := Kd.R_slice HO256.out; subst eo20) | (go_at_call 21; (with_reducible refine (medlarref08_Same.calls k _ _ t249 _ _ t253 true _ ?side1 ?side2 ?side3 ?side4 A10.out).mono ?_); (case side1 => repeat (first | exact (Kd.R_reads' HO252.out).2.2 | (with_reducible refine Kd.C_alloc ?_ _) | (with_reducible refine Kd.C_drewN ?_ _) | (with_reducible refine Kd.C_drew ?_))); (case side2 => exact (Kd.R_reads' HO252.out).2.1); (case side3 => repeat (first | exact (Kd.R_reads' HO256.out).2.2 | (with_reducible refine Kd.C_alloc ?_ _) | (with_reducible refine Kd.C_drewN ?_ _) | (with_reducible refine Kd.C_drew ?_))); (case side4 => exact (Kd.R_reads' HO256.out).2.1); rintro e w' ⟨rfl, ⟨nd, rfl⟩⟩))
          go_ret
          exact ⟨by first | rfl | (simp [errW_none, errW_some] <;> rfl) | (simp [*, errW_none, errW_some] <;> rfl), by repeat (first | (with_reducible first | exact HB.out | apply below_alloc | apply pw_below_drewN | apply below_drew1) | exact HB.out)⟩
        · rw [if_neg c13] at H
          have c13b0 : (t257 == t259) = false := beq_eq_false_iff_ne.mpr c13
          have c13b1 : (t257 != t259) = true := bne_iff_ne.mpr c13
          exact absurd ((Option.some.inj H).trans hT.out) Bool.false_ne_true
      · rw [if_neg c12] at H
        have c12b0 : (t250 == t254) = false := beq_eq_false_iff_ne.mpr c12
        have c12b1 : (t250 != t254) = true := bne_iff_ne.mpr c12
        exact absurd ((Option.some.inj H).trans hT.out) Bool.false_ne_true
    · replace c11 := Bool.eq_false_iff.mpr c11
      subst c11
      have H1 : (some false) = some r := by rw [if_neg (show ¬ (false = true) by decide)] at H; exact H
      clear H
      have H := H1
      clear H1
      exact absurd ((Option.some.inj H).trans hT.out) Bool.false_ne_true
  · replace c9 := Bool.eq_false_iff.mpr c9
    subst c9
    have H1 : (some false) = some r := by rw [if_neg (show ¬ (false = true) by decide)] at H; exact H
    clear H
    have H := H1
    clear H1
    exact absurd ((Option.some.inj H).trans hT.out) Bool.false_ne_true

/-- THE ONE PURE STATEMENT of medlarlaw14_StorePairs: yours. -/
def medlarlaw14_StorePairs.Pure : Prop := ∀ (a0 : Int) (a1 : Int) (a2 : Int), (Lit.int .i64 a0).wf = true → (Lit.int .i64 a1).wf = true → (Lit.int .u64 a2).wf = true → ∃ k, medlarlaw14_StorePairs.f k a0 a1 a2 = some true
theorem medlarlaw14_StorePairs.walk (P : medlarlaw14_StorePairs.Pure) (a0 : Int) (a1 : Int) (a2 : Int) (w : World) (w0 : (Lit.int .i64 a0).wf = true) (w1 : (Lit.int .i64 a1).wf = true) (w2 : (Lit.int .u64 a2).wf = true) :
    Calls Try.prog 10 #[.int .i64 a0, .int .i64 a1, .int .u64 a2] w fun e w' => e = .returned (.bool true) ∧ Below w.heap.size w w' := by
  obtain ⟨k, h⟩ := P a0 a1 a2 w0 w1 w2
  refine (medlarlaw14_StorePairs.calls k a0 a1 a2 true w h ⟨rfl⟩).mono ?_
  rintro e w' ⟨rfl, hd⟩
  exact ⟨rfl, hd⟩

end Go.Proofs.Ytccmoohcpaohmaa.MP
