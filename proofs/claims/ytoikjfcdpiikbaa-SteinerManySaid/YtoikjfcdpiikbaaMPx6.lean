-- written by a program of this session (wip/tools/mprint.sh) for this seat
import Derived.Test.YtoikjfcdpiikbaaMPx0
import Derived.Test.YtoikjfcdpiikbaaMPx2
import Derived.Test.YtoikjfcdpiikbaaMPx3
import Derived.Test.YtoikjfcdpiikbaaMPx4
import Derived.Test.YtoikjfcdpiikbaaMPx5
namespace Go.Proofs.Ytoikjfcdpiikbaa.MP
open Go.RowKit Go.Proofs.YtoikjfcdpiikbaaW.PrintWords Go.Proofs.YtoikjfcdpiikbaaW.PrintLast Go.Proofs.YtoikjfcdpiikbaaW.PrintMore
attribute [local go_sem] max2_int min2_int max_two min_two max_three min_three max_four min_four   -- for this text's walks alone
set_option linter.unusedVariables false
set_option linter.unusedSimpArgs false

/-! ### medlarlaw09_SteinerMany: function 3 -/
def medlarlaw09_SteinerMany.f (k : Nat) (a0 : Int) (l1 : List Int) : Option (Bool) := (medlarlaw09_live.f k).bind fun t182 => (if (l1.length : Int) > 30 then (some t182) else ((steiner_Many.f k a0 l1).bind fun bt183 => ((steiner_Hang.f k a0 l1).bind fun bt185 => ((steiner_Forks.f k a0 l1).bind fun bt189 => (if bt183.2 = 0 then (if (l1.length : Int) = 0 then (if t182 = true then (if bt183.1 = 0 then (if (bt185.1.length : Int) = 1 then (if 0 < (bt185.1.length : Int) then (some ((rd bt185.1 0) == 1)) else (none)) else (some false)) else (some false)) else (some false)) else (if t182 = true then (if bt185.2 = 0 then (if bt189.2 = 0 then (if bt183.1 = (wrap64 ((wrap64 ((bt185.1.length : Int) + (bt189.1.length : Int))) + (l1.length : Int))) then (if (l1.length : Int) = 1 then (if bt183.1 = (wrap64 (a0 + 1)) then (some ((bt185.1.length : Int) == a0)) else (some false)) else (some true)) else (some false)) else (some false)) else (some false)) else (some false))) else (if t182 = true then (if bt183.1 = 0 then (if bt185.2 = bt183.2 then (some (bt189.2 == bt183.2)) else (some false)) else (some false)) else (some false)))))))
theorem medlarlaw09_SteinerMany.mono : ∀ a0 a1 k, LeO (medlarlaw09_SteinerMany.f k a0 a1) (medlarlaw09_SteinerMany.f (k + 1) a0 a1) := by
  intro a0 a1 k
  unfold medlarlaw09_SteinerMany.f
  repeat' first
      | (with_reducible exact medlarlaw09_live.mono _)
      | (with_reducible exact steiner_Forks.mono _ _ _)
      | (with_reducible exact steiner_Hang.mono _ _ _)
      | (with_reducible exact steiner_Many.mono _ _ _)
      | (with_reducible exact LeO.refl _)
      | (with_reducible exact LeO.none _)
      | (with_reducible refine LeO.ite ?_ ?_)
      | (with_reducible refine LeO.bind ?_ (fun _ => ?_))
      | exact medlarlaw09_live.mono _
      | exact steiner_Forks.mono _ _ _
      | exact steiner_Hang.mono _ _ _
      | exact steiner_Many.mono _ _ _
      | exact LeO.none _
      | refine LeO.ite ?_ ?_
      | refine LeO.bind ?_ (fun _ => ?_)
set_option maxHeartbeats 8000000 in
set_option maxRecDepth 100000 in
theorem medlarlaw09_SteinerMany.calls (k : Nat) (a0 : Int) (A1 : Option Addr) (c1 : Nat) (l1 : List Int) (r : Bool) (w : World) (hr1 : Kd.C (Kd.int .u64) w A1 l1.length l1) (hc1 : l1.length ≤ c1) (h : medlarlaw09_SteinerMany.f k a0 l1 = some r) (hT : Aside0 (r = true)) :
    Calls Try.prog 3 #[.int .i64 a0, .slice A1 l1.length c1] w fun e w' => e = .returned (.bool r) ∧ Below w.heap.size w w' := by
  have HR1 := Aside0.mk hr1
  have HC1 := Aside0.mk hc1
  clear hr1 hc1
  have HB := Aside0.mk (Below.refl w.heap.size w)
  have H : ((medlarlaw09_live.f k).bind fun t182 => (if (l1.length : Int) > 30 then (some t182) else ((steiner_Many.f k a0 l1).bind fun bt183 => ((steiner_Hang.f k a0 l1).bind fun bt185 => ((steiner_Forks.f k a0 l1).bind fun bt189 => (if bt183.2 = 0 then (if (l1.length : Int) = 0 then (if t182 = true then (if bt183.1 = 0 then (if (bt185.1.length : Int) = 1 then (if 0 < (bt185.1.length : Int) then (some ((rd bt185.1 0) == 1)) else (none)) else (some false)) else (some false)) else (some false)) else (if t182 = true then (if bt185.2 = 0 then (if bt189.2 = 0 then (if bt183.1 = (wrap64 ((wrap64 ((bt185.1.length : Int) + (bt189.1.length : Int))) + (l1.length : Int))) then (if (l1.length : Int) = 1 then (if bt183.1 = (wrap64 (a0 + 1)) then (some ((bt185.1.length : Int) == a0)) else (some false)) else (some true)) else (some false)) else (some false)) else (some false)) else (some false))) else (if t182 = true then (if bt183.1 = 0 then (if bt185.2 = bt183.2 then (some (bt189.2 == bt183.2)) else (some false)) else (some false)) else (some false)))))))) = some r := h
  clear h
  replace H := Option.bind_eq_some_iff.mp H
  obtain ⟨t182, A30, H⟩ := H
  replace H : (if (l1.length : Int) > 30 then (some t182) else ((steiner_Many.f k a0 l1).bind fun bt183 => ((steiner_Hang.f k a0 l1).bind fun bt185 => ((steiner_Forks.f k a0 l1).bind fun bt189 => (if bt183.2 = 0 then (if (l1.length : Int) = 0 then (if t182 = true then (if bt183.1 = 0 then (if (bt185.1.length : Int) = 1 then (if 0 < (bt185.1.length : Int) then (some ((rd bt185.1 0) == 1)) else (none)) else (some false)) else (some false)) else (some false)) else (if t182 = true then (if bt185.2 = 0 then (if bt189.2 = 0 then (if bt183.1 = (wrap64 ((wrap64 ((bt185.1.length : Int) + (bt189.1.length : Int))) + (l1.length : Int))) then (if (l1.length : Int) = 1 then (if bt183.1 = (wrap64 (a0 + 1)) then (some ((bt185.1.length : Int) == a0)) else (some false)) else (some true)) else (some false)) else (some false)) else (some false)) else (some false))) else (if t182 = true then (if bt183.1 = 0 then (if bt185.2 = bt183.2 then (some (bt189.2 == bt183.2)) else (some false)) else (some false)) else (some false))))))) = some r := H
  have A3 := Aside0.mk A30
  clear A30
  by_cases c4 : (l1.length : Int) > 30
  · rw [if_pos c4] at H
    have c4b0 : decide (30 < (l1.length : Int)) = true := decide_eq_true c4
    have c4b1 : decide (30 < l1.length) = true := decide_eq_true (by omega)
    clear c4
    obtain rfl := Option.some.inj H
    go_enter Try.func3, Try.ntmps3
    go_wp2_with (first | ((with_reducible refine gate_callee (f := 14) rfl ?_); refine goesL_ (some 12) rfl rfl Try.func14 (by kernel_rfl) rfl #[] rfl (by (try simp only [List.map_toArray, List.map_cons, List.map_nil]); first | done | rfl | (simp only [List.length_drop, List.length_take]; rfl)) ?_; (with_reducible refine (medlarlaw09_live.calls k  t182 _ A3.out).mono ?_); rintro e w5 ⟨rfl, hb⟩; refine ⟨_, rfl, ?_⟩; have n0_ := Aside0.mk (below_step (by repeat (first | (with_reducible first | exact HB.out | apply below_alloc | apply pw_below_drewN | apply below_drew1) | exact HB.out)) hb); clear HB; have HB := n0_; clear n0_; (try clear hb); (try clear hb2); (try clear hk); (try clear hi)))
    go_ret
    exact ⟨by first | rfl | (simp [errW_none, errW_some] <;> rfl) | (simp [*, errW_none, errW_some] <;> rfl), by repeat (first | (with_reducible first | exact HB.out | apply below_alloc | apply pw_below_drewN | apply below_drew1) | exact HB.out)⟩
  · rw [if_neg c4] at H
    have c4b0 : decide (30 < (l1.length : Int)) = false := decide_eq_false c4
    have c4b1 : decide (30 < l1.length) = false := decide_eq_false (by omega)
    clear c4
    replace H := Option.bind_eq_some_iff.mp H
    obtain ⟨⟨t183, t184⟩, A60, H⟩ := H
    replace H : ((steiner_Hang.f k a0 l1).bind fun bt185 => ((steiner_Forks.f k a0 l1).bind fun bt189 => (if t184 = 0 then (if (l1.length : Int) = 0 then (if t182 = true then (if t183 = 0 then (if (bt185.1.length : Int) = 1 then (if 0 < (bt185.1.length : Int) then (some ((rd bt185.1 0) == 1)) else (none)) else (some false)) else (some false)) else (some false)) else (if t182 = true then (if bt185.2 = 0 then (if bt189.2 = 0 then (if t183 = (wrap64 ((wrap64 ((bt185.1.length : Int) + (bt189.1.length : Int))) + (l1.length : Int))) then (if (l1.length : Int) = 1 then (if t183 = (wrap64 (a0 + 1)) then (some ((bt185.1.length : Int) == a0)) else (some false)) else (some true)) else (some false)) else (some false)) else (some false)) else (some false))) else (if t182 = true then (if t183 = 0 then (if bt185.2 = t184 then (some (bt189.2 == t184)) else (some false)) else (some false)) else (some false))))) = some r := H
    have A6 := Aside0.mk A60
    clear A60
    replace H := Option.bind_eq_some_iff.mp H
    obtain ⟨⟨t185, t186⟩, A70, H⟩ := H
    replace H : ((steiner_Forks.f k a0 l1).bind fun bt189 => (if t184 = 0 then (if (l1.length : Int) = 0 then (if t182 = true then (if t183 = 0 then (if (t185.length : Int) = 1 then (if 0 < (t185.length : Int) then (some ((rd t185 0) == 1)) else (none)) else (some false)) else (some false)) else (some false)) else (if t182 = true then (if t186 = 0 then (if bt189.2 = 0 then (if t183 = (wrap64 ((wrap64 ((t185.length : Int) + (bt189.1.length : Int))) + (l1.length : Int))) then (if (l1.length : Int) = 1 then (if t183 = (wrap64 (a0 + 1)) then (some ((t185.length : Int) == a0)) else (some false)) else (some true)) else (some false)) else (some false)) else (some false)) else (some false))) else (if t182 = true then (if t183 = 0 then (if t186 = t184 then (some (bt189.2 == t184)) else (some false)) else (some false)) else (some false)))) = some r := H
    have A7 := Aside0.mk A70
    clear A70
    replace H := Option.bind_eq_some_iff.mp H
    obtain ⟨⟨t189, t190⟩, A80, H⟩ := H
    replace H : (if t184 = 0 then (if (l1.length : Int) = 0 then (if t182 = true then (if t183 = 0 then (if (t185.length : Int) = 1 then (if 0 < (t185.length : Int) then (some ((rd t185 0) == 1)) else (none)) else (some false)) else (some false)) else (some false)) else (if t182 = true then (if t186 = 0 then (if t190 = 0 then (if t183 = (wrap64 ((wrap64 ((t185.length : Int) + (t189.length : Int))) + (l1.length : Int))) then (if (l1.length : Int) = 1 then (if t183 = (wrap64 (a0 + 1)) then (some ((t185.length : Int) == a0)) else (some false)) else (some true)) else (some false)) else (some false)) else (some false)) else (some false))) else (if t182 = true then (if t183 = 0 then (if t186 = t184 then (some (t190 == t184)) else (some false)) else (some false)) else (some false))) = some r := H
    have A8 := Aside0.mk A80
    clear A80
    by_cases c9 : t184 = 0
    · rw [if_pos c9] at H
      have c9b0 : (t184 == 0) = true := beq_iff_eq.mpr c9
      have c9b1 : (t184 != 0) = false := bne_eq_false_iff_eq.mpr c9
      clear c9
      by_cases c10 : (l1.length : Int) = 0
      · rw [if_pos c10] at H
        have c10b0 : ((l1.length : Int) == 0) = true := beq_iff_eq.mpr c10
        have c10b1 : ((l1.length : Int) != 0) = false := bne_eq_false_iff_eq.mpr c10
        clear c10
        by_cases c11 : t182 = true
        · subst c11
          have H1 : (if t183 = 0 then (if (t185.length : Int) = 1 then (if 0 < (t185.length : Int) then (some ((rd t185 0) == 1)) else (none)) else (some false)) else (some false)) = some r := by rw [if_pos rfl] at H; exact H
          clear H
          have H := H1
          clear H1
          by_cases c12 : t183 = 0
          · rw [if_pos c12] at H
            have c12b0 : (t183 == 0) = true := beq_iff_eq.mpr c12
            have c12b1 : (t183 != 0) = false := bne_eq_false_iff_eq.mpr c12
            clear c12
            by_cases c13 : (t185.length : Int) = 1
            · rw [if_pos c13] at H
              have c13b0 : ((t185.length : Int) == 1) = true := beq_iff_eq.mpr c13
              have c13b1 : ((t185.length : Int) != 1) = false := bne_eq_false_iff_eq.mpr c13
              clear c13
              by_cases c14 : 0 < (t185.length : Int)
              · rw [if_pos c14] at H
                have c14b0 : decide (0 < (t185.length : Int)) = true := decide_eq_true c14
                have c14b1 : decide (0 < t185.length) = true := decide_eq_true (by omega)
                clear c14
                obtain rfl := Option.some.inj H
                go_enter Try.func3, Try.ntmps3
                go_wp2_with (first | ((with_reducible refine gate_callee (f := 14) rfl ?_); refine goesL_ (some 12) rfl rfl Try.func14 (by kernel_rfl) rfl #[] rfl (by (try simp only [List.map_toArray, List.map_cons, List.map_nil]); first | done | rfl | (simp only [List.length_drop, List.length_take]; rfl)) ?_; (with_reducible refine (medlarlaw09_live.calls k  true _ A3.out).mono ?_); rintro e w15 ⟨rfl, hb⟩; refine ⟨_, rfl, ?_⟩; have n0_ := Aside0.mk (below_step (by repeat (first | (with_reducible first | exact HB.out | apply below_alloc | apply pw_below_drewN | apply below_drew1) | exact HB.out)) hb); clear HB; have HB := n0_; clear n0_; (try clear hb); (try clear hb2); (try clear hk); (try clear hi)) | ((with_reducible refine gate_callee (f := 15) rfl ?_); refine goesL_ (some 20) rfl rfl Try.func15 (by kernel_rfl) rfl #[.int .i64 a0, .slice A1 l1.length c1] rfl (by (try simp only [List.map_toArray, List.map_cons, List.map_nil]); first | done | rfl | (simp only [List.length_drop, List.length_take]; rfl)) ?_; (with_reducible refine (steiner_Many.calls k a0 _ _ l1 t183 t184 _ ?side1 ?side2 A6.out).mono ?_); (case side1 => repeat (first | exact (Kd.C_below HR1.out HB.out) | (with_reducible refine Kd.C_alloc ?_ _) | (with_reducible refine Kd.C_drewN ?_ _) | (with_reducible refine Kd.C_drew ?_))); (case side2 => exact HC1.out); rintro e w16 ⟨rfl, hb⟩; refine ⟨_, rfl, ?_⟩; have n0_ := Aside0.mk (below_step (by repeat (first | (with_reducible first | exact HB.out | apply below_alloc | apply pw_below_drewN | apply below_drew1) | exact HB.out)) hb); clear HB; have HB := n0_; clear n0_; (try clear hb); (try clear hb2); (try clear hk); (try clear hi)) | ((with_reducible refine gate_callee (f := 16) rfl ?_); refine goesL_ (some 26) rfl rfl Try.func16 (by kernel_rfl) rfl #[.int .i64 a0, .slice A1 l1.length c1] rfl (by (try simp only [List.map_toArray, List.map_cons, List.map_nil]); first | done | rfl | (simp only [List.length_drop, List.length_take]; rfl)) ?_; (with_reducible refine (steiner_Hang.calls k a0 _ _ l1 t185 t186 _ ?side1 ?side2 A7.out).mono ?_); (case side1 => repeat (first | exact (Kd.C_below HR1.out HB.out) | (with_reducible refine Kd.C_alloc ?_ _) | (with_reducible refine Kd.C_drewN ?_ _) | (with_reducible refine Kd.C_drew ?_))); (case side2 => exact HC1.out); rintro e w17 ⟨v187, rfl, ho0, hb⟩; refine ⟨_, rfl, ?_⟩; have n0_ := Aside0.mk (Kd.R_lower ho0 (below_size (by repeat (first | (with_reducible first | exact HB.out | apply below_alloc | apply pw_below_drewN | apply below_drew1) | exact HB.out)))); have n1_ := Aside0.mk (below_step (by repeat (first | (with_reducible first | exact HB.out | apply below_alloc | apply pw_below_drewN | apply below_drew1) | exact HB.out)) hb); clear HB; have HO188 := n0_; have HB := n1_; clear n0_ n1_; (try clear hb); (try clear hb2); (try clear hk); (try clear hi); (try clear ho0)) | ((with_reducible refine gate_callee (f := 17) rfl ?_); refine goesL_ (some 32) rfl rfl Try.func17 (by kernel_rfl) rfl #[.int .i64 a0, .slice A1 l1.length c1] rfl (by (try simp only [List.map_toArray, List.map_cons, List.map_nil]); first | done | rfl | (simp only [List.length_drop, List.length_take]; rfl)) ?_; (with_reducible refine (steiner_Forks.calls k a0 _ _ l1 t189 t190 _ ?side1 ?side2 A8.out).mono ?_); (case side1 => repeat (first | exact (Kd.C_below HR1.out HB.out) | (with_reducible refine Kd.C_alloc ?_ _) | (with_reducible refine Kd.C_drewN ?_ _) | (with_reducible refine Kd.C_drew ?_))); (case side2 => exact HC1.out); rintro e w18 ⟨v191, rfl, ho0, hb⟩; refine ⟨_, rfl, ?_⟩; have n0_ := Aside0.mk (Kd.R_elder' (by (with_reducible repeat (first | apply Kd.R_alloc | apply Kd.R_drewN | apply Kd.R_drew)); exact HO188.out) (Kd.R_base ho0) hb); have n1_ := Aside0.mk (Kd.R_lower (Kd.R_new' ho0 (Kd.R_lt (by (with_reducible repeat (first | apply Kd.R_alloc | apply Kd.R_drewN | apply Kd.R_drew)); exact HO188.out))) (below_size (by repeat (first | (with_reducible first | exact HB.out | apply below_alloc | apply pw_below_drewN | apply below_drew1) | exact HB.out)))); have n2_ := Aside0.mk (below_step (by repeat (first | (with_reducible first | exact HB.out | apply below_alloc | apply pw_below_drewN | apply below_drew1) | exact HB.out)) hb); clear HO188; clear HB; have HO188 := n0_; have HO192 := n1_; have HB := n2_; clear n0_ n1_ n2_; (try clear hb); (try clear hb2); (try clear hk); (try clear hi); (try clear ho0); obtain ⟨Ao19, co19, eo19⟩ := Kd.R_slice HO188.out; subst eo19; have p193 : 0 ≤ (0 : Int) := (by omega); have q193 : 0 < (t185.length : Int) := of_decide_eq_true (by first | (with_reducible assumption) | assumption); obtain ⟨ad193, e193, hx193_0⟩ := Kd.at_int (Kd.R_reads' HO188.out).2.2 0 p193 q193; cases e193; have qi193 : (0 < t185.length) = True := eq_true (by omega); (try rw [show ((0 : Int)).toNat = 0 from rfl] at hx193_0); (try rw [Addr.add_zero'] at hx193_0); replace p193 := eq_true p193; replace q193 := eq_true q193))
                go_ret
                exact ⟨by first | rfl | (simp [errW_none, errW_some] <;> rfl) | (simp [*, errW_none, errW_some] <;> rfl), by repeat (first | (with_reducible first | exact HB.out | apply below_alloc | apply pw_below_drewN | apply below_drew1) | exact HB.out)⟩
              · rw [if_neg c14] at H
                exact absurd H (by simp)
            · rw [if_neg c13] at H
              have c13b0 : ((t185.length : Int) == 1) = false := beq_eq_false_iff_ne.mpr c13
              have c13b1 : ((t185.length : Int) != 1) = true := bne_iff_ne.mpr c13
              exact absurd ((Option.some.inj H).trans hT.out) Bool.false_ne_true
          · rw [if_neg c12] at H
            have c12b0 : (t183 == 0) = false := beq_eq_false_iff_ne.mpr c12
            have c12b1 : (t183 != 0) = true := bne_iff_ne.mpr c12
            exact absurd ((Option.some.inj H).trans hT.out) Bool.false_ne_true
        · replace c11 := Bool.eq_false_iff.mpr c11
          subst c11
          have H1 : (some false) = some r := by rw [if_neg (show ¬ (false = true) by decide)] at H; exact H
          clear H
          have H := H1
          clear H1
          exact absurd ((Option.some.inj H).trans hT.out) Bool.false_ne_true
      · rw [if_neg c10] at H
        have c10b0 : ((l1.length : Int) == 0) = false := beq_eq_false_iff_ne.mpr c10
        have c10b1 : ((l1.length : Int) != 0) = true := bne_iff_ne.mpr c10
        have c10b2 : ¬ (l1 = []) := fun h_ => c10 (by rw [h_]; rfl)
        by_cases c20 : t182 = true
        · subst c20
          have H1 : (if t186 = 0 then (if t190 = 0 then (if t183 = (wrap64 ((wrap64 ((t185.length : Int) + (t189.length : Int))) + (l1.length : Int))) then (if (l1.length : Int) = 1 then (if t183 = (wrap64 (a0 + 1)) then (some ((t185.length : Int) == a0)) else (some false)) else (some true)) else (some false)) else (some false)) else (some false)) = some r := by rw [if_pos rfl] at H; exact H
          clear H
          have H := H1
          clear H1
          by_cases c21 : t186 = 0
          · rw [if_pos c21] at H
            have c21b0 : (t186 == 0) = true := beq_iff_eq.mpr c21
            have c21b1 : (t186 != 0) = false := bne_eq_false_iff_eq.mpr c21
            clear c21
            by_cases c22 : t190 = 0
            · rw [if_pos c22] at H
              have c22b0 : (t190 == 0) = true := beq_iff_eq.mpr c22
              have c22b1 : (t190 != 0) = false := bne_eq_false_iff_eq.mpr c22
              clear c22
              by_cases c23 : t183 = (wrap64 ((wrap64 ((t185.length : Int) + (t189.length : Int))) + (l1.length : Int)))
              · rw [if_pos c23] at H
                have c23b0 : (t183 == (wrap64 ((wrap64 ((t185.length : Int) + (t189.length : Int))) + (l1.length : Int)))) = true := beq_iff_eq.mpr c23
                have c23b1 : (t183 != (wrap64 ((wrap64 ((t185.length : Int) + (t189.length : Int))) + (l1.length : Int)))) = false := bne_eq_false_iff_eq.mpr c23
                clear c23
                by_cases c24 : (l1.length : Int) = 1
                · rw [if_pos c24] at H
                  have c24b0 : ((l1.length : Int) == 1) = true := beq_iff_eq.mpr c24
                  have c24b1 : ((l1.length : Int) != 1) = false := bne_eq_false_iff_eq.mpr c24
                  clear c24
                  by_cases c25 : t183 = (wrap64 (a0 + 1))
                  · rw [if_pos c25] at H
                    have c25b0 : (t183 == (wrap64 (a0 + 1))) = true := beq_iff_eq.mpr c25
                    have c25b1 : (t183 != (wrap64 (a0 + 1))) = false := bne_eq_false_iff_eq.mpr c25
                    clear c25
                    obtain rfl := Option.some.inj H
                    go_enter Try.func3, Try.ntmps3
                    go_wp2_with (first | ((with_reducible refine gate_callee (f := 14) rfl ?_); refine goesL_ (some 12) rfl rfl Try.func14 (by kernel_rfl) rfl #[] rfl (by (try simp only [List.map_toArray, List.map_cons, List.map_nil]); first | done | rfl | (simp only [List.length_drop, List.length_take]; rfl)) ?_; (with_reducible refine (medlarlaw09_live.calls k  true _ A3.out).mono ?_); rintro e w26 ⟨rfl, hb⟩; refine ⟨_, rfl, ?_⟩; have n0_ := Aside0.mk (below_step (by repeat (first | (with_reducible first | exact HB.out | apply below_alloc | apply pw_below_drewN | apply below_drew1) | exact HB.out)) hb); clear HB; have HB := n0_; clear n0_; (try clear hb); (try clear hb2); (try clear hk); (try clear hi)) | ((with_reducible refine gate_callee (f := 15) rfl ?_); refine goesL_ (some 20) rfl rfl Try.func15 (by kernel_rfl) rfl #[.int .i64 a0, .slice A1 l1.length c1] rfl (by (try simp only [List.map_toArray, List.map_cons, List.map_nil]); first | done | rfl | (simp only [List.length_drop, List.length_take]; rfl)) ?_; (with_reducible refine (steiner_Many.calls k a0 _ _ l1 t183 t184 _ ?side1 ?side2 A6.out).mono ?_); (case side1 => repeat (first | exact (Kd.C_below HR1.out HB.out) | (with_reducible refine Kd.C_alloc ?_ _) | (with_reducible refine Kd.C_drewN ?_ _) | (with_reducible refine Kd.C_drew ?_))); (case side2 => exact HC1.out); rintro e w27 ⟨rfl, hb⟩; refine ⟨_, rfl, ?_⟩; have n0_ := Aside0.mk (below_step (by repeat (first | (with_reducible first | exact HB.out | apply below_alloc | apply pw_below_drewN | apply below_drew1) | exact HB.out)) hb); clear HB; have HB := n0_; clear n0_; (try clear hb); (try clear hb2); (try clear hk); (try clear hi)) | ((with_reducible refine gate_callee (f := 16) rfl ?_); refine goesL_ (some 26) rfl rfl Try.func16 (by kernel_rfl) rfl #[.int .i64 a0, .slice A1 l1.length c1] rfl (by (try simp only [List.map_toArray, List.map_cons, List.map_nil]); first | done | rfl | (simp only [List.length_drop, List.length_take]; rfl)) ?_; (with_reducible refine (steiner_Hang.calls k a0 _ _ l1 t185 t186 _ ?side1 ?side2 A7.out).mono ?_); (case side1 => repeat (first | exact (Kd.C_below HR1.out HB.out) | (with_reducible refine Kd.C_alloc ?_ _) | (with_reducible refine Kd.C_drewN ?_ _) | (with_reducible refine Kd.C_drew ?_))); (case side2 => exact HC1.out); rintro e w28 ⟨v187, rfl, ho0, hb⟩; refine ⟨_, rfl, ?_⟩; have n0_ := Aside0.mk (Kd.R_lower ho0 (below_size (by repeat (first | (with_reducible first | exact HB.out | apply below_alloc | apply pw_below_drewN | apply below_drew1) | exact HB.out)))); have n1_ := Aside0.mk (below_step (by repeat (first | (with_reducible first | exact HB.out | apply below_alloc | apply pw_below_drewN | apply below_drew1) | exact HB.out)) hb); clear HB; have HO188 := n0_; have HB := n1_; clear n0_ n1_; (try clear hb); (try clear hb2); (try clear hk); (try clear hi); (try clear ho0)) | ((with_reducible refine gate_callee (f := 17) rfl ?_); refine goesL_ (some 32) rfl rfl Try.func17 (by kernel_rfl) rfl #[.int .i64 a0, .slice A1 l1.length c1] rfl (by (try simp only [List.map_toArray, List.map_cons, List.map_nil]); first | done | rfl | (simp only [List.length_drop, List.length_take]; rfl)) ?_; (with_reducible refine (steiner_Forks.calls k a0 _ _ l1 t189 t190 _ ?side1 ?side2 A8.out).mono ?_); (case side1 => repeat (first | exact (Kd.C_below HR1.out HB.out) | (with_reducible refine Kd.C_alloc ?_ _) | (with_reducible refine Kd.C_drewN ?_ _) | (with_reducible refine Kd.C_drew ?_))); (case side2 => exact HC1.out); rintro e w29 ⟨v191, rfl, ho0, hb⟩; refine ⟨_, rfl, ?_⟩; have n0_ := Aside0.mk (Kd.R_elder' (by (with_reducible repeat (first | apply Kd.R_alloc | apply Kd.R_drewN | apply Kd.R_drew)); exact HO188.out) (Kd.R_base ho0) hb); have n1_ := Aside0.mk (Kd.R_lower (Kd.R_new' ho0 (Kd.R_lt (by (with_reducible repeat (first | apply Kd.R_alloc | apply Kd.R_drewN | apply Kd.R_drew)); exact HO188.out))) (below_size (by repeat (first | (with_reducible first | exact HB.out | apply below_alloc | apply pw_below_drewN | apply below_drew1) | exact HB.out)))); have n2_ := Aside0.mk (below_step (by repeat (first | (with_reducible first | exact HB.out | apply below_alloc | apply pw_below_drewN | apply below_drew1) | exact HB.out)) hb); clear HO188; clear HB; have HO188 := n0_; have HO192 := n1_; have HB := n2_; clear n0_ n1_ n2_; (try clear hb); (try clear hb2); (try clear hk); (try clear hi); (try clear ho0); obtain ⟨Ao30, co30, eo30⟩ := Kd.R_slice HO188.out; subst eo30; obtain ⟨Ao31, co31, eo31⟩ := Kd.R_slice HO192.out; subst eo31))
                    go_ret
                    exact ⟨by first | rfl | (simp [errW_none, errW_some] <;> rfl) | (simp [*, errW_none, errW_some] <;> rfl), by repeat (first | (with_reducible first | exact HB.out | apply below_alloc | apply pw_below_drewN | apply below_drew1) | exact HB.out)⟩
                  · rw [if_neg c25] at H
                    have c25b0 : (t183 == (wrap64 (a0 + 1))) = false := beq_eq_false_iff_ne.mpr c25
                    have c25b1 : (t183 != (wrap64 (a0 + 1))) = true := bne_iff_ne.mpr c25
                    exact absurd ((Option.some.inj H).trans hT.out) Bool.false_ne_true
                · rw [if_neg c24] at H
                  have c24b0 : ((l1.length : Int) == 1) = false := beq_eq_false_iff_ne.mpr c24
                  have c24b1 : ((l1.length : Int) != 1) = true := bne_iff_ne.mpr c24
                  obtain rfl := Option.some.inj H
                  go_enter Try.func3, Try.ntmps3
                  go_wp2_with (first | ((with_reducible refine gate_callee (f := 14) rfl ?_); refine goesL_ (some 12) rfl rfl Try.func14 (by kernel_rfl) rfl #[] rfl (by (try simp only [List.map_toArray, List.map_cons, List.map_nil]); first | done | rfl | (simp only [List.length_drop, List.length_take]; rfl)) ?_; (with_reducible refine (medlarlaw09_live.calls k  true _ A3.out).mono ?_); rintro e w32 ⟨rfl, hb⟩; refine ⟨_, rfl, ?_⟩; have n0_ := Aside0.mk (below_step (by repeat (first | (with_reducible first | exact HB.out | apply below_alloc | apply pw_below_drewN | apply below_drew1) | exact HB.out)) hb); clear HB; have HB := n0_; clear n0_; (try clear hb); (try clear hb2); (try clear hk); (try clear hi)) | ((with_reducible refine gate_callee (f := 15) rfl ?_); refine goesL_ (some 20) rfl rfl Try.func15 (by kernel_rfl) rfl #[.int .i64 a0, .slice A1 l1.length c1] rfl (by (try simp only [List.map_toArray, List.map_cons, List.map_nil]); first | done | rfl | (simp only [List.length_drop, List.length_take]; rfl)) ?_; (with_reducible refine (steiner_Many.calls k a0 _ _ l1 t183 t184 _ ?side1 ?side2 A6.out).mono ?_); (case side1 => repeat (first | exact (Kd.C_below HR1.out HB.out) | (with_reducible refine Kd.C_alloc ?_ _) | (with_reducible refine Kd.C_drewN ?_ _) | (with_reducible refine Kd.C_drew ?_))); (case side2 => exact HC1.out); rintro e w33 ⟨rfl, hb⟩; refine ⟨_, rfl, ?_⟩; have n0_ := Aside0.mk (below_step (by repeat (first | (with_reducible first | exact HB.out | apply below_alloc | apply pw_below_drewN | apply below_drew1) | exact HB.out)) hb); clear HB; have HB := n0_; clear n0_; (try clear hb); (try clear hb2); (try clear hk); (try clear hi)) | ((with_reducible refine gate_callee (f := 16) rfl ?_); refine goesL_ (some 26) rfl rfl Try.func16 (by kernel_rfl) rfl #[.int .i64 a0, .slice A1 l1.length c1] rfl (by (try simp only [List.map_toArray, List.map_cons, List.map_nil]); first | done | rfl | (simp only [List.length_drop, List.length_take]; rfl)) ?_; (with_reducible refine (steiner_Hang.calls k a0 _ _ l1 t185 t186 _ ?side1 ?side2 A7.out).mono ?_); (case side1 => repeat (first | exact (Kd.C_below HR1.out HB.out) | (with_reducible refine Kd.C_alloc ?_ _) | (with_reducible refine Kd.C_drewN ?_ _) | (with_reducible refine Kd.C_drew ?_))); (case side2 => exact HC1.out); rintro e w34 ⟨v187, rfl, ho0, hb⟩; refine ⟨_, rfl, ?_⟩; have n0_ := Aside0.mk (Kd.R_lower ho0 (below_size (by repeat (first | (with_reducible first | exact HB.out | apply below_alloc | apply pw_below_drewN | apply below_drew1) | exact HB.out)))); have n1_ := Aside0.mk (below_step (by repeat (first | (with_reducible first | exact HB.out | apply below_alloc | apply pw_below_drewN | apply below_drew1) | exact HB.out)) hb); clear HB; have HO188 := n0_; have HB := n1_; clear n0_ n1_; (try clear hb); (try clear hb2); (try clear hk); (try clear hi); (try clear ho0)) | ((with_reducible refine gate_callee (f := 17) rfl ?_); refine goesL_ (some 32) rfl rfl Try.func17 (by kernel_rfl) rfl #[.int .i64 a0, .slice A1 l1.length c1] rfl (by (try simp only [List.map_toArray, List.map_cons, List.map_nil]); first | done | rfl | (simp only [List.length_drop, List.length_take]; rfl)) ?_; (with_reducible refine (steiner_Forks.calls k a0 _ _ l1 t189 t190 _ ?side1 ?side2 A8.out).mono ?_); (case side1 => repeat (first | exact (Kd.C_below HR1.out HB.out) | (with_reducible refine Kd.C_alloc ?_ _) | (with_reducible refine Kd.C_drewN ?_ _) | (with_reducible refine Kd.C_drew ?_))); (case side2 => exact HC1.out); rintro e w35 ⟨v191, rfl, ho0, hb⟩; refine ⟨_, rfl, ?_⟩; have n0_ := Aside0.mk (Kd.R_elder' (by (with_reducible repeat (first | apply Kd.R_alloc | apply Kd.R_drewN | apply Kd.R_drew)); exact HO188.out) (Kd.R_base ho0) hb); have n1_ := Aside0.mk (Kd.R_lower (Kd.R_new' ho0 (Kd.R_lt (by (with_reducible repeat (first | apply Kd.R_alloc | apply Kd.R_drewN | apply Kd.R_drew)); exact HO188.out))) (below_size (by repeat (first | (with_reducible first | exact HB.out | apply below_alloc | apply pw_below_drewN | apply below_drew1) | exact HB.out)))); have n2_ := Aside0.mk (below_step (by repeat (first | (with_reducible first | exact HB.out | apply below_alloc | apply pw_below_drewN | apply below_drew1) | exact HB.out)) hb); clear HO188; clear HB; have HO188 := n0_; have HO192 := n1_; have HB := n2_; clear n0_ n1_ n2_; (try clear hb); (try clear hb2); (try clear hk); (try clear hi); (try clear ho0); obtain ⟨Ao36, co36, eo36⟩ := Kd.R_slice HO188.out; subst eo36; obtain ⟨Ao37, co37, eo37⟩ := Kd.R_slice HO192.out; subst eo37))
                  go_ret
                  exact ⟨by first | rfl | (simp [errW_none, errW_some] <;> rfl) | (simp [*, errW_none, errW_some] <;> rfl), by repeat (first | (with_reducible first | exact HB.out | apply below_alloc | apply pw_below_drewN | apply below_drew1) | exact HB.out)⟩
              · rw [if_neg c23] at H
                have c23b0 : (t183 == (wrap64 ((wrap64 ((t185.length : Int) + (t189.length : Int))) + (l1.length : Int)))) = false := beq_eq_false_iff_ne.mpr c23
                have c23b1 : (t183 != (wrap64 ((wrap64 ((t185.length : Int) + (t189.length : Int))) + (l1.length : Int)))) = true := bne_iff_ne.mpr c23
                exact absurd ((Option.some.inj H).trans hT.out) Bool.false_ne_true
            · rw [if_neg c22] at H
              have c22b0 : (t190 == 0) = false := beq_eq_false_iff_ne.mpr c22
              have c22b1 : (t190 != 0) = true := bne_iff_ne.mpr c22
              exact absurd ((Option.some.inj H).trans hT.out) Bool.false_ne_true
          · rw [if_neg c21] at H
            have c21b0 : (t186 == 0) = false := beq_eq_false_iff_ne.mpr c21
            have c21b1 : (t186 != 0) = true := bne_iff_ne.mpr c21
            exact absurd ((Option.some.inj H).trans hT.out) Bool.false_ne_true
        · replace c20 := Bool.eq_false_iff.mpr c20
          subst c20
          have H1 : (some false) = some r := by rw [if_neg (show ¬ (false = true) by decide)] at H; exact H
          clear H
          have H := H1
          clear H1
          exact absurd ((Option.some.inj H).trans hT.out) Bool.false_ne_true
    · rw [if_neg c9] at H
      have c9b0 : (t184 == 0) = false := beq_eq_false_iff_ne.mpr c9
      have c9b1 : (t184 != 0) = true := bne_iff_ne.mpr c9
      by_cases c38 : t182 = true
      · subst c38
        have H1 : (if t183 = 0 then (if t186 = t184 then (some (t190 == t184)) else (some false)) else (some false)) = some r := by rw [if_pos rfl] at H; exact H
        clear H
        have H := H1
        clear H1
        by_cases c39 : t183 = 0
        · rw [if_pos c39] at H
          have c39b0 : (t183 == 0) = true := beq_iff_eq.mpr c39
          have c39b1 : (t183 != 0) = false := bne_eq_false_iff_eq.mpr c39
          clear c39
          by_cases c40 : t186 = t184
          · rw [if_pos c40] at H
            have c40b0 : (t186 == t184) = true := beq_iff_eq.mpr c40
            have c40b1 : (t186 != t184) = false := bne_eq_false_iff_eq.mpr c40
            clear c40
            obtain rfl := Option.some.inj H
            go_enter Try.func3, Try.ntmps3
            go_wp2_with (first | ((with_reducible refine gate_callee (f := 14) rfl ?_); refine goesL_ (some 12) rfl rfl Try.func14 (by kernel_rfl) rfl #[] rfl (by (try simp only [List.map_toArray, List.map_cons, List.map_nil]); first | done | rfl | (simp only [List.length_drop, List.length_take]; rfl)) ?_; (with_reducible refine (medlarlaw09_live.calls k  true _ A3.out).mono ?_); rintro e w41 ⟨rfl, hb⟩; refine ⟨_, rfl, ?_⟩; have n0_ := Aside0.mk (below_step (by repeat (first | (with_reducible first | exact HB.out | apply below_alloc | apply pw_below_drewN | apply below_drew1) | exact HB.out)) hb); clear HB; have HB := n0_; clear n0_; (try clear hb); (try clear hb2); (try clear hk); (try clear hi)) | ((with_reducible refine gate_callee (f := 15) rfl ?_); refine goesL_ (some 20) rfl rfl Try.func15 (by kernel_rfl) rfl #[.int .i64 a0, .slice A1 l1.length c1] rfl (by (try simp only [List.map_toArray, List.map_cons, List.map_nil]); first | done | rfl | (simp only [List.length_drop, List.length_take]; rfl)) ?_; (with_reducible refine (steiner_Many.calls k a0 _ _ l1 t183 t184 _ ?side1 ?side2 A6.out).mono ?_); (case side1 => repeat (first | exact (Kd.C_below HR1.out HB.out) | (with_reducible refine Kd.C_alloc ?_ _) | (with_reducible refine Kd.C_drewN ?_ _) | (with_reducible refine Kd.C_drew ?_))); (case side2 => exact HC1.out); rintro e w42 ⟨rfl, hb⟩; refine ⟨_, rfl, ?_⟩; have n0_ := Aside0.mk (below_step (by repeat (first | (with_reducible first | exact HB.out | apply below_alloc | apply pw_below_drewN | apply below_drew1) | exact HB.out)) hb); clear HB; have HB := n0_; clear n0_; (try clear hb); (try clear hb2); (try clear hk); (try clear hi)) | ((with_reducible refine gate_callee (f := 16) rfl ?_); refine goesL_ (some 26) rfl rfl Try.func16 (by kernel_rfl) rfl #[.int .i64 a0, .slice A1 l1.length c1] rfl (by (try simp only [List.map_toArray, List.map_cons, List.map_nil]); first | done | rfl | (simp only [List.length_drop, List.length_take]; rfl)) ?_; (with_reducible refine (steiner_Hang.calls k a0 _ _ l1 t185 t186 _ ?side1 ?side2 A7.out).mono ?_); (case side1 => repeat (first | exact (Kd.C_below HR1.out HB.out) | (with_reducible refine Kd.C_alloc ?_ _) | (with_reducible refine Kd.C_drewN ?_ _) | (with_reducible refine Kd.C_drew ?_))); (case side2 => exact HC1.out); rintro e w43 ⟨v187, rfl, ho0, hb⟩; refine ⟨_, rfl, ?_⟩; have n0_ := Aside0.mk (Kd.R_lower ho0 (below_size (by repeat (first | (with_reducible first | exact HB.out | apply below_alloc | apply pw_below_drewN | apply below_drew1) | exact HB.out)))); have n1_ := Aside0.mk (below_step (by repeat (first | (with_reducible first | exact HB.out | apply below_alloc | apply pw_below_drewN | apply below_drew1) | exact HB.out)) hb); clear HB; have HO188 := n0_; have HB := n1_; clear n0_ n1_; (try clear hb); (try clear hb2); (try clear hk); (try clear hi); (try clear ho0)) | ((with_reducible refine gate_callee (f := 17) rfl ?_); refine goesL_ (some 32) rfl rfl Try.func17 (by kernel_rfl) rfl #[.int .i64 a0, .slice A1 l1.length c1] rfl (by (try simp only [List.map_toArray, List.map_cons, List.map_nil]); first | done | rfl | (simp only [List.length_drop, List.length_take]; rfl)) ?_; (with_reducible refine (steiner_Forks.calls k a0 _ _ l1 t189 t190 _ ?side1 ?side2 A8.out).mono ?_); (case side1 => repeat (first | exact (Kd.C_below HR1.out HB.out) | (with_reducible refine Kd.C_alloc ?_ _) | (with_reducible refine Kd.C_drewN ?_ _) | (with_reducible refine Kd.C_drew ?_))); (case side2 => exact HC1.out); rintro e w44 ⟨v191, rfl, ho0, hb⟩; refine ⟨_, rfl, ?_⟩; have n0_ := Aside0.mk (Kd.R_elder' (by (with_reducible repeat (first | apply Kd.R_alloc | apply Kd.R_drewN | apply Kd.R_drew)); exact HO188.out) (Kd.R_base ho0) hb); have n1_ := Aside0.mk (Kd.R_lower (Kd.R_new' ho0 (Kd.R_lt (by (with_reducible repeat (first | apply Kd.R_alloc | apply Kd.R_drewN | apply Kd.R_drew)); exact HO188.out))) (below_size (by repeat (first | (with_reducible first | exact HB.out | apply below_alloc | apply pw_below_drewN | apply below_drew1) | exact HB.out)))); have n2_ := Aside0.mk (below_step (by repeat (first | (with_reducible first | exact HB.out | apply below_alloc | apply pw_below_drewN | apply below_drew1) | exact HB.out)) hb); clear HO188; clear HB; have HO188 := n0_; have HO192 := n1_; have HB := n2_; clear n0_ n1_ n2_; (try clear hb); (try clear hb2); (try clear hk); (try clear hi); (try clear ho0)))
            go_ret
            exact ⟨by first | rfl | (simp [errW_none, errW_some] <;> rfl) | (simp [*, errW_none, errW_some] <;> rfl), by repeat (first | (with_reducible first | exact HB.out | apply below_alloc | apply pw_below_drewN | apply below_drew1) | exact HB.out)⟩
          · rw [if_neg c40] at H
            have c40b0 : (t186 == t184) = false := beq_eq_false_iff_ne.mpr c40
            have c40b1 : (t186 != t184) = true := bne_iff_ne.mpr c40
            exact absurd ((Option.some.inj H).trans hT.out) Bool.false_ne_true
        · rw [if_neg c39] at H
          have c39b0 : (t183 == 0) = false := beq_eq_false_iff_ne.mpr c39
          have c39b1 : (t183 != 0) = true := bne_iff_ne.mpr c39
          exact absurd ((Option.some.inj H).trans hT.out) Bool.false_ne_true
      · replace c38 := Bool.eq_false_iff.mpr c38
        subst c38
        have H1 : (some false) = some r := by rw [if_neg (show ¬ (false = true) by decide)] at H; exact H
        clear H
        have H := H1
        clear H1
        exact absurd ((Option.some.inj H).trans hT.out) Bool.false_ne_true

/-- THE ONE PURE STATEMENT of medlarlaw09_SteinerMany: yours. -/
def medlarlaw09_SteinerMany.Pure : Prop := ∀ (a0 : Int) (l1 : List Int), (Lit.int .i64 a0).wf = true → l1.length ≤ maxLen → l1.length * 8 ≤ 140737488351232 → (∀ x ∈ l1, (Lit.int .u64 x).wf = true) → ∃ k, medlarlaw09_SteinerMany.f k a0 l1 = some true
theorem medlarlaw09_SteinerMany.walk (P : medlarlaw09_SteinerMany.Pure) (a0 : Int) (a1 : Option Addr) (len1 cap1 : Nat) (z1 : List Int) (w : World) (w0 : (Lit.int .i64 a0).wf = true) (w1 : (a1 = none ∧ len1 = 0 ∧ cap1 = 0 ∧ z1 = []) ∨ ∃ x, a1 = some x ∧ len1 ≤ cap1 ∧ cap1 ≤ maxLen ∧ z1.length = cap1 ∧ (∀ i, i < z1.length → w.cell? (x.add i) = some (.int .u64 (z1.getD i 0))) ∧ ∀ n ∈ z1, (Lit.int .u64 n).wf = true) (y1 : len1 * 8 ≤ 140737488351232) :
    Calls Try.prog 3 #[.int .i64 a0, .slice a1 len1 cap1] w fun e w' => e = .returned (.bool true) ∧ Below w.heap.size w w' := by
  obtain ⟨l1, rfl, hr1, hm1, hw1, hc1⟩ := ReadsInt.ofRowC w1
  obtain ⟨k, h⟩ := P a0 l1 w0 hm1 y1 hw1
  refine (medlarlaw09_SteinerMany.calls k a0 _ _ l1 true w (Kd.C_of_reads (d := (0 : Int)) (h1 := fun _ => rfl) hr1) hc1 h ⟨rfl⟩).mono ?_
  rintro e w' ⟨rfl, hd⟩
  exact ⟨rfl, hd⟩

end Go.Proofs.Ytoikjfcdpiikbaa.MP
