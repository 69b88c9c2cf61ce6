-- written by a program of this session (wip/tools/mprint.sh) for this seat
import Derived.Test.YtoikjfcdpiikbaaMPx0
import Derived.Test.YtoikjfcdpiikbaaMPx2
import Derived.Test.YtoikjfcdpiikbaaMPx3
import Derived.Test.YtoikjfcdpiikbaaMPx4
import Derived.Test.YtoikjfcdpiikbaaMPx5
import Derived.Test.YtoikjfcdpiikbaaMPx16
import Derived.Test.YtoikjfcdpiikbaaMPx21
import Derived.Test.YtoikjfcdpiikbaaMPx25
import Derived.Test.YtoikjfcdpiikbaaMPx26
namespace Go.Proofs.Ytoikjfcdpiikbaa.MP
open Go.RowKit Go.Proofs.YtoikjfcdpiikbaaW.PrintWords Go.Proofs.YtoikjfcdpiikbaaW.PrintLast Go.Proofs.YtoikjfcdpiikbaaW.PrintMore
attribute [local go_sem] max2_int min2_int max_two min_two max_three min_three max_four min_four   -- for this text's walks alone
set_option linter.unusedVariables false
set_option linter.unusedSimpArgs false

/-! ### medlarlaw09_SteinerDoes: function 9 -/
def medlarlaw09_SteinerDoes.f (k : Nat) (a0 : Int) (l1 : List Int) (a2 : Int) : Option (Bool) := (medlarlaw09_live.f k).bind fun t464 => (if (l1.length : Int) > 30 then (some t464) else (if ([] : List Int).length + l1.length < 17592186044416 then ((steiner_Is.f k a0 l1 a2).bind fun bt468 => ((medlarref09_Is.f k a0 l1 a2).bind fun bt470 => ((steiner_Many.f k a0 l1).bind fun bt472 => ((medlarref09_Many.f k a0 l1).bind fun bt474 => ((steiner_Down.f k a0 l1 a2).bind fun bt476 => ((medlarref09_Down.f k a0 l1 a2).bind fun bt478 => ((steiner_Forks.f k a0 l1).bind fun bt480 => ((medlarref09_Forks.f k a0 l1).bind fun bt484 => ((steiner_Hang.f k a0 l1).bind fun bt488 => ((medlarref09_Hang.f k a0 l1).bind fun bt492 => (if t464 = true then (if (bt468.1 == bt470.1) = true then (if bt468.2 = bt470.2 then (if bt472.1 = bt474.1 then (if bt472.2 = bt474.2 then (if bt476.1 = bt478.1 then (if bt476.2 = bt478.2 then ((medlarref02_Same.f k bt480.1 bt484.1).bind fun t496 => (if t496 = true then (if bt480.2 = bt484.2 then ((medlarref02_Same.f k bt488.1 bt492.1).bind fun t497 => (if t497 = true then (if bt488.2 = bt492.2 then ((medlarref02_Same.f k l1 (([] : List Int) ++ l1)).bind fun t498 => (some t498)) else (some false)) else (some false))) else (some false)) else (some false))) else (some false)) else (some false)) else (some false)) else (some false)) else (some false)) else (some false)) else (some false)))))))))))) else (none)))
theorem medlarlaw09_SteinerDoes.mono : ∀ a0 a1 a2 k, LeO (medlarlaw09_SteinerDoes.f k a0 a1 a2) (medlarlaw09_SteinerDoes.f (k + 1) a0 a1 a2) := by
  intro a0 a1 a2 k
  unfold medlarlaw09_SteinerDoes.f
  repeat' first
      | (with_reducible exact medlarlaw09_live.mono _)
      | (with_reducible exact medlarref02_Same.mono _ _ _)
      | (with_reducible exact medlarref09_Down.mono _ _ _ _)
      | (with_reducible exact medlarref09_Forks.mono _ _ _)
      | (with_reducible exact medlarref09_Hang.mono _ _ _)
      | (with_reducible exact medlarref09_Is.mono _ _ _ _)
      | (with_reducible exact medlarref09_Many.mono _ _ _)
      | (with_reducible exact steiner_Down.mono _ _ _ _)
      | (with_reducible exact steiner_Forks.mono _ _ _)
      | (with_reducible exact steiner_Hang.mono _ _ _)
      | (with_reducible exact steiner_Is.mono _ _ _ _)
      | (with_reducible exact steiner_Many.mono _ _ _)
      | (with_reducible exact LeO.refl _)
      | (with_reducible exact LeO.none _)
      | (with_reducible refine LeO.ite ?_ ?_)
      | (with_reducible refine LeO.bind ?_ (fun _ => ?_))
      | exact medlarlaw09_live.mono _
      | exact medlarref02_Same.mono _ _ _
      | exact medlarref09_Down.mono _ _ _ _
      | exact medlarref09_Forks.mono _ _ _
      | exact medlarref09_Hang.mono _ _ _
      | exact medlarref09_Is.mono _ _ _ _
      | exact medlarref09_Many.mono _ _ _
      | exact steiner_Down.mono _ _ _ _
      | exact steiner_Forks.mono _ _ _
      | exact steiner_Hang.mono _ _ _
      | exact steiner_Is.mono _ _ _ _
      | exact steiner_Many.mono _ _ _
      | exact LeO.none _
      | refine LeO.ite ?_ ?_
      | refine LeO.bind ?_ (fun _ => ?_)
set_option maxHeartbeats 8000000 in
set_option maxRecDepth 100000 in
theorem medlarlaw09_SteinerDoes.calls (k : Nat) (a0 : Int) (A1 : Option Addr) (c1 : Nat) (l1 : List Int) (a2 : Int) (r : Bool) (w : World) (hr1 : Kd.C (Kd.int .u64) w A1 l1.length l1) (hc1 : l1.length ≤ c1) (h : medlarlaw09_SteinerDoes.f k a0 l1 a2 = some r) (hT : Aside0 (r = true)) :
    Calls Try.prog 9 #[.int .i64 a0, .slice A1 l1.length c1, .int .u64 a2] w fun e w' => e = .returned (.bool r) ∧ Below w.heap.size w w' := by
  have HR1 := Aside0.mk hr1
  have HC1 := Aside0.mk hc1
  clear hr1 hc1
  have HB := Aside0.mk (Below.refl w.heap.size w)
  have H : ((medlarlaw09_live.f k).bind fun t464 => (if (l1.length : Int) > 30 then (some t464) else (if ([] : List Int).length + l1.length < 17592186044416 then ((steiner_Is.f k a0 l1 a2).bind fun bt468 => ((medlarref09_Is.f k a0 l1 a2).bind fun bt470 => ((steiner_Many.f k a0 l1).bind fun bt472 => ((medlarref09_Many.f k a0 l1).bind fun bt474 => ((steiner_Down.f k a0 l1 a2).bind fun bt476 => ((medlarref09_Down.f k a0 l1 a2).bind fun bt478 => ((steiner_Forks.f k a0 l1).bind fun bt480 => ((medlarref09_Forks.f k a0 l1).bind fun bt484 => ((steiner_Hang.f k a0 l1).bind fun bt488 => ((medlarref09_Hang.f k a0 l1).bind fun bt492 => (if t464 = true then (if (bt468.1 == bt470.1) = true then (if bt468.2 = bt470.2 then (if bt472.1 = bt474.1 then (if bt472.2 = bt474.2 then (if bt476.1 = bt478.1 then (if bt476.2 = bt478.2 then ((medlarref02_Same.f k bt480.1 bt484.1).bind fun t496 => (if t496 = true then (if bt480.2 = bt484.2 then ((medlarref02_Same.f k bt488.1 bt492.1).bind fun t497 => (if t497 = true then (if bt488.2 = bt492.2 then ((medlarref02_Same.f k l1 (([] : List Int) ++ l1)).bind fun t498 => (some t498)) else (some false)) else (some false))) else (some false)) else (some false))) else (some false)) else (some false)) else (some false)) else (some false)) else (some false)) else (some false)) else (some false)))))))))))) else (none)))) = some r := h
  clear h
  replace H := Option.bind_eq_some_iff.mp H
  obtain ⟨t464, A40, H⟩ := H
  replace H : (if (l1.length : Int) > 30 then (some t464) else (if ([] : List Int).length + l1.length < 17592186044416 then ((steiner_Is.f k a0 l1 a2).bind fun bt468 => ((medlarref09_Is.f k a0 l1 a2).bind fun bt470 => ((steiner_Many.f k a0 l1).bind fun bt472 => ((medlarref09_Many.f k a0 l1).bind fun bt474 => ((steiner_Down.f k a0 l1 a2).bind fun bt476 => ((medlarref09_Down.f k a0 l1 a2).bind fun bt478 => ((steiner_Forks.f k a0 l1).bind fun bt480 => ((medlarref09_Forks.f k a0 l1).bind fun bt484 => ((steiner_Hang.f k a0 l1).bind fun bt488 => ((medlarref09_Hang.f k a0 l1).bind fun bt492 => (if t464 = true then (if (bt468.1 == bt470.1) = true then (if bt468.2 = bt470.2 then (if bt472.1 = bt474.1 then (if bt472.2 = bt474.2 then (if bt476.1 = bt478.1 then (if bt476.2 = bt478.2 then ((medlarref02_Same.f k bt480.1 bt484.1).bind fun t496 => (if t496 = true then (if bt480.2 = bt484.2 then ((medlarref02_Same.f k bt488.1 bt492.1).bind fun t497 => (if t497 = true then (if bt488.2 = bt492.2 then ((medlarref02_Same.f k l1 (([] : List Int) ++ l1)).bind fun t498 => (some t498)) else (some false)) else (some false))) else (some false)) else (some false))) else (some false)) else (some false)) else (some false)) else (some false)) else (some false)) else (some false)) else (some false)))))))))))) else (none))) = some r := H
  have A4 := Aside0.mk A40
  clear A40
  by_cases c5 : (l1.length : Int) > 30
  · rw [if_pos c5] at H
    have c5b0 : decide (30 < (l1.length : Int)) = true := decide_eq_true c5
    have c5b1 : decide (30 < l1.length) = true := decide_eq_true (by omega)
    clear c5
    obtain rfl := Option.some.inj H
    go_enter Try.func9, Try.ntmps9
    go_wp2_with (first | ((with_reducible refine gate_callee (f := 14) rfl ?_); refine goesL_ (some 29) rfl rfl Try.func14 (by kernel_rfl) rfl #[] rfl (by (try simp only [List.map_toArray, List.map_cons, List.map_nil]); first | done | rfl | (simp only [List.length_drop, List.length_take]; rfl)) ?_; (with_reducible refine (medlarlaw09_live.calls k  t464 _ A4.out).mono ?_); rintro e w6 ⟨rfl, hb⟩; refine ⟨_, rfl, ?_⟩; have n0_ := Aside0.mk (below_step (by repeat (first | (with_reducible first | exact HB.out | apply below_alloc | apply pw_below_drewN | apply below_drew1) | exact HB.out)) hb); clear HB; have HB := n0_; clear n0_; (try clear hb); (try clear hb2); (try clear hk); (try clear hi)))
    go_ret
    exact ⟨by first | rfl | (simp [errW_none, errW_some] <;> rfl) | (simp [*, errW_none, errW_some] <;> rfl), by repeat (first | (with_reducible first | exact HB.out | apply below_alloc | apply pw_below_drewN | apply below_drew1) | exact HB.out)⟩
  · rw [if_neg c5] at H
    have c5b0 : decide (30 < (l1.length : Int)) = false := decide_eq_false c5
    have c5b1 : decide (30 < l1.length) = false := decide_eq_false (by omega)
    clear c5
    by_cases c7 : ([] : List Int).length + l1.length < 17592186044416
    · rw [if_pos c7] at H
      have LMc7 := Aside0.mk c7
      clear c7
      obtain ⟨y465, hy465⟩ : ∃ y_ : List Int, y_ = (([] : List Int) ++ l1) := ⟨_, rfl⟩
      replace H : ((steiner_Is.f k a0 l1 a2).bind fun bt468 => ((medlarref09_Is.f k a0 l1 a2).bind fun bt470 => ((steiner_Many.f k a0 l1).bind fun bt472 => ((medlarref09_Many.f k a0 l1).bind fun bt474 => ((steiner_Down.f k a0 l1 a2).bind fun bt476 => ((medlarref09_Down.f k a0 l1 a2).bind fun bt478 => ((steiner_Forks.f k a0 l1).bind fun bt480 => ((medlarref09_Forks.f k a0 l1).bind fun bt484 => ((steiner_Hang.f k a0 l1).bind fun bt488 => ((medlarref09_Hang.f k a0 l1).bind fun bt492 => (if t464 = true then (if (bt468.1 == bt470.1) = true then (if bt468.2 = bt470.2 then (if bt472.1 = bt474.1 then (if bt472.2 = bt474.2 then (if bt476.1 = bt478.1 then (if bt476.2 = bt478.2 then ((medlarref02_Same.f k bt480.1 bt484.1).bind fun t496 => (if t496 = true then (if bt480.2 = bt484.2 then ((medlarref02_Same.f k bt488.1 bt492.1).bind fun t497 => (if t497 = true then (if bt488.2 = bt492.2 then ((medlarref02_Same.f k l1 y465).bind fun t498 => (some t498)) else (some false)) else (some false))) else (some false)) else (some false))) else (some false)) else (some false)) else (some false)) else (some false)) else (some false)) else (some false)) else (some false)))))))))))) = some r := by first | (rw [hy465]; with_reducible exact H) | (have H2_ := (Option.bind_some _ _).symm.trans H; rw [hy465]; with_reducible exact H2_) | (have H2_ := (Option.bind_some _ _).symm.trans H; with_reducible exact H2_) | with_reducible exact H | (rw [hy465]; exact H) | exact H
      have Ny465 := Aside0.mk hy465
      clear hy465
      replace H := Option.bind_eq_some_iff.mp H
      obtain ⟨⟨t468, t469⟩, A80, H⟩ := H
      replace H : ((medlarref09_Is.f k a0 l1 a2).bind fun bt470 => ((steiner_Many.f k a0 l1).bind fun bt472 => ((medlarref09_Many.f k a0 l1).bind fun bt474 => ((steiner_Down.f k a0 l1 a2).bind fun bt476 => ((medlarref09_Down.f k a0 l1 a2).bind fun bt478 => ((steiner_Forks.f k a0 l1).bind fun bt480 => ((medlarref09_Forks.f k a0 l1).bind fun bt484 => ((steiner_Hang.f k a0 l1).bind fun bt488 => ((medlarref09_Hang.f k a0 l1).bind fun bt492 => (if t464 = true then (if (t468 == bt470.1) = true then (if t469 = bt470.2 then (if bt472.1 = bt474.1 then (if bt472.2 = bt474.2 then (if bt476.1 = bt478.1 then (if bt476.2 = bt478.2 then ((medlarref02_Same.f k bt480.1 bt484.1).bind fun t496 => (if t496 = true then (if bt480.2 = bt484.2 then ((medlarref02_Same.f k bt488.1 bt492.1).bind fun t497 => (if t497 = true then (if bt488.2 = bt492.2 then ((medlarref02_Same.f k l1 y465).bind fun t498 => (some t498)) else (some false)) else (some false))) else (some false)) else (some false))) else (some false)) else (some false)) else (some false)) else (some false)) else (some false)) else (some false)) else (some false))))))))))) = some r := H
      have A8 := Aside0.mk A80
      clear A80
      replace H := Option.bind_eq_some_iff.mp H
      obtain ⟨⟨t470, t471⟩, A90, H⟩ := H
      replace H : ((steiner_Many.f k a0 l1).bind fun bt472 => ((medlarref09_Many.f k a0 l1).bind fun bt474 => ((steiner_Down.f k a0 l1 a2).bind fun bt476 => ((medlarref09_Down.f k a0 l1 a2).bind fun bt478 => ((steiner_Forks.f k a0 l1).bind fun bt480 => ((medlarref09_Forks.f k a0 l1).bind fun bt484 => ((steiner_Hang.f k a0 l1).bind fun bt488 => ((medlarref09_Hang.f k a0 l1).bind fun bt492 => (if t464 = true then (if (t468 == t470) = true then (if t469 = t471 then (if bt472.1 = bt474.1 then (if bt472.2 = bt474.2 then (if bt476.1 = bt478.1 then (if bt476.2 = bt478.2 then ((medlarref02_Same.f k bt480.1 bt484.1).bind fun t496 => (if t496 = true then (if bt480.2 = bt484.2 then ((medlarref02_Same.f k bt488.1 bt492.1).bind fun t497 => (if t497 = true then (if bt488.2 = bt492.2 then ((medlarref02_Same.f k l1 y465).bind fun t498 => (some t498)) else (some false)) else (some false))) else (some false)) else (some false))) else (some false)) else (some false)) else (some false)) else (some false)) else (some false)) else (some false)) else (some false)))))))))) = some r := H
      have A9 := Aside0.mk A90
      clear A90
      replace H := Option.bind_eq_some_iff.mp H
      obtain ⟨⟨t472, t473⟩, A100, H⟩ := H
      replace H : ((medlarref09_Many.f k a0 l1).bind fun bt474 => ((steiner_Down.f k a0 l1 a2).bind fun bt476 => ((medlarref09_Down.f k a0 l1 a2).bind fun bt478 => ((steiner_Forks.f k a0 l1).bind fun bt480 => ((medlarref09_Forks.f k a0 l1).bind fun bt484 => ((steiner_Hang.f k a0 l1).bind fun bt488 => ((medlarref09_Hang.f k a0 l1).bind fun bt492 => (if t464 = true then (if (t468 == t470) = true then (if t469 = t471 then (if t472 = bt474.1 then (if t473 = bt474.2 then (if bt476.1 = bt478.1 then (if bt476.2 = bt478.2 then ((medlarref02_Same.f k bt480.1 bt484.1).bind fun t496 => (if t496 = true then (if bt480.2 = bt484.2 then ((medlarref02_Same.f k bt488.1 bt492.1).bind fun t497 => (if t497 = true then (if bt488.2 = bt492.2 then ((medlarref02_Same.f k l1 y465).bind fun t498 => (some t498)) else (some false)) else (some false))) else (some false)) else (some false))) else (some false)) else (some false)) else (some false)) else (some false)) else (some false)) else (some false)) else (some false))))))))) = some r := H
      have A10 := Aside0.mk A100
      clear A100
      replace H := Option.bind_eq_some_iff.mp H
      obtain ⟨⟨t474, t475⟩, A110, H⟩ := H
      replace H : ((steiner_Down.f k a0 l1 a2).bind fun bt476 => ((medlarref09_Down.f k a0 l1 a2).bind fun bt478 => ((steiner_Forks.f k a0 l1).bind fun bt480 => ((medlarref09_Forks.f k a0 l1).bind fun bt484 => ((steiner_Hang.f k a0 l1).bind fun bt488 => ((medlarref09_Hang.f k a0 l1).bind fun bt492 => (if t464 = true then (if (t468 == t470) = true then (if t469 = t471 then (if t472 = t474 then (if t473 = t475 then (if bt476.1 = bt478.1 then (if bt476.2 = bt478.2 then ((medlarref02_Same.f k bt480.1 bt484.1).bind fun t496 => (if t496 = true then (if bt480.2 = bt484.2 then ((medlarref02_Same.f k bt488.1 bt492.1).bind fun t497 => (if t497 = true then (if bt488.2 = bt492.2 then ((medlarref02_Same.f k l1 y465).bind fun t498 => (some t498)) else (some false)) else (some false))) else (some false)) else (some false))) else (some false)) else (some false)) else (some false)) else (some false)) else (some false)) else (some false)) else (some false)))))))) = some r := H
      have A11 := Aside0.mk A110
      clear A110
      replace H := Option.bind_eq_some_iff.mp H
      obtain ⟨⟨t476, t477⟩, A120, H⟩ := H
      replace H : ((medlarref09_Down.f k a0 l1 a2).bind fun bt478 => ((steiner_Forks.f k a0 l1).bind fun bt480 => ((medlarref09_Forks.f k a0 l1).bind fun bt484 => ((steiner_Hang.f k a0 l1).bind fun bt488 => ((medlarref09_Hang.f k a0 l1).bind fun bt492 => (if t464 = true then (if (t468 == t470) = true then (if t469 = t471 then (if t472 = t474 then (if t473 = t475 then (if t476 = bt478.1 then (if t477 = bt478.2 then ((medlarref02_Same.f k bt480.1 bt484.1).bind fun t496 => (if t496 = true then (if bt480.2 = bt484.2 then ((medlarref02_Same.f k bt488.1 bt492.1).bind fun t497 => (if t497 = true then (if bt488.2 = bt492.2 then ((medlarref02_Same.f k l1 y465).bind fun t498 => (some t498)) else (some false)) else (some false))) else (some false)) else (some false))) else (some false)) else (some false)) else (some false)) else (some false)) else (some false)) else (some false)) else (some false))))))) = some r := H
      have A12 := Aside0.mk A120
      clear A120
      replace H := Option.bind_eq_some_iff.mp H
      obtain ⟨⟨t478, t479⟩, A130, H⟩ := H
      replace H : ((steiner_Forks.f k a0 l1).bind fun bt480 => ((medlarref09_Forks.f k a0 l1).bind fun bt484 => ((steiner_Hang.f k a0 l1).bind fun bt488 => ((medlarref09_Hang.f k a0 l1).bind fun bt492 => (if t464 = true then (if (t468 == t470) = true then (if t469 = t471 then (if t472 = t474 then (if t473 = t475 then (if t476 = t478 then (if t477 = t479 then ((medlarref02_Same.f k bt480.1 bt484.1).bind fun t496 => (if t496 = true then (if bt480.2 = bt484.2 then ((medlarref02_Same.f k bt488.1 bt492.1).bind fun t497 => (if t497 = true then (if bt488.2 = bt492.2 then ((medlarref02_Same.f k l1 y465).bind fun t498 => (some t498)) else (some false)) else (some false))) else (some false)) else (some false))) else (some false)) else (some false)) else (some false)) else (some false)) else (some false)) else (some false)) else (some false)))))) = some r := H
      have A13 := Aside0.mk A130
      clear A130
      replace H := Option.bind_eq_some_iff.mp H
      obtain ⟨⟨t480, t481⟩, A140, H⟩ := H
      replace H : ((medlarref09_Forks.f k a0 l1).bind fun bt484 => ((steiner_Hang.f k a0 l1).bind fun bt488 => ((medlarref09_Hang.f k a0 l1).bind fun bt492 => (if t464 = true then (if (t468 == t470) = true then (if t469 = t471 then (if t472 = t474 then (if t473 = t475 then (if t476 = t478 then (if t477 = t479 then ((medlarref02_Same.f k t480 bt484.1).bind fun t496 => (if t496 = true then (if t481 = bt484.2 then ((medlarref02_Same.f k bt488.1 bt492.1).bind fun t497 => (if t497 = true then (if bt488.2 = bt492.2 then ((medlarref02_Same.f k l1 y465).bind fun t498 => (some t498)) else (some false)) else (some false))) else (some false)) else (some false))) else (some false)) else (some false)) else (some false)) else (some false)) else (some false)) else (some false)) else (some false))))) = some r := H
      have A14 := Aside0.mk A140
      clear A140
      replace H := Option.bind_eq_some_iff.mp H
      obtain ⟨⟨t484, t485⟩, A150, H⟩ := H
      replace H : ((steiner_Hang.f k a0 l1).bind fun bt488 => ((medlarref09_Hang.f k a0 l1).bind fun bt492 => (if t464 = true then (if (t468 == t470) = true then (if t469 = t471 then (if t472 = t474 then (if t473 = t475 then (if t476 = t478 then (if t477 = t479 then ((medlarref02_Same.f k t480 t484).bind fun t496 => (if t496 = true then (if t481 = t485 then ((medlarref02_Same.f k bt488.1 bt492.1).bind fun t497 => (if t497 = true then (if bt488.2 = bt492.2 then ((medlarref02_Same.f k l1 y465).bind fun t498 => (some t498)) else (some false)) else (some false))) else (some false)) else (some false))) else (some false)) else (some false)) else (some false)) else (some false)) else (some false)) else (some false)) else (some false)))) = some r := H
      have A15 := Aside0.mk A150
      clear A150
      replace H := Option.bind_eq_some_iff.mp H
      obtain ⟨⟨t488, t489⟩, A160, H⟩ := H
      replace H : ((medlarref09_Hang.f k a0 l1).bind fun bt492 => (if t464 = true then (if (t468 == t470) = true then (if t469 = t471 then (if t472 = t474 then (if t473 = t475 then (if t476 = t478 then (if t477 = t479 then ((medlarref02_Same.f k t480 t484).bind fun t496 => (if t496 = true then (if t481 = t485 then ((medlarref02_Same.f k t488 bt492.1).bind fun t497 => (if t497 = true then (if t489 = bt492.2 then ((medlarref02_Same.f k l1 y465).bind fun t498 => (some t498)) else (some false)) else (some false))) else (some false)) else (some false))) else (some false)) else (some false)) else (some false)) else (some false)) else (some false)) else (some false)) else (some false))) = some r := H
      have A16 := Aside0.mk A160
      clear A160
      replace H := Option.bind_eq_some_iff.mp H
      obtain ⟨⟨t492, t493⟩, A170, H⟩ := H
      replace H : (if t464 = true then (if (t468 == t470) = true then (if t469 = t471 then (if t472 = t474 then (if t473 = t475 then (if t476 = t478 then (if t477 = t479 then ((medlarref02_Same.f k t480 t484).bind fun t496 => (if t496 = true then (if t481 = t485 then ((medlarref02_Same.f k t488 t492).bind fun t497 => (if t497 = true then (if t489 = t493 then ((medlarref02_Same.f k l1 y465).bind fun t498 => (some t498)) else (some false)) else (some false))) else (some false)) else (some false))) else (some false)) else (some false)) else (some false)) else (some false)) else (some false)) else (some false)) else (some false)) = some r := H
      have A17 := Aside0.mk A170
      clear A170
      by_cases c18 : t464 = true
      · subst c18
        have H1 : (if (t468 == t470) = true then (if t469 = t471 then (if t472 = t474 then (if t473 = t475 then (if t476 = t478 then (if t477 = t479 then ((medlarref02_Same.f k t480 t484).bind fun t496 => (if t496 = true then (if t481 = t485 then ((medlarref02_Same.f k t488 t492).bind fun t497 => (if t497 = true then (if t489 = t493 then ((medlarref02_Same.f k l1 y465).bind fun t498 => (some t498)) else (some false)) else (some false))) else (some false)) else (some false))) else (some false)) else (some false)) else (some false)) else (some false)) else (some false)) else (some false)) = some r := by rw [if_pos rfl] at H; exact H
        clear H
        have H := H1
        clear H1
        by_cases c19 : (t468 == t470) = true
        · rw [if_pos c19] at H
          have c19b0 : (t468 == t470) = true := c19
          (try (have c19b1 : decide (t468 = t470) = true := by simpa using c19))
          (try (have c19b2 : (t468 == t470) = true := by simpa using c19))
          clear c19
          by_cases c20 : t469 = t471
          · rw [if_pos c20] at H
            have c20b0 : (t469 == t471) = true := beq_iff_eq.mpr c20
            have c20b1 : (t469 != t471) = false := bne_eq_false_iff_eq.mpr c20
            clear c20
            by_cases c21 : t472 = t474
            · rw [if_pos c21] at H
              have c21b0 : (t472 == t474) = true := beq_iff_eq.mpr c21
              have c21b1 : (t472 != t474) = false := bne_eq_false_iff_eq.mpr c21
              clear c21
              by_cases c22 : t473 = t475
              · rw [if_pos c22] at H
                have c22b0 : (t473 == t475) = true := beq_iff_eq.mpr c22
                have c22b1 : (t473 != t475) = false := bne_eq_false_iff_eq.mpr c22
                clear c22
                by_cases c23 : t476 = t478
                · rw [if_pos c23] at H
                  have c23b0 : (t476 == t478) = true := beq_iff_eq.mpr c23
                  have c23b1 : (t476 != t478) = false := bne_eq_false_iff_eq.mpr c23
                  clear c23
                  by_cases c24 : t477 = t479
                  · rw [if_pos c24] at H
                    have c24b0 : (t477 == t479) = true := beq_iff_eq.mpr c24
                    have c24b1 : (t477 != t479) = false := bne_eq_false_iff_eq.mpr c24
                    clear c24
                    replace H := Option.bind_eq_some_iff.mp H
                    obtain ⟨t496, A250, H⟩ := H
                    replace H : (if t496 = true then (if t481 = t485 then ((medlarref02_Same.f k t488 t492).bind fun t497 => (if t497 = true then (if t489 = t493 then ((medlarref02_Same.f k l1 y465).bind fun t498 => (some t498)) else (some false)) else (some false))) else (some false)) else (some false)) = some r := H
                    have A25 := Aside0.mk A250
                    clear A250
                    by_cases c26 : t496 = true
                    · subst c26
                      have H1 : (if t481 = t485 then ((medlarref02_Same.f k t488 t492).bind fun t497 => (if t497 = true then (if t489 = t493 then ((medlarref02_Same.f k l1 y465).bind fun t498 => (some t498)) else (some false)) else (some false))) else (some false)) = some r := by rw [if_pos rfl] at H; exact H
                      clear H
                      have H := H1
                      clear H1
                      by_cases c27 : t481 = t485
                      · rw [if_pos c27] at H
                        have c27b0 : (t481 == t485) = true := beq_iff_eq.mpr c27
                        have c27b1 : (t481 != t485) = false := bne_eq_false_iff_eq.mpr c27
                        clear c27
                        replace H := Option.bind_eq_some_iff.mp H
                        obtain ⟨t497, A280, H⟩ := H
                        replace H : (if t497 = true then (if t489 = t493 then ((medlarref02_Same.f k l1 y465).bind fun t498 => (some t498)) else (some false)) else (some false)) = some r := H
                        have A28 := Aside0.mk A280
                        clear A280
                        by_cases c29 : t497 = true
                        · subst c29
                          have H1 : (if t489 = t493 then ((medlarref02_Same.f k l1 y465).bind fun t498 => (some t498)) else (some false)) = some r := by rw [if_pos rfl] at H; exact H
                          clear H
                          have H := H1
                          clear H1
                          by_cases c30 : t489 = t493
                          · rw [if_pos c30] at H
                            have c30b0 : (t489 == t493) = true := beq_iff_eq.mpr c30
                            have c30b1 : (t489 != t493) = false := bne_eq_false_iff_eq.mpr c30
                            clear c30
                            replace H := Option.bind_eq_some_iff.mp H
                            obtain ⟨t498, A310, H⟩ := H
                            replace H : (some t498) = some r := H
                            have A31 := Aside0.mk A310
                            clear A310
                            obtain rfl := Option.some.inj H
                            go_enter Try.func9, Try.ntmps9
                            go_wp2_with (first | ((with_reducible refine gate_callee (f := 14) rfl ?_); refine goesL_ (some 29) rfl rfl Try.func14 (by kernel_rfl) rfl #[] rfl (by (try simp only [List.map_toArray, List.map_cons, List.map_nil]); first | done | rfl | (simp only [List.length_drop, List.length_take]; rfl)) ?_; (with_reducible refine (medlarlaw09_live.calls k  true _ A4.out).mono ?_); rintro e w32 ⟨rfl, hb⟩; refine ⟨_, rfl, ?_⟩; have n0_ := Aside0.mk (below_step (by repeat (first | (with_reducible first | exact HB.out | apply below_alloc | apply pw_below_drewN | apply below_drew1) | exact HB.out)) hb); clear HB; have HB := n0_; clear n0_; (try clear hb); (try clear hb2); (try clear hk); (try clear hi)) | ((with_reducible refine gate_builtin (b := .append) (xs := #[.const (.slice none 0 0), .tmp 34]) rfl ?_); at_builtin; refine Kd.R_append_rows (Kd.int .u64) (w0 := w) w.heap.size rfl (.const (.slice none 0 0)) (.tmp 34) 22 29 (.int .u64 0) 8 rfl Try.underlying22 info29 rfl (by decide) (by omega) (.slice none 0 0) ([] : List Int) l1 _ _ _ (fun _ => True) (fun _ => False) rfl rfl ?aO ?aR (fun _ _ h => h) (fun _ h => h.elim) ?aF ?aB ?aS ?aL ?_; (case aR => repeat (first | exact (Kd.C_below HR1.out HB.out) | (with_reducible refine Kd.C_alloc ?_ _) | (with_reducible refine Kd.C_drewN ?_ _) | (with_reducible refine Kd.C_drew ?_))); (case aB => exact (by repeat (first | (with_reducible first | exact HB.out | apply below_alloc | apply pw_below_drewN | apply below_drew1) | exact HB.out))); (case aF => exact (fun _ _ => trivial)); (case aO => exact ((Kd.R_nil _ _ _ _ (fun _ => True)))); (case aS => exact (below_size (by repeat (first | (with_reducible first | exact HB.out | apply below_alloc | apply pw_below_drewN | apply below_drew1) | exact HB.out)))); (case aL => have := LMc7.out; omega); intro v466 w33 ho hb hg hat; rw [← Ny465.out] at ho; have n0_ := Aside0.mk (hb); have n1_ := Aside0.mk (ho); clear HB; have HB := n0_; have HO467 := n1_; clear n0_ n1_; clear ho hb hg hat) | ((with_reducible refine gate_callee (f := 27) rfl ?_); refine goesL_ (some 40) rfl rfl Try.func27 (by kernel_rfl) rfl #[.int .i64 a0, .slice A1 l1.length c1, .int .u64 a2] rfl (by (try simp only [List.map_toArray, List.map_cons, List.map_nil]); first | done | rfl | (simp only [List.length_drop, List.length_take]; rfl)) ?_; (with_reducible refine (steiner_Is.calls k a0 _ _ l1 a2 t468 t469 _ ?side1 ?side2 A8.out).mono ?_); (case side1 => repeat (first | exact (Kd.C_below HR1.out HB.out) | (with_reducible refine Kd.C_alloc ?_ _) | (with_reducible refine Kd.C_drewN ?_ _) | (with_reducible refine Kd.C_drew ?_))); (case side2 => exact HC1.out); rintro e w34 ⟨rfl, hb⟩; refine ⟨_, rfl, ?_⟩; have n0_ := Aside0.mk (Kd.R_below (by (with_reducible repeat (first | apply Kd.R_alloc | apply Kd.R_drewN | apply Kd.R_drew)); exact HO467.out) hb); have n1_ := Aside0.mk (below_step (by repeat (first | (with_reducible first | exact HB.out | apply below_alloc | apply pw_below_drewN | apply below_drew1) | exact HB.out)) hb); clear HO467; clear HB; have HO467 := n0_; have HB := n1_; clear n0_ n1_; (try clear hb); (try clear hb2); (try clear hk); (try clear hi)) | ((with_reducible refine gate_callee (f := 29) rfl ?_); refine goesL_ (some 47) rfl rfl Try.func29 (by kernel_rfl) rfl #[.int .i64 a0, .slice A1 l1.length c1, .int .u64 a2] rfl (by (try simp only [List.map_toArray, List.map_cons, List.map_nil]); first | done | rfl | (simp only [List.length_drop, List.length_take]; rfl)) ?_; (with_reducible refine (medlarref09_Is.calls k a0 _ _ l1 a2 t470 t471 _ ?side1 ?side2 A9.out).mono ?_); (case side1 => repeat (first | exact (Kd.C_below HR1.out HB.out) | (with_reducible refine Kd.C_alloc ?_ _) | (with_reducible refine Kd.C_drewN ?_ _) | (with_reducible refine Kd.C_drew ?_))); (case side2 => exact HC1.out); rintro e w35 ⟨rfl, hb⟩; refine ⟨_, rfl, ?_⟩; have n0_ := Aside0.mk (Kd.R_below (by (with_reducible repeat (first | apply Kd.R_alloc | apply Kd.R_drewN | apply Kd.R_drew)); exact HO467.out) hb); have n1_ := Aside0.mk (below_step (by repeat (first | (with_reducible first | exact HB.out | apply below_alloc | apply pw_below_drewN | apply below_drew1) | exact HB.out)) hb); clear HO467; clear HB; have HO467 := n0_; have HB := n1_; clear n0_ n1_; (try clear hb); (try clear hb2); (try clear hk); (try clear hi)) | ((with_reducible refine gate_callee (f := 15) rfl ?_); refine goesL_ (some 53) rfl rfl Try.func15 (by kernel_rfl) rfl #[.int .i64 a0, .slice A1 l1.length c1] rfl (by (try simp only [List.map_toArray, List.map_cons, List.map_nil]); first | done | rfl | (simp only [List.length_drop, List.length_take]; rfl)) ?_; (with_reducible refine (steiner_Many.calls k a0 _ _ l1 t472 t473 _ ?side1 ?side2 A10.out).mono ?_); (case side1 => repeat (first | exact (Kd.C_below HR1.out HB.out) | (with_reducible refine Kd.C_alloc ?_ _) | (with_reducible refine Kd.C_drewN ?_ _) | (with_reducible refine Kd.C_drew ?_))); (case side2 => exact HC1.out); rintro e w36 ⟨rfl, hb⟩; refine ⟨_, rfl, ?_⟩; have n0_ := Aside0.mk (Kd.R_below (by (with_reducible repeat (first | apply Kd.R_alloc | apply Kd.R_drewN | apply Kd.R_drew)); exact HO467.out) hb); have n1_ := Aside0.mk (below_step (by repeat (first | (with_reducible first | exact HB.out | apply below_alloc | apply pw_below_drewN | apply below_drew1) | exact HB.out)) hb); clear HO467; clear HB; have HO467 := n0_; have HB := n1_; clear n0_ n1_; (try clear hb); (try clear hb2); (try clear hk); (try clear hi)) | ((with_reducible refine gate_callee (f := 30) rfl ?_); refine goesL_ (some 59) rfl rfl Try.func30 (by kernel_rfl) rfl #[.int .i64 a0, .slice A1 l1.length c1] rfl (by (try simp only [List.map_toArray, List.map_cons, List.map_nil]); first | done | rfl | (simp only [List.length_drop, List.length_take]; rfl)) ?_; (with_reducible refine (medlarref09_Many.calls k a0 _ _ l1 t474 t475 _ ?side1 ?side2 A11.out).mono ?_); (case side1 => repeat (first | exact (Kd.C_below HR1.out HB.out) | (with_reducible refine Kd.C_alloc ?_ _) | (with_reducible refine Kd.C_drewN ?_ _) | (with_reducible refine Kd.C_drew ?_))); (case side2 => exact HC1.out); rintro e w37 ⟨rfl, hb⟩; refine ⟨_, rfl, ?_⟩; have n0_ := Aside0.mk (Kd.R_below (by (with_reducible repeat (first | apply Kd.R_alloc | apply Kd.R_drewN | apply Kd.R_drew)); exact HO467.out) hb); have n1_ := Aside0.mk (below_step (by repeat (first | (with_reducible first | exact HB.out | apply below_alloc | apply pw_below_drewN | apply below_drew1) | exact HB.out)) hb); clear HO467; clear HB; have HO467 := n0_; have HB := n1_; clear n0_ n1_; (try clear hb); (try clear hb2); (try clear hk); (try clear hi)) | ((with_reducible refine gate_callee (f := 31) rfl ?_); refine goesL_ (some 66) rfl rfl Try.func31 (by kernel_rfl) rfl #[.int .i64 a0, .slice A1 l1.length c1, .int .u64 a2] rfl (by (try simp only [List.map_toArray, List.map_cons, List.map_nil]); first | done | rfl | (simp only [List.length_drop, List.length_take]; rfl)) ?_; (with_reducible refine (steiner_Down.calls k a0 _ _ l1 a2 t476 t477 _ ?side1 ?side2 A12.out).mono ?_); (case side1 => repeat (first | exact (Kd.C_below HR1.out HB.out) | (with_reducible refine Kd.C_alloc ?_ _) | (with_reducible refine Kd.C_drewN ?_ _) | (with_reducible refine Kd.C_drew ?_))); (case side2 => exact HC1.out); rintro e w38 ⟨rfl, hb⟩; refine ⟨_, rfl, ?_⟩; have n0_ := Aside0.mk (Kd.R_below (by (with_reducible repeat (first | apply Kd.R_alloc | apply Kd.R_drewN | apply Kd.R_drew)); exact HO467.out) hb); have n1_ := Aside0.mk (below_step (by repeat (first | (with_reducible first | exact HB.out | apply below_alloc | apply pw_below_drewN | apply below_drew1) | exact HB.out)) hb); clear HO467; clear HB; have HO467 := n0_; have HB := n1_; clear n0_ n1_; (try clear hb); (try clear hb2); (try clear hk); (try clear hi)) | ((with_reducible refine gate_callee (f := 32) rfl ?_); refine goesL_ (some 73) rfl rfl Try.func32 (by kernel_rfl) rfl #[.int .i64 a0, .slice A1 l1.length c1, .int .u64 a2] rfl (by (try simp only [List.map_toArray, List.map_cons, List.map_nil]); first | done | rfl | (simp only [List.length_drop, List.length_take]; rfl)) ?_; (with_reducible refine (medlarref09_Down.calls k a0 _ _ l1 a2 t478 t479 _ ?side1 ?side2 A13.out).mono ?_); (case side1 => repeat (first | exact (Kd.C_below HR1.out HB.out) | (with_reducible refine Kd.C_alloc ?_ _) | (with_reducible refine Kd.C_drewN ?_ _) | (with_reducible refine Kd.C_drew ?_))); (case side2 => exact HC1.out); rintro e w39 ⟨rfl, hb⟩; refine ⟨_, rfl, ?_⟩; have n0_ := Aside0.mk (Kd.R_below (by (with_reducible repeat (first | apply Kd.R_alloc | apply Kd.R_drewN | apply Kd.R_drew)); exact HO467.out) hb); have n1_ := Aside0.mk (below_step (by repeat (first | (with_reducible first | exact HB.out | apply below_alloc | apply pw_below_drewN | apply below_drew1) | exact HB.out)) hb); clear HO467; clear HB; have HO467 := n0_; have HB := n1_; clear n0_ n1_; (try clear hb); (try clear hb2); (try clear hk); (try clear hi)) | ((with_reducible refine gate_callee (f := 17) rfl ?_); refine goesL_ (some 79) rfl rfl Try.func17 (by kernel_rfl) rfl #[.int .i64 a0, .slice A1 l1.length c1] rfl (by (try simp only [List.map_toArray, List.map_cons, List.map_nil]); first | done | rfl | (simp only [List.length_drop, List.length_take]; rfl)) ?_; (with_reducible refine (steiner_Forks.calls k a0 _ _ l1 t480 t481 _ ?side1 ?side2 A14.out).mono ?_); (case side1 => repeat (first | exact (Kd.C_below HR1.out HB.out) | (with_reducible refine Kd.C_alloc ?_ _) | (with_reducible refine Kd.C_drewN ?_ _) | (with_reducible refine Kd.C_drew ?_))); (case side2 => exact HC1.out); rintro e w40 ⟨v482, rfl, ho0, hb⟩; refine ⟨_, rfl, ?_⟩; have n0_ := Aside0.mk (Kd.R_elder' (by (with_reducible repeat (first | apply Kd.R_alloc | apply Kd.R_drewN | apply Kd.R_drew)); exact HO467.out) (Kd.R_base ho0) hb); have n1_ := Aside0.mk (Kd.R_lower (Kd.R_new' ho0 (Kd.R_lt (by (with_reducible repeat (first | apply Kd.R_alloc | apply Kd.R_drewN | apply Kd.R_drew)); exact HO467.out))) (below_size (by repeat (first | (with_reducible first | exact HB.out | apply below_alloc | apply pw_below_drewN | apply below_drew1) | exact HB.out)))); have n2_ := Aside0.mk (below_step (by repeat (first | (with_reducible first | exact HB.out | apply below_alloc | apply pw_below_drewN | apply below_drew1) | exact HB.out)) hb); clear HO467; clear HB; have HO467 := n0_; have HO483 := n1_; have HB := n2_; clear n0_ n1_ n2_; (try clear hb); (try clear hb2); (try clear hk); (try clear hi); (try clear ho0)) | ((with_reducible refine gate_callee (f := 33) rfl ?_); refine goesL_ (some 85) rfl rfl Try.func33 (by kernel_rfl) rfl #[.int .i64 a0, .slice A1 l1.length c1] rfl (by (try simp only [List.map_toArray, List.map_cons, List.map_nil]); first | done | rfl | (simp only [List.length_drop, List.length_take]; rfl)) ?_; (with_reducible refine (medlarref09_Forks.calls k a0 _ _ l1 t484 t485 _ ?side1 ?side2 A15.out).mono ?_); (case side1 => repeat (first | exact (Kd.C_below HR1.out HB.out) | (with_reducible refine Kd.C_alloc ?_ _) | (with_reducible refine Kd.C_drewN ?_ _) | (with_reducible refine Kd.C_drew ?_))); (case side2 => exact HC1.out); rintro e w41 ⟨v486, rfl, ho0, hb⟩; refine ⟨_, rfl, ?_⟩; have n0_ := Aside0.mk (Kd.R_elder' (by (with_reducible repeat (first | apply Kd.R_alloc | apply Kd.R_drewN | apply Kd.R_drew)); exact HO467.out) (Kd.R_base ho0) hb); have n1_ := Aside0.mk (Kd.R_elder' (by (with_reducible repeat (first | apply Kd.R_alloc | apply Kd.R_drewN | apply Kd.R_drew)); exact HO483.out) (Kd.R_base ho0) hb); have n2_ := Aside0.mk (Kd.R_lower (Kd.R_new' (Kd.R_new' ho0 (Kd.R_lt (by (with_reducible repeat (first | apply Kd.R_alloc | apply Kd.R_drewN | apply Kd.R_drew)); exact HO467.out))) (Kd.R_lt (by (with_reducible repeat (first | apply Kd.R_alloc | apply Kd.R_drewN | apply Kd.R_drew)); exact HO483.out))) (below_size (by repeat (first | (with_reducible first | exact HB.out | apply below_alloc | apply pw_below_drewN | apply below_drew1) | exact HB.out)))); have n3_ := Aside0.mk (below_step (by repeat (first | (with_reducible first | exact HB.out | apply below_alloc | apply pw_below_drewN | apply below_drew1) | exact HB.out)) hb); clear HO467; clear HO483; clear HB; have HO467 := n0_; have HO483 := n1_; have HO487 := n2_; have HB := n3_; clear n0_ n1_ n2_ n3_; (try clear hb); (try clear hb2); (try clear hk); (try clear hi); (try clear ho0)) | ((with_reducible refine gate_callee (f := 16) rfl ?_); refine goesL_ (some 91) rfl rfl Try.func16 (by kernel_rfl) rfl #[.int .i64 a0, .slice A1 l1.length c1] rfl (by (try simp only [List.map_toArray, List.map_cons, List.map_nil]); first | done | rfl | (simp only [List.length_drop, List.length_take]; rfl)) ?_; (with_reducible refine (steiner_Hang.calls k a0 _ _ l1 t488 t489 _ ?side1 ?side2 A16.out).mono ?_); (case side1 => repeat (first | exact (Kd.C_below HR1.out HB.out) | (with_reducible refine Kd.C_alloc ?_ _) | (with_reducible refine Kd.C_drewN ?_ _) | (with_reducible refine Kd.C_drew ?_))); (case side2 => exact HC1.out); rintro e w42 ⟨v490, rfl, ho0, hb⟩; refine ⟨_, rfl, ?_⟩; have n0_ := Aside0.mk (Kd.R_elder' (by (with_reducible repeat (first | apply Kd.R_alloc | apply Kd.R_drewN | apply Kd.R_drew)); exact HO467.out) (Kd.R_base ho0) hb); have n1_ := Aside0.mk (Kd.R_elder' (by (with_reducible repeat (first | apply Kd.R_alloc | apply Kd.R_drewN | apply Kd.R_drew)); exact HO483.out) (Kd.R_base ho0) hb); have n2_ := Aside0.mk (Kd.R_elder' (by (with_reducible repeat (first | apply Kd.R_alloc | apply Kd.R_drewN | apply Kd.R_drew)); exact HO487.out) (Kd.R_base ho0) hb); have n3_ := Aside0.mk (Kd.R_lower (Kd.R_new' (Kd.R_new' (Kd.R_new' ho0 (Kd.R_lt (by (with_reducible repeat (first | apply Kd.R_alloc | apply Kd.R_drewN | apply Kd.R_drew)); exact HO467.out))) (Kd.R_lt (by (with_reducible repeat (first | apply Kd.R_alloc | apply Kd.R_drewN | apply Kd.R_drew)); exact HO483.out))) (Kd.R_lt (by (with_reducible repeat (first | apply Kd.R_alloc | apply Kd.R_drewN | apply Kd.R_drew)); exact HO487.out))) (below_size (by repeat (first | (with_reducible first | exact HB.out | apply below_alloc | apply pw_below_drewN | apply below_drew1) | exact HB.out)))); have n4_ := Aside0.mk (below_step (by repeat (first | (with_reducible first | exact HB.out | apply below_alloc | apply pw_below_drewN | apply below_drew1) | exact HB.out)) hb); clear HO467; clear HO483; clear HO487; clear HB; have HO467 := n0_; have HO483 := n1_; have HO487 := n2_; have HO491 := n3_; have HB := n4_; clear n0_ n1_ n2_ n3_ n4_; (try clear hb); (try clear hb2); (try clear hk); (try clear hi); (try clear ho0)) | ((with_reducible refine gate_callee (f := 34) rfl ?_); refine goesL_ (some 97) rfl rfl Try.func34 (by kernel_rfl) rfl #[.int .i64 a0, .slice A1 l1.length c1] rfl (by (try simp only [List.map_toArray, List.map_cons, List.map_nil]); first | done | rfl | (simp only [List.length_drop, List.length_take]; rfl)) ?_; (with_reducible refine (medlarref09_Hang.calls k a0 _ _ l1 t492 t493 _ ?side1 ?side2 A17.out).mono ?_); (case side1 => repeat (first | exact (Kd.C_below HR1.out HB.out) | (with_reducible refine Kd.C_alloc ?_ _) | (with_reducible refine Kd.C_drewN ?_ _) | (with_reducible refine Kd.C_drew ?_))); (case side2 => exact HC1.out); rintro e w43 ⟨v494, rfl, ho0, hb⟩; refine ⟨_, rfl, ?_⟩; have n0_ := Aside0.mk (Kd.R_elder' (by (with_reducible repeat (first | apply Kd.R_alloc | apply Kd.R_drewN | apply Kd.R_drew)); exact HO467.out) (Kd.R_base ho0) hb); have n1_ := Aside0.mk (Kd.R_elder' (by (with_reducible repeat (first | apply Kd.R_alloc | apply Kd.R_drewN | apply Kd.R_drew)); exact HO483.out) (Kd.R_base ho0) hb); have n2_ := Aside0.mk (Kd.R_elder' (by (with_reducible repeat (first | apply Kd.R_alloc | apply Kd.R_drewN | apply Kd.R_drew)); exact HO487.out) (Kd.R_base ho0) hb); have n3_ := Aside0.mk (Kd.R_elder' (by (with_reducible repeat (first | apply Kd.R_alloc | apply Kd.R_drewN | apply Kd.R_drew)); exact HO491.out) (Kd.R_base ho0) hb); have n4_ := Aside0.mk (Kd.R_lower (Kd.R_new' (Kd.R_new' (Kd.R_new' (Kd.R_new' ho0 (Kd.R_lt (by (with_reducible repeat (first | apply Kd.R_alloc | apply Kd.R_drewN | apply Kd.R_drew)); exact HO467.out))) (Kd.R_lt (by (with_reducible repeat (first | apply Kd.R_alloc | apply Kd.R_drewN | apply Kd.R_drew)); exact HO483.out))) (Kd.R_lt (by (with_reducible repeat (first | apply Kd.R_alloc | apply Kd.R_drewN | apply Kd.R_drew)); exact HO487.out))) (Kd.R_lt (by (with_reducible repeat (first | apply Kd.R_alloc | apply Kd.R_drewN | apply Kd.R_drew)); exact HO491.out))) (below_size (by repeat (first | (with_reducible first | exact HB.out | apply below_alloc | apply pw_below_drewN | apply below_drew1) | exact HB.out)))); have n5_ := Aside0.mk (below_step (by repeat (first | (with_reducible first | exact HB.out | apply below_alloc | apply pw_below_drewN | apply below_drew1) | exact HB.out)) hb); clear HO467; clear HO483; clear HO487; clear HO491; clear HB; have HO467 := n0_; have HO483 := n1_; have HO487 := n2_; have HO491 := n3_; have HO495 := n4_; have HB := n5_; clear n0_ n1_ n2_ n3_ n4_ n5_; (try clear hb); (try clear hb2); (try clear hk); (try clear hi); (try clear ho0); obtain ⟨Ao44, co44, eo44⟩ := Kd.R_slice HO483.out; subst eo44; obtain ⟨Ao45, co45, eo45⟩ := Kd.R_slice HO487.out; subst eo45) | (go_at_call 35; (with_reducible refine (medlarref02_Same.calls k _ _ t480 _ _ t484 true _ ?side1 ?side2 ?side3 ?side4 A25.out).mono ?_); (case side1 => repeat (first | exact (Kd.R_reads' HO483.out).2.2 | (with_reducible refine Kd.C_alloc ?_ _) | (with_reducible refine Kd.C_drewN ?_ _) | (with_reducible refine Kd.C_drew ?_))); (case side2 => exact (Kd.R_reads' HO483.out).2.1); (case side3 => repeat (first | exact (Kd.R_reads' HO487.out).2.2 | (with_reducible refine Kd.C_alloc ?_ _) | (with_reducible refine Kd.C_drewN ?_ _) | (with_reducible refine Kd.C_drew ?_))); (case side4 => exact (Kd.R_reads' HO487.out).2.1); rintro e w' ⟨rfl, ⟨nd, rfl⟩⟩; obtain ⟨Ao46, co46, eo46⟩ := Kd.R_slice HO491.out; subst eo46; obtain ⟨Ao47, co47, eo47⟩ := Kd.R_slice HO495.out; subst eo47) | (go_at_call 35; (with_reducible refine (medlarref02_Same.calls k _ _ t488 _ _ t492 true _ ?side1 ?side2 ?side3 ?side4 A28.out).mono ?_); (case side1 => repeat (first | exact (Kd.R_reads' HO491.out).2.2 | (with_reducible refine Kd.C_alloc ?_ _) | (with_reducible refine Kd.C_drewN ?_ _) | (with_reducible refine Kd.C_drew ?_))); (case side2 => exact (Kd.R_reads' HO491.out).2.1); (case side3 => repeat (first | exact (Kd.R_reads' HO495.out).2.2 | (with_reducible refine Kd.C_alloc ?_ _) | (with_reducible refine Kd.C_drewN ?_ _) | (with_reducible refine Kd.C_drew ?_))); (case side4 => exact (Kd.R_reads' HO495.out).2.1); rintro e w' ⟨rfl, ⟨nd, rfl⟩⟩; obtain ⟨Ao48, co48, eo48⟩ := Kd.R_slice HO467.out; subst eo48) | (go_at_call 35; (with_reducible refine (medlarref02_Same.calls k _ _ l1 _ _ y465 t498 _ ?side1 ?side2 ?side3 ?side4 A31.out).mono ?_); (case side1 => repeat (first | exact (Kd.C_below HR1.out (by repeat (first | (with_reducible first | exact HB.out | apply below_alloc | apply pw_below_drewN | apply below_drew1) | exact HB.out))) | (with_reducible refine Kd.C_alloc ?_ _) | (with_reducible refine Kd.C_drewN ?_ _) | (with_reducible refine Kd.C_drew ?_))); (case side2 => exact HC1.out); (case side3 => repeat (first | exact (Kd.R_reads' HO467.out).2.2 | (with_reducible refine Kd.C_alloc ?_ _) | (with_reducible refine Kd.C_drewN ?_ _) | (with_reducible refine Kd.C_drew ?_))); (case side4 => exact (Kd.R_reads' HO467.out).2.1); rintro e w' ⟨rfl, ⟨nd, rfl⟩⟩))
                            go_ret
                            exact ⟨by first | rfl | (simp [errW_none, errW_some] <;> rfl) | (simp [*, errW_none, errW_some] <;> rfl), by repeat (first | (with_reducible first | exact HB.out | apply below_alloc | apply pw_below_drewN | apply below_drew1) | exact HB.out)⟩
                          · rw [if_neg c30] at H
                            have c30b0 : (t489 == t493) = false := beq_eq_false_iff_ne.mpr c30
                            have c30b1 : (t489 != t493) = true := bne_iff_ne.mpr c30
                            exact absurd ((Option.some.inj H).trans hT.out) Bool.false_ne_true
                        · replace c29 := Bool.eq_false_iff.mpr c29
                          subst c29
                          have H1 : (some false) = some r := by rw [if_neg (show ¬ (false = true) by decide)] at H; exact H
                          clear H
                          have H := H1
                          clear H1
                          exact absurd ((Option.some.inj H).trans hT.out) Bool.false_ne_true
                      · rw [if_neg c27] at H
                        have c27b0 : (t481 == t485) = false := beq_eq_false_iff_ne.mpr c27
                        have c27b1 : (t481 != t485) = true := bne_iff_ne.mpr c27
                        exact absurd ((Option.some.inj H).trans hT.out) Bool.false_ne_true
                    · replace c26 := Bool.eq_false_iff.mpr c26
                      subst c26
                      have H1 : (some false) = some r := by rw [if_neg (show ¬ (false = true) by decide)] at H; exact H
                      clear H
                      have H := H1
                      clear H1
                      exact absurd ((Option.some.inj H).trans hT.out) Bool.false_ne_true
                  · rw [if_neg c24] at H
                    have c24b0 : (t477 == t479) = false := beq_eq_false_iff_ne.mpr c24
                    have c24b1 : (t477 != t479) = true := bne_iff_ne.mpr c24
                    exact absurd ((Option.some.inj H).trans hT.out) Bool.false_ne_true
                · rw [if_neg c23] at H
                  have c23b0 : (t476 == t478) = false := beq_eq_false_iff_ne.mpr c23
                  have c23b1 : (t476 != t478) = true := bne_iff_ne.mpr c23
                  exact absurd ((Option.some.inj H).trans hT.out) Bool.false_ne_true
              · rw [if_neg c22] at H
                have c22b0 : (t473 == t475) = false := beq_eq_false_iff_ne.mpr c22
                have c22b1 : (t473 != t475) = true := bne_iff_ne.mpr c22
                exact absurd ((Option.some.inj H).trans hT.out) Bool.false_ne_true
            · rw [if_neg c21] at H
              have c21b0 : (t472 == t474) = false := beq_eq_false_iff_ne.mpr c21
              have c21b1 : (t472 != t474) = true := bne_iff_ne.mpr c21
              exact absurd ((Option.some.inj H).trans hT.out) Bool.false_ne_true
          · rw [if_neg c20] at H
            have c20b0 : (t469 == t471) = false := beq_eq_false_iff_ne.mpr c20
            have c20b1 : (t469 != t471) = true := bne_iff_ne.mpr c20
            exact absurd ((Option.some.inj H).trans hT.out) Bool.false_ne_true
        · rw [if_neg c19] at H
          have c19b0 : (t468 == t470) = false := by simpa using c19
          (try (have c19b1 : decide (t468 = t470) = false := by simpa using c19))
          (try (have c19b2 : (t468 == t470) = false := by simpa using c19))
          (try (have c19b3 : ¬ (t468 = t470) := by simpa using c19))
          clear c19
          exact absurd ((Option.some.inj H).trans hT.out) Bool.false_ne_true
      · replace c18 := Bool.eq_false_iff.mpr c18
        subst c18
        have H1 : (some false) = some r := by rw [if_neg (show ¬ (false = true) by decide)] at H; exact H
        clear H
        have H := H1
        clear H1
        exact absurd ((Option.some.inj H).trans hT.out) Bool.false_ne_true
    · rw [if_neg c7] at H
      exact absurd H (by simp)

/-- THE ONE PURE STATEMENT of medlarlaw09_SteinerDoes: yours. -/
def medlarlaw09_SteinerDoes.Pure : Prop := ∀ (a0 : Int) (l1 : List Int) (a2 : Int), (Lit.int .i64 a0).wf = true → l1.length ≤ maxLen → l1.length * 8 ≤ 140737488351232 → (∀ x ∈ l1, (Lit.int .u64 x).wf = true) → (Lit.int .u64 a2).wf = true → ∃ k, medlarlaw09_SteinerDoes.f k a0 l1 a2 = some true
theorem medlarlaw09_SteinerDoes.walk (P : medlarlaw09_SteinerDoes.Pure) (a0 : Int) (a1 : Option Addr) (len1 cap1 : Nat) (z1 : List Int) (a2 : Int) (w : World) (w0 : (Lit.int .i64 a0).wf = true) (w1 : (a1 = none ∧ len1 = 0 ∧ cap1 = 0 ∧ z1 = []) ∨ ∃ x, a1 = some x ∧ len1 ≤ cap1 ∧ cap1 ≤ maxLen ∧ z1.length = cap1 ∧ (∀ i, i < z1.length → w.cell? (x.add i) = some (.int .u64 (z1.getD i 0))) ∧ ∀ n ∈ z1, (Lit.int .u64 n).wf = true) (y1 : len1 * 8 ≤ 140737488351232) (w2 : (Lit.int .u64 a2).wf = true) :
    Calls Try.prog 9 #[.int .i64 a0, .slice a1 len1 cap1, .int .u64 a2] w fun e w' => e = .returned (.bool true) ∧ Below w.heap.size w w' := by
  obtain ⟨l1, rfl, hr1, hm1, hw1, hc1⟩ := ReadsInt.ofRowC w1
  obtain ⟨k, h⟩ := P a0 l1 a2 w0 hm1 y1 hw1 w2
  refine (medlarlaw09_SteinerDoes.calls k a0 _ _ l1 a2 true w (Kd.C_of_reads (d := (0 : Int)) (h1 := fun _ => rfl) hr1) hc1 h ⟨rfl⟩).mono ?_
  rintro e w' ⟨rfl, hd⟩
  exact ⟨rfl, hd⟩

end Go.Proofs.Ytoikjfcdpiikbaa.MP
