-- written by a program of this session (wip/tools/mprint.sh) for this seat
import Derived.Test.YtccmoohcpaohmaaMPx0
import Derived.Test.YtccmoohcpaohmaaMPx2
import Derived.Test.YtccmoohcpaohmaaMPx8
import Derived.Test.YtccmoohcpaohmaaMPx15
namespace Go.Proofs.Ytccmoohcpaohmaa.MP
open Go.RowKit Go.Proofs.YtccmoohcpaohmaaW.PrintWords Go.Proofs.YtccmoohcpaohmaaW.PrintLast Go.Proofs.YtccmoohcpaohmaaW.PrintMore
attribute [local go_sem] max2_int min2_int max_two min_two max_three min_three max_four min_four   -- for this text's walks alone
set_option linter.unusedVariables false
set_option linter.unusedSimpArgs false

/-! ### leaf_Check: function 74 -/
mutual
def leaf_Check.j0 : Nat → Int → List Int → Bool → Option (Int)
  | 0, _, _, _ => none
  | k + 1, x0, x1, x14 => if x14 = true then (some 1) else (leaf_Check.l0 k x0 x1 x1 (x1.length : Int) 0)
def leaf_Check.l0 : Nat → Int → List Int → List Int → Int → Int → Option (Int)
  | 0, _, _, _, _, _ => none
  | k + 1, x0, x1, x15, x16, x17 => if x17 < x16 then (if 0 ≤ x17 then (if x17 < (x15.length : Int) then ((leaf_is.f x0 (rd x15 x17)).bind fun t355 => (if t355 = true then (if x17 > 0 then (if 0 ≤ (wrap64 (x17 - 1)) then (if (wrap64 (x17 - 1)) < (x1.length : Int) then (if (rd x1 (wrap64 (x17 - 1))) ≥ (rd x15 x17) then (some 1) else (leaf_Check.l0 k x0 x1 x15 x16 (wrap64 (x17 + 1)))) else (none)) else (none)) else (leaf_Check.l0 k x0 x1 x15 x16 (wrap64 (x17 + 1)))) else (some 1))) else (none)) else (none)) else (some 0)
end
def leaf_Check.f (k : Nat) (a0 : Int) (l1 : List Int) : Option (Int) := (node_Check.f k a0 1).bind fun t353 => (if t353 = 0 then (leaf_Check.j0 k a0 l1 (decide ((l1.length : Int) > 1024))) else (leaf_Check.j0 k a0 l1 true))
theorem leaf_Check.mono_l : ∀ k, (∀ y0 y1 y2, LeO (leaf_Check.j0 k y0 y1 y2) (leaf_Check.j0 (k + 1) y0 y1 y2)) ∧ (∀ y0 y1 y2 y3 y4, LeO (leaf_Check.l0 k y0 y1 y2 y3 y4) (leaf_Check.l0 (k + 1) y0 y1 y2 y3 y4))
  | 0 => ⟨fun _ _ _ r h => by simp [leaf_Check.j0] at h, fun _ _ _ _ _ r h => by simp [leaf_Check.l0] at h⟩
  | k + 1 => by
    obtain ⟨ih0, ih1⟩ := leaf_Check.mono_l k
    refine ⟨?_, ?_⟩
    · intro y0 y1 y2
      unfold leaf_Check.j0
      repeat' first
      | (with_reducible exact ih0 _ _ _)
      | (with_reducible exact ih1 _ _ _ _ _)
      | (with_reducible exact node_Check.mono _ _ _)
      | (with_reducible exact LeO.refl _)
      | (with_reducible exact LeO.none _)
      | (with_reducible refine LeO.ite ?_ ?_)
      | (with_reducible refine LeO.bind ?_ (fun _ => ?_))
      | exact ih0 _ _ _
      | exact ih1 _ _ _ _ _
      | exact node_Check.mono _ _ _
      | exact LeO.none _
      | refine LeO.ite ?_ ?_
      | refine LeO.bind ?_ (fun _ => ?_)
    · intro y0 y1 y2 y3 y4
      unfold leaf_Check.l0
      repeat' first
      | (with_reducible exact ih0 _ _ _)
      | (with_reducible exact ih1 _ _ _ _ _)
      | (with_reducible exact node_Check.mono _ _ _)
      | (with_reducible exact LeO.refl _)
      | (with_reducible exact LeO.none _)
      | (with_reducible refine LeO.ite ?_ ?_)
      | (with_reducible refine LeO.bind ?_ (fun _ => ?_))
      | exact ih0 _ _ _
      | exact ih1 _ _ _ _ _
      | exact node_Check.mono _ _ _
      | exact LeO.none _
      | refine LeO.ite ?_ ?_
      | refine LeO.bind ?_ (fun _ => ?_)
theorem leaf_Check.mono : ∀ a0 a1 k, LeO (leaf_Check.f k a0 a1) (leaf_Check.f (k + 1) a0 a1) := by
  intro a0 a1 k
  obtain ⟨ih0, ih1⟩ := leaf_Check.mono_l k
  unfold leaf_Check.f
  repeat' first
      | (with_reducible exact ih0 _ _ _)
      | (with_reducible exact ih1 _ _ _ _ _)
      | (with_reducible exact node_Check.mono _ _ _)
      | (with_reducible exact LeO.refl _)
      | (with_reducible exact LeO.none _)
      | (with_reducible refine LeO.ite ?_ ?_)
      | (with_reducible refine LeO.bind ?_ (fun _ => ?_))
      | exact ih0 _ _ _
      | exact ih1 _ _ _ _ _
      | exact node_Check.mono _ _ _
      | exact LeO.none _
      | refine LeO.ite ?_ ?_
      | refine LeO.bind ?_ (fun _ => ?_)
set_option maxHeartbeats 8000000 in
set_option maxRecDepth 100000 in
theorem leaf_Check.calls (k : Nat) (a0 : Int) (A1 : Option Addr) (c1 : Nat) (l1 : List Int) (r : Int) (w : World) (hr1 : Kd.C (Kd.int .u64) w A1 l1.length l1) (hc1 : l1.length ≤ c1) (h : leaf_Check.f k a0 l1 = some r) :
    Calls Try.prog 74 #[.int .i64 a0, .slice A1 l1.length c1] w fun e w' => e = .returned (.int .i64 r) ∧ Drawn0 w w' := by
  have HR1 := Aside0.mk hr1
  have HC1 := Aside0.mk hc1
  clear hr1 hc1
  have H : ((node_Check.f k a0 1).bind fun t353 => (if t353 = 0 then (leaf_Check.j0 k a0 l1 (decide ((l1.length : Int) > 1024))) else (leaf_Check.j0 k a0 l1 true))) = some r := h
  clear h
  have HC3 := Aside0.mk H
  clear H
  go_enter Try.func74, Try.ntmps74
  go_upto_region 1 with (fail)
  go_cut [14] (fun v14 wc => ∃ (kq : Nat) (x14_2 : Bool), v14 = .bool x14_2 ∧ Aside0 (leaf_Check.j0 kq a0 l1 x14_2 = some r) ∧ Aside0 (kq ≤ k) ∧ Drawn0 w wc)
  case first =>
    have H := HC3.out
    clear HC3
    replace H := Option.bind_eq_some_iff.mp H
    obtain ⟨t353, A40, H⟩ := H
    replace H : (if t353 = 0 then (leaf_Check.j0 k a0 l1 (decide ((l1.length : Int) > 1024))) else (leaf_Check.j0 k a0 l1 true)) = some r := H
    have A4 := Aside0.mk A40
    clear A40
    by_cases c5 : t353 = 0
    · rw [if_pos c5] at H
      have c5b0 : (t353 == 0) = true := beq_iff_eq.mpr c5
      have c5b1 : (t353 != 0) = false := bne_eq_false_iff_eq.mpr c5
      clear c5
      (first | rw [c5b0] | (simp only [i64_w, i32_w]; rw [c5b0]) | skip)
      have H' := Aside0.mk H
      clear H
      go_wp2_with (first | ((with_reducible refine gate_callee (f := 42) rfl ?_); refine goesL_ (some 8) rfl rfl Try.func42 (by kernel_rfl) rfl #[.int .i64 a0, .int .u64 1] rfl (by (try simp only [List.map_toArray, List.map_cons, List.map_nil]); first | done | rfl | (simp only [List.length_drop, List.length_take]; rfl)) ?_; (with_reducible refine (node_Check.calls k a0 1 t353 _ A4.out).mono ?_); rintro e w' ⟨rfl, ⟨nd, rfl⟩⟩; refine ⟨_, rfl, ?_⟩))
      go_meet
      case rel => exact ⟨_, (decide ((l1.length : Int) > 1024)), (by first | rfl | (simp; done) | (simp [*]; done)), H', ⟨by first | omega | exact Nat.le_refl _⟩, by repeat (first | exact Drawn0.refl _ | apply Drawn0.step)⟩
    · rw [if_neg c5] at H
      have c5b0 : (t353 == 0) = false := beq_eq_false_iff_ne.mpr c5
      have c5b1 : (t353 != 0) = true := bne_iff_ne.mpr c5
      (first | rw [c5b0] | (simp only [i64_w, i32_w]; rw [c5b0]) | skip)
      have H' := Aside0.mk H
      clear H
      go_wp2_with (first | ((with_reducible refine gate_callee (f := 42) rfl ?_); refine goesL_ (some 8) rfl rfl Try.func42 (by kernel_rfl) rfl #[.int .i64 a0, .int .u64 1] rfl (by (try simp only [List.map_toArray, List.map_cons, List.map_nil]); first | done | rfl | (simp only [List.length_drop, List.length_take]; rfl)) ?_; (with_reducible refine (node_Check.calls k a0 1 t353 _ A4.out).mono ?_); rintro e w' ⟨rfl, ⟨nd, rfl⟩⟩; refine ⟨_, rfl, ?_⟩))
      go_meet
      case rel => exact ⟨_, (true), (by first | rfl | (simp; done) | (simp [*]; done)), H', ⟨by first | omega | exact Nat.le_refl _⟩, by repeat (first | exact Drawn0.refl _ | apply Drawn0.step)⟩
  case rest =>
    clear HC3
    try clear c1
    try clear p2
    try clear c4
    try clear c5
    try clear c5b0
    try clear c5b1
    obtain ⟨kq, x14_2, rfl, HA, HJ2, ⟨mc2, rfl⟩⟩ := hcut
    cases kq with
    | zero => exact absurd HA.out (by simp [leaf_Check.j0])
    | succ kj2 =>
      have H := HA.out
      clear HA
      simp only [leaf_Check.j0] at H
      by_cases c6 : x14_2 = true
      · subst c6
        have H1 : (some 1) = some r := by rw [if_pos rfl] at H; exact H
        clear H
        have H := H1
        clear H1
        obtain rfl := Option.some.inj H
        go_wp2
        go_ret
        exact ⟨by first | rfl | (simp; done) | (simp [*]; done), by repeat (first | exact Drawn0.refl _ | apply Drawn0.step)⟩
      · replace c6 := Bool.eq_false_iff.mpr c6
        subst c6
        have H1 : (leaf_Check.l0 kj2 a0 l1 l1 (l1.length : Int) 0) = some r := by rw [if_neg (show ¬ (false = true) by decide)] at H; exact H
        clear H
        have H := H1
        clear H1
        have H' := Aside0.mk H
        clear H
        go_wp2
        go_loopg [17] kj2 (fun kq v17 w' => ∃ (x17_2 : Int), v17 = .int .i64 x17_2 ∧ Aside0 (leaf_Check.l0 kq a0 l1 l1 (l1.length : Int) x17_2 = some r) ∧ Aside0 (kq ≤ kj2) ∧ Drawn0 w w')
        case atStart => exact ⟨(0), (by first | rfl | (simp; done) | (simp [*]; done)), H', ⟨Nat.le_refl _⟩, by repeat (first | exact Drawn0.refl _ | apply Drawn0.step)⟩
        case round =>
          clear H'
          try clear c1
          try clear c2
          try clear p2
          try clear c4
          try clear c5
          try clear c5b0
          try clear c5b1
          try clear c6
          try clear p2
          obtain ⟨x17_2, rfl, HA, HK2, ⟨m2, rfl⟩⟩ := hrel
          cases gk with
          | zero => exact absurd HA.out (by simp [leaf_Check.l0])
          | succ k2 =>
            have H := HA.out
            clear HA
            simp only [leaf_Check.l0] at H
            by_cases c7 : x17_2 < (l1.length : Int)
            · rw [if_pos c7] at H
              have c7b0 : decide (x17_2 < (l1.length : Int)) = true := decide_eq_true c7
              clear c7
              by_cases c8 : 0 ≤ x17_2
              · rw [if_pos c8] at H
                have c8b0 : decide (0 ≤ x17_2) = true := decide_eq_true c8
                clear c8
                by_cases c9 : x17_2 < (l1.length : Int)
                · rw [if_pos c9] at H
                  have c9b0 : decide (x17_2 < (l1.length : Int)) = true := decide_eq_true c9
                  clear c9
                  replace H := Option.bind_eq_some_iff.mp H
                  obtain ⟨t355, A100, H⟩ := H
                  replace H : (if t355 = true then (if x17_2 > 0 then (if 0 ≤ (wrap64 (x17_2 - 1)) then (if (wrap64 (x17_2 - 1)) < (l1.length : Int) then (if (rd l1 (wrap64 (x17_2 - 1))) ≥ (rd l1 x17_2) then (some 1) else (leaf_Check.l0 k2 a0 l1 l1 (l1.length : Int) (wrap64 (x17_2 + 1)))) else (none)) else (none)) else (leaf_Check.l0 k2 a0 l1 l1 (l1.length : Int) (wrap64 (x17_2 + 1)))) else (some 1)) = some r := H
                  have A10 := Aside0.mk A100
                  clear A100
                  by_cases c11 : t355 = true
                  · subst c11
                    have H1 : (if x17_2 > 0 then (if 0 ≤ (wrap64 (x17_2 - 1)) then (if (wrap64 (x17_2 - 1)) < (l1.length : Int) then (if (rd l1 (wrap64 (x17_2 - 1))) ≥ (rd l1 x17_2) then (some 1) else (leaf_Check.l0 k2 a0 l1 l1 (l1.length : Int) (wrap64 (x17_2 + 1)))) else (none)) else (none)) else (leaf_Check.l0 k2 a0 l1 l1 (l1.length : Int) (wrap64 (x17_2 + 1)))) = some r := by rw [if_pos rfl] at H; exact H
                    clear H
                    have H := H1
                    clear H1
                    by_cases c12 : x17_2 > 0
                    · rw [if_pos c12] at H
                      have c12b0 : decide (0 < x17_2) = true := decide_eq_true c12
                      clear c12
                      obtain ⟨ji13, hji13⟩ : ∃ j_ : Int, (wrap64 (x17_2 - 1)) = j_ := ⟨_, rfl⟩
                      replace H : (if 0 ≤ (ji13) then (if (ji13) < (l1.length : Int) then (if (rd l1 (ji13)) ≥ (rd l1 x17_2) then (some 1) else (leaf_Check.l0 k2 a0 l1 l1 (l1.length : Int) (wrap64 (x17_2 + 1)))) else (none)) else (none)) = some r := by first | (rw [hji13] at H; exact H) | (simp only [hji13] at H ⊢; exact H)
                      (try rw [hji13] at A10)
                      have hji13w : (IntKind.i64.wrap (x17_2 - 1)) = ji13 := (i64_w _).trans hji13
                      by_cases c14 : 0 ≤ (ji13)
                      · rw [if_pos c14] at H
                        have c14b0 : decide (0 ≤ (ji13)) = true := decide_eq_true c14
                        clear c14
                        by_cases c15 : (ji13) < (l1.length : Int)
                        · rw [if_pos c15] at H
                          have c15b0 : decide ((ji13) < (l1.length : Int)) = true := decide_eq_true c15
                          clear c15
                          by_cases c16 : (rd l1 (ji13)) ≥ (rd l1 x17_2)
                          · rw [if_pos c16] at H
                            have c16b0 : decide ((rd l1 x17_2) ≤ (rd l1 (ji13))) = true := decide_eq_true c16
                            clear c16
                            obtain rfl := Option.some.inj H
                            have p354 : 0 ≤ (x17_2 : Int) := of_decide_eq_true (by first | (with_reducible assumption) | assumption)
                            have q354 : x17_2 < (l1.length : Int) := of_decide_eq_true (by first | (with_reducible assumption) | assumption)
                            obtain ⟨ad354, e354, hx354_0⟩ := Kd.at_int HR1.out x17_2 p354 q354
                            cases e354
                            replace p354 := eq_true p354
                            replace q354 := eq_true q354
                            go_wp2_with (first | ((with_reducible refine gate_callee (f := 50) rfl ?_); refine goesL_ (some 24) rfl rfl Try.func50 (by kernel_rfl) rfl #[.int .i64 a0, .int .u64 (rd l1 x17_2)] rfl (by (try simp only [List.map_toArray, List.map_cons, List.map_nil]); first | done | rfl | (simp only [List.length_drop, List.length_take]; rfl)) ?_; (with_reducible refine (leaf_is.calls a0 (rd l1 x17_2) true _ A10.out).mono ?_); rintro e w' ⟨rfl, ⟨nd, rfl⟩⟩; refine ⟨_, rfl, ?_⟩; have p356 : 0 ≤ ((ji13) : Int) := of_decide_eq_true (by first | (with_reducible assumption) | assumption); have q356 : (ji13) < (l1.length : Int) := of_decide_eq_true (by first | (with_reducible assumption) | assumption); obtain ⟨ad356, e356, hx356_0⟩ := Kd.at_int HR1.out (ji13) p356 q356; obtain rfl : ad354 = ad356 := (by injection e356); replace p356 := eq_true p356; replace q356 := eq_true q356))
                            go_ret
                            exact ⟨by first | rfl | (simp; done) | (simp only [← hji13] <;> (first | rfl | simp)) | (simp [*]; done), by repeat (first | exact Drawn0.refl _ | apply Drawn0.step)⟩
                          · rw [if_neg c16] at H
                            have c16b0 : decide ((rd l1 x17_2) ≤ (rd l1 (ji13))) = false := decide_eq_false c16
                            clear c16
                            have H' := Aside0.mk H
                            clear H
                            have p354 : 0 ≤ (x17_2 : Int) := of_decide_eq_true (by first | (with_reducible assumption) | assumption)
                            have q354 : x17_2 < (l1.length : Int) := of_decide_eq_true (by first | (with_reducible assumption) | assumption)
                            obtain ⟨ad354, e354, hx354_0⟩ := Kd.at_int HR1.out x17_2 p354 q354
                            cases e354
                            replace p354 := eq_true p354
                            replace q354 := eq_true q354
                            go_wp2_with (first | ((with_reducible refine gate_callee (f := 50) rfl ?_); refine goesL_ (some 24) rfl rfl Try.func50 (by kernel_rfl) rfl #[.int .i64 a0, .int .u64 (rd l1 x17_2)] rfl (by (try simp only [List.map_toArray, List.map_cons, List.map_nil]); first | done | rfl | (simp only [List.length_drop, List.length_take]; rfl)) ?_; (with_reducible refine (leaf_is.calls a0 (rd l1 x17_2) true _ A10.out).mono ?_); rintro e w' ⟨rfl, ⟨nd, rfl⟩⟩; refine ⟨_, rfl, ?_⟩; have p356 : 0 ≤ ((ji13) : Int) := of_decide_eq_true (by first | (with_reducible assumption) | assumption); have q356 : (ji13) < (l1.length : Int) := of_decide_eq_true (by first | (with_reducible assumption) | assumption); obtain ⟨ad356, e356, hx356_0⟩ := Kd.at_int HR1.out (ji13) p356 q356; obtain rfl : ad354 = ad356 := (by injection e356); replace p356 := eq_true p356; replace q356 := eq_true q356))
                            go_roundg k2
                            case measure => have := HJ2.out; have := HK2.out; omega
                            case rel => exact ⟨(wrap64 (x17_2 + 1)), (by first | rfl | (simp; done) | (simp [*]; done)), H', ⟨by have := HJ2.out; have := HK2.out; omega⟩, by repeat (first | exact Drawn0.refl _ | apply Drawn0.step)⟩
                        · rw [if_neg c15] at H
                          exact absurd H (by simp)
                      · rw [if_neg c14] at H
                        exact absurd H (by simp)
                    · rw [if_neg c12] at H
                      have c12b0 : decide (0 < x17_2) = false := decide_eq_false c12
                      clear c12
                      have H' := Aside0.mk H
                      clear H
                      have p354 : 0 ≤ (x17_2 : Int) := of_decide_eq_true (by first | (with_reducible assumption) | assumption)
                      have q354 : x17_2 < (l1.length : Int) := of_decide_eq_true (by first | (with_reducible assumption) | assumption)
                      obtain ⟨ad354, e354, hx354_0⟩ := Kd.at_int HR1.out x17_2 p354 q354
                      cases e354
                      replace p354 := eq_true p354
                      replace q354 := eq_true q354
                      go_wp2_with (first | ((with_reducible refine gate_callee (f := 50) rfl ?_); refine goesL_ (some 24) rfl rfl Try.func50 (by kernel_rfl) rfl #[.int .i64 a0, .int .u64 (rd l1 x17_2)] rfl (by (try simp only [List.map_toArray, List.map_cons, List.map_nil]); first | done | rfl | (simp only [List.length_drop, List.length_take]; rfl)) ?_; (with_reducible refine (leaf_is.calls a0 (rd l1 x17_2) true _ A10.out).mono ?_); rintro e w' ⟨rfl, ⟨nd, rfl⟩⟩; refine ⟨_, rfl, ?_⟩))
                      go_roundg k2
                      case measure => have := HJ2.out; have := HK2.out; omega
                      case rel => exact ⟨(wrap64 (x17_2 + 1)), (by first | rfl | (simp; done) | (simp [*]; done)), H', ⟨by have := HJ2.out; have := HK2.out; omega⟩, by repeat (first | exact Drawn0.refl _ | apply Drawn0.step)⟩
                  · replace c11 := Bool.eq_false_iff.mpr c11
                    subst c11
                    have H1 : (some 1) = some r := by rw [if_neg (show ¬ (false = true) by decide)] at H; exact H
                    clear H
                    have H := H1
                    clear H1
                    obtain rfl := Option.some.inj H
                    have p354 : 0 ≤ (x17_2 : Int) := of_decide_eq_true (by first | (with_reducible assumption) | assumption)
                    have q354 : x17_2 < (l1.length : Int) := of_decide_eq_true (by first | (with_reducible assumption) | assumption)
                    obtain ⟨ad354, e354, hx354_0⟩ := Kd.at_int HR1.out x17_2 p354 q354
                    cases e354
                    replace p354 := eq_true p354
                    replace q354 := eq_true q354
                    go_wp2_with (first | ((with_reducible refine gate_callee (f := 50) rfl ?_); refine goesL_ (some 24) rfl rfl Try.func50 (by kernel_rfl) rfl #[.int .i64 a0, .int .u64 (rd l1 x17_2)] rfl (by (try simp only [List.map_toArray, List.map_cons, List.map_nil]); first | done | rfl | (simp only [List.length_drop, List.length_take]; rfl)) ?_; (with_reducible refine (leaf_is.calls a0 (rd l1 x17_2) false _ A10.out).mono ?_); rintro e w' ⟨rfl, ⟨nd, rfl⟩⟩; refine ⟨_, rfl, ?_⟩))
                    go_ret
                    exact ⟨by first | rfl | (simp; done) | (simp [*]; done), by repeat (first | exact Drawn0.refl _ | apply Drawn0.step)⟩
                · rw [if_neg c9] at H
                  exact absurd H (by simp)
              · rw [if_neg c8] at H
                exact absurd H (by simp)
            · rw [if_neg c7] at H
              have c7b0 : decide (x17_2 < (l1.length : Int)) = false := decide_eq_false c7
              clear c7
              obtain rfl := Option.some.inj H
              go_wp2
              go_ret
              exact ⟨by first | rfl | (simp; done) | (simp [*]; done), by repeat (first | exact Drawn0.refl _ | apply Drawn0.step)⟩

/-! ### cmp_Less_uint64: function 76 -/
def cmp_Less_uint64.f (a0 : Int) (a1 : Int) : Option (Bool) := (cmp_isNaN_uint64.f a0).bind fun t357 => (if t357 = true then ((cmp_isNaN_uint64.f a1).bind fun t358 => (if t358 = true then (some (decide (a0 < a1))) else (some true))) else (some (decide (a0 < a1))))
set_option maxHeartbeats 8000000 in
set_option maxRecDepth 100000 in
theorem cmp_Less_uint64.calls (a0 : Int) (a1 : Int) (r : Bool) (w : World) (h : cmp_Less_uint64.f a0 a1 = some r) :
    Calls Try.prog 76 #[.int .u64 a0, .int .u64 a1] w fun e w' => e = .returned (.bool r) ∧ Drawn0 w w' := by
  have H : ((cmp_isNaN_uint64.f a0).bind fun t357 => (if t357 = true then ((cmp_isNaN_uint64.f a1).bind fun t358 => (if t358 = true then (some (decide (a0 < a1))) else (some true))) else (some (decide (a0 < a1))))) = some r := h
  clear h
  replace H := Option.bind_eq_some_iff.mp H
  obtain ⟨t357, A30, H⟩ := H
  replace H : (if t357 = true then ((cmp_isNaN_uint64.f a1).bind fun t358 => (if t358 = true then (some (decide (a0 < a1))) else (some true))) else (some (decide (a0 < a1)))) = some r := H
  have A3 := Aside0.mk A30
  clear A30
  by_cases c4 : t357 = true
  · subst c4
    have H1 : ((cmp_isNaN_uint64.f a1).bind fun t358 => (if t358 = true then (some (decide (a0 < a1))) else (some true))) = some r := by rw [if_pos rfl] at H; exact H
    clear H
    have H := H1
    clear H1
    replace H := Option.bind_eq_some_iff.mp H
    obtain ⟨t358, A50, H⟩ := H
    replace H : (if t358 = true then (some (decide (a0 < a1))) else (some true)) = some r := H
    have A5 := Aside0.mk A50
    clear A50
    by_cases c6 : t358 = true
    · subst c6
      have H1 : (some (decide (a0 < a1))) = some r := by rw [if_pos rfl] at H; exact H
      clear H
      have H := H1
      clear H1
      obtain rfl := Option.some.inj H
      go_enter Try.func76, Try.ntmps76
      go_wp2_with (first | ((with_reducible refine gate_callee (f := 68) rfl ?_); refine goesL_ (some 6) rfl rfl Try.func68 (by kernel_rfl) rfl #[.int .u64 a0] rfl (by (try simp only [List.map_toArray, List.map_cons, List.map_nil]); first | done | rfl | (simp only [List.length_drop, List.length_take]; rfl)) ?_; (with_reducible refine (cmp_isNaN_uint64.calls a0 true _ A3.out).mono ?_); rintro e w' ⟨rfl, ⟨nd, rfl⟩⟩; refine ⟨_, rfl, ?_⟩) | (go_at_call 68; (with_reducible refine (cmp_isNaN_uint64.calls a1 true _ A5.out).mono ?_); rintro e w' ⟨rfl, ⟨nd, rfl⟩⟩))
      go_ret
      exact ⟨by first | rfl | (simp; done) | (simp [*]; done), by repeat (first | exact Drawn0.refl _ | apply Drawn0.step)⟩
    · replace c6 := Bool.eq_false_iff.mpr c6
      subst c6
      have H1 : (some true) = some r := by rw [if_neg (show ¬ (false = true) by decide)] at H; exact H
      clear H
      have H := H1
      clear H1
      obtain rfl := Option.some.inj H
      go_enter Try.func76, Try.ntmps76
      go_wp2_with (first | ((with_reducible refine gate_callee (f := 68) rfl ?_); refine goesL_ (some 6) rfl rfl Try.func68 (by kernel_rfl) rfl #[.int .u64 a0] rfl (by (try simp only [List.map_toArray, List.map_cons, List.map_nil]); first | done | rfl | (simp only [List.length_drop, List.length_take]; rfl)) ?_; (with_reducible refine (cmp_isNaN_uint64.calls a0 true _ A3.out).mono ?_); rintro e w' ⟨rfl, ⟨nd, rfl⟩⟩; refine ⟨_, rfl, ?_⟩) | (go_at_call 68; (with_reducible refine (cmp_isNaN_uint64.calls a1 false _ A5.out).mono ?_); rintro e w' ⟨rfl, ⟨nd, rfl⟩⟩))
      go_ret
      exact ⟨by first | rfl | (simp; done) | (simp [*]; done), by repeat (first | exact Drawn0.refl _ | apply Drawn0.step)⟩
  · replace c4 := Bool.eq_false_iff.mpr c4
    subst c4
    have H1 : (some (decide (a0 < a1))) = some r := by rw [if_neg (show ¬ (false = true) by decide)] at H; exact H
    clear H
    have H := H1
    clear H1
    obtain rfl := Option.some.inj H
    go_enter Try.func76, Try.ntmps76
    go_wp2_with (first | ((with_reducible refine gate_callee (f := 68) rfl ?_); refine goesL_ (some 6) rfl rfl Try.func68 (by kernel_rfl) rfl #[.int .u64 a0] rfl (by (try simp only [List.map_toArray, List.map_cons, List.map_nil]); first | done | rfl | (simp only [List.length_drop, List.length_take]; rfl)) ?_; (with_reducible refine (cmp_isNaN_uint64.calls a0 false _ A3.out).mono ?_); rintro e w' ⟨rfl, ⟨nd, rfl⟩⟩; refine ⟨_, rfl, ?_⟩))
    go_ret
    exact ⟨by first | rfl | (simp; done) | (simp [*]; done), by repeat (first | exact Drawn0.refl _ | apply Drawn0.step)⟩

/-! ### slices_isNaN_uint64: function 77 -/
def slices_isNaN_uint64.f (a0 : Int) : Option (Bool) := some (a0 != a0)
set_option maxHeartbeats 8000000 in
set_option maxRecDepth 100000 in
theorem slices_isNaN_uint64.calls (a0 : Int) (r : Bool) (w : World) (h : slices_isNaN_uint64.f a0 = some r) :
    Calls Try.prog 77 #[.int .u64 a0] w fun e w' => e = .returned (.bool r) ∧ Drawn0 w w' := by
  have H : (some (a0 != a0)) = some r := h
  clear h
  obtain rfl := Option.some.inj H
  go_enter Try.func77, Try.ntmps77
  go_wp2
  go_ret
  exact ⟨by first | rfl | (simp; done) | (simp [*]; done), by repeat (first | exact Drawn0.refl _ | apply Drawn0.step)⟩

/-! ### slices_BinarySearch_uint64_uint64: function 75 -/
def slices_BinarySearch_uint64_uint64.l0 : Nat → List Int → Int → Int → Int → Int → Option (Int × Bool)
  | 0, _, _, _, _, _ => none
  | k + 1, x0, x1, x6, x7, x8 => if x7 < x8 then (if 0 ≤ (wrap64 ((IntKind.u64.wrap (wrap64 (x7 + x8))) / 2)) then (if (wrap64 ((IntKind.u64.wrap (wrap64 (x7 + x8))) / 2)) < (x0.length : Int) then ((cmp_Less_uint64.f (rd x0 (wrap64 ((IntKind.u64.wrap (wrap64 (x7 + x8))) / 2))) x1).bind fun t360 => (if t360 = true then (slices_BinarySearch_uint64_uint64.l0 k x0 x1 x6 (wrap64 ((wrap64 ((IntKind.u64.wrap (wrap64 (x7 + x8))) / 2)) + 1)) x8) else (slices_BinarySearch_uint64_uint64.l0 k x0 x1 x6 x7 (wrap64 ((IntKind.u64.wrap (wrap64 (x7 + x8))) / 2))))) else (none)) else (none)) else (if x7 < x6 then (if 0 ≤ x7 then (if x7 < (x0.length : Int) then (if (rd x0 x7) = x1 then (some (x7, true)) else ((slices_isNaN_uint64.f (rd x0 x7)).bind fun t363 => (if t363 = true then ((slices_isNaN_uint64.f x1).bind fun t364 => (some (x7, t364))) else (some (x7, false))))) else (none)) else (none)) else (some (x7, false)))
def slices_BinarySearch_uint64_uint64.f (k : Nat) (l0 : List Int) (a1 : Int) : Option (Int × Bool) := slices_BinarySearch_uint64_uint64.l0 k l0 a1 (l0.length : Int) 0 (l0.length : Int)
theorem slices_BinarySearch_uint64_uint64.mono_l : ∀ k, (∀ y0 y1 y2 y3 y4, LeO (slices_BinarySearch_uint64_uint64.l0 k y0 y1 y2 y3 y4) (slices_BinarySearch_uint64_uint64.l0 (k + 1) y0 y1 y2 y3 y4))
  | 0 => fun _ _ _ _ _ r h => by simp [slices_BinarySearch_uint64_uint64.l0] at h
  | k + 1 => by
    have ih0 := slices_BinarySearch_uint64_uint64.mono_l k
    · intro y0 y1 y2 y3 y4
      unfold slices_BinarySearch_uint64_uint64.l0
      repeat' first
      | (with_reducible exact ih0 _ _ _ _ _)
      | (with_reducible exact LeO.refl _)
      | (with_reducible exact LeO.none _)
      | (with_reducible refine LeO.ite ?_ ?_)
      | (with_reducible refine LeO.bind ?_ (fun _ => ?_))
      | exact ih0 _ _ _ _ _
      | exact LeO.none _
      | refine LeO.ite ?_ ?_
      | refine LeO.bind ?_ (fun _ => ?_)
theorem slices_BinarySearch_uint64_uint64.mono : ∀ a0 a1 k, LeO (slices_BinarySearch_uint64_uint64.f k a0 a1) (slices_BinarySearch_uint64_uint64.f (k + 1) a0 a1) := by
  intro a0 a1 k
  have ih0 := slices_BinarySearch_uint64_uint64.mono_l k
  unfold slices_BinarySearch_uint64_uint64.f
  repeat' first
      | (with_reducible exact ih0 _ _ _ _ _)
      | (with_reducible exact LeO.refl _)
      | (with_reducible exact LeO.none _)
      | (with_reducible refine LeO.ite ?_ ?_)
      | (with_reducible refine LeO.bind ?_ (fun _ => ?_))
      | exact ih0 _ _ _ _ _
      | exact LeO.none _
      | refine LeO.ite ?_ ?_
      | refine LeO.bind ?_ (fun _ => ?_)
set_option maxHeartbeats 8000000 in
set_option maxRecDepth 100000 in
theorem slices_BinarySearch_uint64_uint64.calls (k : Nat) (A0 : Option Addr) (c0 : Nat) (l0 : List Int) (a1 : Int) (r1 : Int) (r2 : Bool) (w : World) (hr0 : Kd.C (Kd.int .u64) w A0 l0.length l0) (hc0 : l0.length ≤ c0) (h : slices_BinarySearch_uint64_uint64.f k l0 a1 = some (r1, r2)) :
    Calls Try.prog 75 #[.slice A0 l0.length c0, .int .u64 a1] w fun e w' => e = .returned (.tuple #[.int .i64 r1, .bool r2]) ∧ Drawn0 w w' := by
  have HR0 := Aside0.mk hr0
  have HC0 := Aside0.mk hc0
  clear hr0 hc0
  have H : (slices_BinarySearch_uint64_uint64.l0 k l0 a1 (l0.length : Int) 0 (l0.length : Int)) = some (r1, r2) := h
  clear h
  have H' := Aside0.mk H
  clear H
  go_enter Try.func75, Try.ntmps75
  go_wp2
  go_loopg [7, 8] k (fun kq v7 v8 w' => ∃ (x7_1 : Int) (x8_1 : Int), v7 = .int .i64 x7_1 ∧ v8 = .int .i64 x8_1 ∧ Aside0 (slices_BinarySearch_uint64_uint64.l0 kq l0 a1 (l0.length : Int) x7_1 x8_1 = some (r1, r2)) ∧ Aside0 (kq ≤ k) ∧ Drawn0 w w')
  case atStart => exact ⟨(0), ((l0.length : Int)), (by first | rfl | (simp; done) | (simp [*]; done)), (by first | rfl | (simp; done) | (simp [*]; done)), H', ⟨Nat.le_refl _⟩, by repeat (first | exact Drawn0.refl _ | apply Drawn0.step)⟩
  case round =>
    clear H'
    try clear p2
    obtain ⟨x7_1, x8_1, rfl, rfl, HA, HK1, ⟨m1, rfl⟩⟩ := hrel
    cases gk with
    | zero => exact absurd HA.out (by simp [slices_BinarySearch_uint64_uint64.l0])
    | succ k1 =>
      have H := HA.out
      clear HA
      simp only [slices_BinarySearch_uint64_uint64.l0] at H
      by_cases c3 : x7_1 < x8_1
      · rw [if_pos c3] at H
        have c3b0 : decide (x7_1 < x8_1) = true := decide_eq_true c3
        clear c3
        obtain ⟨ji4, hji4⟩ : ∃ j_ : Int, (wrap64 ((IntKind.u64.wrap (wrap64 (x7_1 + x8_1))) / 2)) = j_ := ⟨_, rfl⟩
        replace H : (if 0 ≤ (ji4) then (if (ji4) < (l0.length : Int) then ((cmp_Less_uint64.f (rd l0 (ji4)) a1).bind fun t360 => (if t360 = true then (slices_BinarySearch_uint64_uint64.l0 k1 l0 a1 (l0.length : Int) (wrap64 ((ji4) + 1)) x8_1) else (slices_BinarySearch_uint64_uint64.l0 k1 l0 a1 (l0.length : Int) x7_1 ji4))) else (none)) else (none)) = some (r1, r2) := by first | (rw [hji4] at H; exact H) | (simp only [hji4] at H ⊢; exact H)
        have hji4w : (IntKind.i64.wrap ((IntKind.u64.wrap (wrap64 (x7_1 + x8_1))) / 2)) = ji4 := (i64_w _).trans hji4
        by_cases c5 : 0 ≤ (ji4)
        · rw [if_pos c5] at H
          have c5b0 : decide (0 ≤ (ji4)) = true := decide_eq_true c5
          clear c5
          by_cases c6 : (ji4) < (l0.length : Int)
          · rw [if_pos c6] at H
            have c6b0 : decide ((ji4) < (l0.length : Int)) = true := decide_eq_true c6
            clear c6
            replace H := Option.bind_eq_some_iff.mp H
            obtain ⟨t360, A70, H⟩ := H
            replace H : (if t360 = true then (slices_BinarySearch_uint64_uint64.l0 k1 l0 a1 (l0.length : Int) (wrap64 ((ji4) + 1)) x8_1) else (slices_BinarySearch_uint64_uint64.l0 k1 l0 a1 (l0.length : Int) x7_1 ji4)) = some (r1, r2) := H
            have A7 := Aside0.mk A70
            clear A70
            by_cases c8 : t360 = true
            · subst c8
              have H1 : (slices_BinarySearch_uint64_uint64.l0 k1 l0 a1 (l0.length : Int) (wrap64 ((ji4) + 1)) x8_1) = some (r1, r2) := by rw [if_pos rfl] at H; exact H
              clear H
              have H := H1
              clear H1
              have H' := Aside0.mk H
              clear H
              have p359 : 0 ≤ ((ji4) : Int) := of_decide_eq_true (by first | (with_reducible assumption) | assumption)
              have q359 : (ji4) < (l0.length : Int) := of_decide_eq_true (by first | (with_reducible assumption) | assumption)
              obtain ⟨ad359, e359, hx359_0⟩ := Kd.at_int HR0.out (ji4) p359 q359
              cases e359
              replace p359 := eq_true p359
              replace q359 := eq_true q359
              go_wp2_with (first | ((with_reducible refine gate_callee (f := 76) rfl ?_); refine goesL_ (some 27) rfl rfl Try.func76 (by kernel_rfl) rfl #[.int .u64 (rd l0 (ji4)), .int .u64 a1] rfl (by (try simp only [List.map_toArray, List.map_cons, List.map_nil]); first | done | (simp only [hji4]; rfl) | rfl | (simp only [List.length_drop, List.length_take]; rfl)) ?_; (with_reducible refine (cmp_Less_uint64.calls (rd l0 (ji4)) a1 true _ A7.out).mono ?_); rintro e w' ⟨rfl, ⟨nd, rfl⟩⟩; refine ⟨_, rfl, ?_⟩))
              go_roundg k1
              case measure => have := HK1.out; omega
              case rel => exact ⟨(wrap64 ((ji4) + 1)), (x8_1), (by first | rfl | (simp; done) | (simp only [← hji4] <;> (first | rfl | simp)) | (simp [*]; done)), (by first | rfl | (simp; done) | (simp [*]; done)), H', ⟨by have := HK1.out; omega⟩, by repeat (first | exact Drawn0.refl _ | apply Drawn0.step)⟩
            · replace c8 := Bool.eq_false_iff.mpr c8
              subst c8
              have H1 : (slices_BinarySearch_uint64_uint64.l0 k1 l0 a1 (l0.length : Int) x7_1 ji4) = some (r1, r2) := by rw [if_neg (show ¬ (false = true) by decide)] at H; exact H
              clear H
              have H := H1
              clear H1
              have H' := Aside0.mk H
              clear H
              have p359 : 0 ≤ ((ji4) : Int) := of_decide_eq_true (by first | (with_reducible assumption) | assumption)
              have q359 : (ji4) < (l0.length : Int) := of_decide_eq_true (by first | (with_reducible assumption) | assumption)
              obtain ⟨ad359, e359, hx359_0⟩ := Kd.at_int HR0.out (ji4) p359 q359
              cases e359
              replace p359 := eq_true p359
              replace q359 := eq_true q359
              go_wp2_with (first | ((with_reducible refine gate_callee (f := 76) rfl ?_); refine goesL_ (some 27) rfl rfl Try.func76 (by kernel_rfl) rfl #[.int .u64 (rd l0 (ji4)), .int .u64 a1] rfl (by (try simp only [List.map_toArray, List.map_cons, List.map_nil]); first | done | (simp only [hji4]; rfl) | rfl | (simp only [List.length_drop, List.length_take]; rfl)) ?_; (with_reducible refine (cmp_Less_uint64.calls (rd l0 (ji4)) a1 false _ A7.out).mono ?_); rintro e w' ⟨rfl, ⟨nd, rfl⟩⟩; refine ⟨_, rfl, ?_⟩))
              go_roundg k1
              case measure => have := HK1.out; omega
              case rel => exact ⟨(x7_1), (ji4), (by first | rfl | (simp; done) | (simp [*]; done)), (by first | rfl | (simp; done) | (simp only [← hji4] <;> (first | rfl | simp)) | (simp [*]; done)), H', ⟨by have := HK1.out; omega⟩, by repeat (first | exact Drawn0.refl _ | apply Drawn0.step)⟩
          · rw [if_neg c6] at H
            exact absurd H (by simp)
        · rw [if_neg c5] at H
          exact absurd H (by simp)
      · rw [if_neg c3] at H
        have c3b0 : decide (x7_1 < x8_1) = false := decide_eq_false c3
        clear c3
        by_cases c9 : x7_1 < (l0.length : Int)
        · rw [if_pos c9] at H
          have c9b0 : decide (x7_1 < (l0.length : Int)) = true := decide_eq_true c9
          clear c9
          by_cases c10 : 0 ≤ x7_1
          · rw [if_pos c10] at H
            have c10b0 : decide (0 ≤ x7_1) = true := decide_eq_true c10
            clear c10
            by_cases c11 : x7_1 < (l0.length : Int)
            · rw [if_pos c11] at H
              have c11b0 : decide (x7_1 < (l0.length : Int)) = true := decide_eq_true c11
              clear c11
              by_cases c12 : (rd l0 x7_1) = a1
              · rw [if_pos c12] at H
                have c12b0 : ((rd l0 x7_1) == a1) = true := beq_iff_eq.mpr c12
                have c12b1 : ((rd l0 x7_1) != a1) = false := bne_eq_false_iff_eq.mpr c12
                clear c12
                simp only [Option.some.injEq, Prod.mk.injEq] at H
                obtain ⟨rfl, rfl⟩ := H
                have p361 : 0 ≤ (x7_1 : Int) := of_decide_eq_true (by first | (with_reducible assumption) | assumption)
                have q361 : x7_1 < (l0.length : Int) := of_decide_eq_true (by first | (with_reducible assumption) | assumption)
                obtain ⟨ad361, e361, hx361_0⟩ := Kd.at_int HR0.out x7_1 p361 q361
                cases e361
                replace p361 := eq_true p361
                replace q361 := eq_true q361
                go_wp2
                go_ret2
                exact ⟨by first | rfl | (simp; done) | (simp [*]; done), by repeat (first | exact Drawn0.refl _ | apply Drawn0.step)⟩
              · rw [if_neg c12] at H
                have c12b0 : ((rd l0 x7_1) == a1) = false := beq_eq_false_iff_ne.mpr c12
                have c12b1 : ((rd l0 x7_1) != a1) = true := bne_iff_ne.mpr c12
                replace H := Option.bind_eq_some_iff.mp H
                obtain ⟨t363, A130, H⟩ := H
                replace H : (if t363 = true then ((slices_isNaN_uint64.f a1).bind fun t364 => (some (x7_1, t364))) else (some (x7_1, false))) = some (r1, r2) := H
                have A13 := Aside0.mk A130
                clear A130
                by_cases c14 : t363 = true
                · subst c14
                  have H1 : ((slices_isNaN_uint64.f a1).bind fun t364 => (some (x7_1, t364))) = some (r1, r2) := by rw [if_pos rfl] at H; exact H
                  clear H
                  have H := H1
                  clear H1
                  replace H := Option.bind_eq_some_iff.mp H
                  obtain ⟨t364, A150, H⟩ := H
                  replace H : (some (x7_1, t364)) = some (r1, r2) := H
                  have A15 := Aside0.mk A150
                  clear A150
                  simp only [Option.some.injEq, Prod.mk.injEq] at H
                  obtain ⟨rfl, rfl⟩ := H
                  have p361 : 0 ≤ (x7_1 : Int) := of_decide_eq_true (by first | (with_reducible assumption) | assumption)
                  have q361 : x7_1 < (l0.length : Int) := of_decide_eq_true (by first | (with_reducible assumption) | assumption)
                  obtain ⟨ad361, e361, hx361_0⟩ := Kd.at_int HR0.out x7_1 p361 q361
                  cases e361
                  replace p361 := eq_true p361
                  replace q361 := eq_true q361
                  have p362 : 0 ≤ (x7_1 : Int) := of_decide_eq_true (by first | (with_reducible assumption) | assumption)
                  have q362 : x7_1 < (l0.length : Int) := of_decide_eq_true (by first | (with_reducible assumption) | assumption)
                  obtain ⟨ad362, e362, hx362_0⟩ := Kd.at_int HR0.out x7_1 p362 q362
                  obtain rfl : ad361 = ad362 := (by injection e362)
                  replace p362 := eq_true p362
                  replace q362 := eq_true q362
                  go_wp2_with (first | (go_at_call 77; (with_reducible refine (slices_isNaN_uint64.calls (rd l0 x7_1) true _ A13.out).mono ?_); rintro e w' ⟨rfl, ⟨nd, rfl⟩⟩) | (go_at_call 77; (with_reducible refine (slices_isNaN_uint64.calls a1 t364 _ A15.out).mono ?_); rintro e w' ⟨rfl, ⟨nd, rfl⟩⟩))
                  go_ret2
                  exact ⟨by first | rfl | (simp; done) | (simp [*]; done), by repeat (first | exact Drawn0.refl _ | apply Drawn0.step)⟩
                · replace c14 := Bool.eq_false_iff.mpr c14
                  subst c14
                  have H1 : (some (x7_1, false)) = some (r1, r2) := by rw [if_neg (show ¬ (false = true) by decide)] at H; exact H
                  clear H
                  have H := H1
                  clear H1
                  simp only [Option.some.injEq, Prod.mk.injEq] at H
                  obtain ⟨rfl, rfl⟩ := H
                  have p361 : 0 ≤ (x7_1 : Int) := of_decide_eq_true (by first | (with_reducible assumption) | assumption)
                  have q361 : x7_1 < (l0.length : Int) := of_decide_eq_true (by first | (with_reducible assumption) | assumption)
                  obtain ⟨ad361, e361, hx361_0⟩ := Kd.at_int HR0.out x7_1 p361 q361
                  cases e361
                  replace p361 := eq_true p361
                  replace q361 := eq_true q361
                  have p362 : 0 ≤ (x7_1 : Int) := of_decide_eq_true (by first | (with_reducible assumption) | assumption)
                  have q362 : x7_1 < (l0.length : Int) := of_decide_eq_true (by first | (with_reducible assumption) | assumption)
                  obtain ⟨ad362, e362, hx362_0⟩ := Kd.at_int HR0.out x7_1 p362 q362
                  obtain rfl : ad361 = ad362 := (by injection e362)
                  replace p362 := eq_true p362
                  replace q362 := eq_true q362
                  go_wp2_with (first | (go_at_call 77; (with_reducible refine (slices_isNaN_uint64.calls (rd l0 x7_1) false _ A13.out).mono ?_); rintro e w' ⟨rfl, ⟨nd, rfl⟩⟩))
                  go_ret2
                  exact ⟨by first | rfl | (simp; done) | (simp [*]; done), by repeat (first | exact Drawn0.refl _ | apply Drawn0.step)⟩
            · rw [if_neg c11] at H
              exact absurd H (by simp)
          · rw [if_neg c10] at H
            exact absurd H (by simp)
        · rw [if_neg c9] at H
          have c9b0 : decide (x7_1 < (l0.length : Int)) = false := decide_eq_false c9
          clear c9
          simp only [Option.some.injEq, Prod.mk.injEq] at H
          obtain ⟨rfl, rfl⟩ := H
          go_wp2
          go_ret2
          exact ⟨by first | rfl | (simp; done) | (simp [*]; done), by repeat (first | exact Drawn0.refl _ | apply Drawn0.step)⟩

/-! ### leaf_find: function 70 -/
def leaf_find.f (k : Nat) (a0 : Int) (l1 : List Int) (a2 : Int) : Option (Int × Bool × Int) := (leaf_Check.f k a0 l1).bind fun t365 => (if t365 = 0 then ((leaf_is.f a0 a2).bind fun t366 => (if t366 = true then ((slices_BinarySearch_uint64_uint64.f k l1 a2).bind fun bt367 => (some (bt367.1, bt367.2, 0))) else (some (0, false, 1)))) else (some (0, false, 1)))
theorem leaf_find.mono : ∀ a0 a1 a2 k, LeO (leaf_find.f k a0 a1 a2) (leaf_find.f (k + 1) a0 a1 a2) := by
  intro a0 a1 a2 k
  unfold leaf_find.f
  repeat' first
      | (with_reducible exact leaf_Check.mono _ _ _)
      | (with_reducible exact slices_BinarySearch_uint64_uint64.mono _ _ _)
      | (with_reducible exact LeO.refl _)
      | (with_reducible exact LeO.none _)
      | (with_reducible refine LeO.ite ?_ ?_)
      | (with_reducible refine LeO.bind ?_ (fun _ => ?_))
      | exact leaf_Check.mono _ _ _
      | exact slices_BinarySearch_uint64_uint64.mono _ _ _
      | exact LeO.none _
      | refine LeO.ite ?_ ?_
      | refine LeO.bind ?_ (fun _ => ?_)
set_option maxHeartbeats 8000000 in
set_option maxRecDepth 100000 in
theorem leaf_find.calls (k : Nat) (a0 : Int) (A1 : Option Addr) (c1 : Nat) (l1 : List Int) (a2 : Int) (r1 : Int) (r2 : Bool) (r3 : Int) (w : World) (hr1 : Kd.C (Kd.int .u64) w A1 l1.length l1) (hc1 : l1.length ≤ c1) (h : leaf_find.f k a0 l1 a2 = some (r1, r2, r3)) :
    Calls Try.prog 70 #[.int .i64 a0, .slice A1 l1.length c1, .int .u64 a2] w fun e w' => e = .returned (.tuple #[.int .i64 r1, .bool r2, .int .i64 r3]) ∧ Drawn0 w w' := by
  have HR1 := Aside0.mk hr1
  have HC1 := Aside0.mk hc1
  clear hr1 hc1
  have H : ((leaf_Check.f k a0 l1).bind fun t365 => (if t365 = 0 then ((leaf_is.f a0 a2).bind fun t366 => (if t366 = true then ((slices_BinarySearch_uint64_uint64.f k l1 a2).bind fun bt367 => (some (bt367.1, bt367.2, 0))) else (some (0, false, 1)))) else (some (0, false, 1)))) = some (r1, r2, r3) := h
  clear h
  replace H := Option.bind_eq_some_iff.mp H
  obtain ⟨t365, A40, H⟩ := H
  replace H : (if t365 = 0 then ((leaf_is.f a0 a2).bind fun t366 => (if t366 = true then ((slices_BinarySearch_uint64_uint64.f k l1 a2).bind fun bt367 => (some (bt367.1, bt367.2, 0))) else (some (0, false, 1)))) else (some (0, false, 1))) = some (r1, r2, r3) := H
  have A4 := Aside0.mk A40
  clear A40
  by_cases c5 : t365 = 0
  · rw [if_pos c5] at H
    have c5b0 : (t365 == 0) = true := beq_iff_eq.mpr c5
    have c5b1 : (t365 != 0) = false := bne_eq_false_iff_eq.mpr c5
    clear c5
    replace H := Option.bind_eq_some_iff.mp H
    obtain ⟨t366, A60, H⟩ := H
    replace H : (if t366 = true then ((slices_BinarySearch_uint64_uint64.f k l1 a2).bind fun bt367 => (some (bt367.1, bt367.2, 0))) else (some (0, false, 1))) = some (r1, r2, r3) := H
    have A6 := Aside0.mk A60
    clear A60
    by_cases c7 : t366 = true
    · subst c7
      have H1 : ((slices_BinarySearch_uint64_uint64.f k l1 a2).bind fun bt367 => (some (bt367.1, bt367.2, 0))) = some (r1, r2, r3) := by rw [if_pos rfl] at H; exact H
      clear H
      have H := H1
      clear H1
      replace H := Option.bind_eq_some_iff.mp H
      obtain ⟨⟨t367, t368⟩, A80, H⟩ := H
      replace H : (some (t367, t368, 0)) = some (r1, r2, r3) := H
      have A8 := Aside0.mk A80
      clear A80
      simp only [Option.some.injEq, Prod.mk.injEq] at H
      obtain ⟨rfl, rfl, rfl⟩ := H
      go_enter Try.func70, Try.ntmps70
      go_wp2_with (first | ((with_reducible refine gate_callee (f := 74) rfl ?_); refine goesL_ (some 13) rfl rfl Try.func74 (by kernel_rfl) rfl #[.int .i64 a0, .slice A1 l1.length c1] rfl (by (try simp only [List.map_toArray, List.map_cons, List.map_nil]); first | done | rfl | (simp only [List.length_drop, List.length_take]; rfl)) ?_; (with_reducible refine (leaf_Check.calls k a0 _ _ l1 t365 _ ?side1 ?side2 A4.out).mono ?_); (case side1 => repeat (first | exact HR1.out | (with_reducible refine Kd.C_alloc ?_ _) | (with_reducible refine Kd.C_drewN ?_ _) | (with_reducible refine Kd.C_drew ?_))); (case side2 => exact HC1.out); rintro e w' ⟨rfl, ⟨nd, rfl⟩⟩; refine ⟨_, rfl, ?_⟩) | (go_at_call 50; (with_reducible refine (leaf_is.calls a0 a2 true _ A6.out).mono ?_); rintro e w' ⟨rfl, ⟨nd, rfl⟩⟩) | ((with_reducible refine gate_callee (f := 75) rfl ?_); refine goesL_ (some 24) rfl rfl Try.func75 (by kernel_rfl) rfl #[.slice A1 l1.length c1, .int .u64 a2] rfl (by (try simp only [List.map_toArray, List.map_cons, List.map_nil]); first | done | rfl | (simp only [List.length_drop, List.length_take]; rfl)) ?_; (with_reducible refine (slices_BinarySearch_uint64_uint64.calls k _ _ l1 a2 t367 t368 _ ?side1 ?side2 A8.out).mono ?_); (case side1 => repeat (first | exact HR1.out | (with_reducible refine Kd.C_alloc ?_ _) | (with_reducible refine Kd.C_drewN ?_ _) | (with_reducible refine Kd.C_drew ?_))); (case side2 => exact HC1.out); rintro e w' ⟨rfl, ⟨nd, rfl⟩⟩; refine ⟨_, rfl, ?_⟩))
      go_ret3
      exact ⟨by first | rfl | (simp; done) | (simp [*]; done), by repeat (first | exact Drawn0.refl _ | apply Drawn0.step)⟩
    · replace c7 := Bool.eq_false_iff.mpr c7
      subst c7
      have H1 : (some (0, false, 1)) = some (r1, r2, r3) := by rw [if_neg (show ¬ (false = true) by decide)] at H; exact H
      clear H
      have H := H1
      clear H1
      simp only [Option.some.injEq, Prod.mk.injEq] at H
      obtain ⟨rfl, rfl, rfl⟩ := H
      go_enter Try.func70, Try.ntmps70
      go_wp2_with (first | ((with_reducible refine gate_callee (f := 74) rfl ?_); refine goesL_ (some 13) rfl rfl Try.func74 (by kernel_rfl) rfl #[.int .i64 a0, .slice A1 l1.length c1] rfl (by (try simp only [List.map_toArray, List.map_cons, List.map_nil]); first | done | rfl | (simp only [List.length_drop, List.length_take]; rfl)) ?_; (with_reducible refine (leaf_Check.calls k a0 _ _ l1 t365 _ ?side1 ?side2 A4.out).mono ?_); (case side1 => repeat (first | exact HR1.out | (with_reducible refine Kd.C_alloc ?_ _) | (with_reducible refine Kd.C_drewN ?_ _) | (with_reducible refine Kd.C_drew ?_))); (case side2 => exact HC1.out); rintro e w' ⟨rfl, ⟨nd, rfl⟩⟩; refine ⟨_, rfl, ?_⟩) | (go_at_call 50; (with_reducible refine (leaf_is.calls a0 a2 false _ A6.out).mono ?_); rintro e w' ⟨rfl, ⟨nd, rfl⟩⟩))
      go_ret3
      exact ⟨by first | rfl | (simp; done) | (simp [*]; done), by repeat (first | exact Drawn0.refl _ | apply Drawn0.step)⟩
  · rw [if_neg c5] at H
    have c5b0 : (t365 == 0) = false := beq_eq_false_iff_ne.mpr c5
    have c5b1 : (t365 != 0) = true := bne_iff_ne.mpr c5
    simp only [Option.some.injEq, Prod.mk.injEq] at H
    obtain ⟨rfl, rfl, rfl⟩ := H
    go_enter Try.func70, Try.ntmps70
    go_wp2_with (first | ((with_reducible refine gate_callee (f := 74) rfl ?_); refine goesL_ (some 13) rfl rfl Try.func74 (by kernel_rfl) rfl #[.int .i64 a0, .slice A1 l1.length c1] rfl (by (try simp only [List.map_toArray, List.map_cons, List.map_nil]); first | done | rfl | (simp only [List.length_drop, List.length_take]; rfl)) ?_; (with_reducible refine (leaf_Check.calls k a0 _ _ l1 t365 _ ?side1 ?side2 A4.out).mono ?_); (case side1 => repeat (first | exact HR1.out | (with_reducible refine Kd.C_alloc ?_ _) | (with_reducible refine Kd.C_drewN ?_ _) | (with_reducible refine Kd.C_drew ?_))); (case side2 => exact HC1.out); rintro e w' ⟨rfl, ⟨nd, rfl⟩⟩; refine ⟨_, rfl, ?_⟩))
    go_ret3
    exact ⟨by first | rfl | (simp; done) | (simp [*]; done), by repeat (first | exact Drawn0.refl _ | apply Drawn0.step)⟩

/-! ### leaf_Has: function 54 -/
def leaf_Has.f (k : Nat) (a0 : Int) (l1 : List Int) (a2 : Int) : Option (Bool × Int) := (leaf_find.f k a0 l1 a2).bind fun bt369 => (some (bt369.2.1, bt369.2.2))
theorem leaf_Has.mono : ∀ a0 a1 a2 k, LeO (leaf_Has.f k a0 a1 a2) (leaf_Has.f (k + 1) a0 a1 a2) := by
  intro a0 a1 a2 k
  unfold leaf_Has.f
  repeat' first
      | (with_reducible exact leaf_find.mono _ _ _ _)
      | (with_reducible exact LeO.refl _)
      | (with_reducible exact LeO.none _)
      | (with_reducible refine LeO.ite ?_ ?_)
      | (with_reducible refine LeO.bind ?_ (fun _ => ?_))
      | exact leaf_find.mono _ _ _ _
      | exact LeO.none _
      | refine LeO.ite ?_ ?_
      | refine LeO.bind ?_ (fun _ => ?_)
set_option maxHeartbeats 8000000 in
set_option maxRecDepth 100000 in
theorem leaf_Has.calls (k : Nat) (a0 : Int) (A1 : Option Addr) (c1 : Nat) (l1 : List Int) (a2 : Int) (r1 : Bool) (r2 : Int) (w : World) (hr1 : Kd.C (Kd.int .u64) w A1 l1.length l1) (hc1 : l1.length ≤ c1) (h : leaf_Has.f k a0 l1 a2 = some (r1, r2)) :
    Calls Try.prog 54 #[.int .i64 a0, .slice A1 l1.length c1, .int .u64 a2] w fun e w' => e = .returned (.tuple #[.bool r1, .int .i64 r2]) ∧ Drawn0 w w' := by
  have HR1 := Aside0.mk hr1
  have HC1 := Aside0.mk hc1
  clear hr1 hc1
  have H : ((leaf_find.f k a0 l1 a2).bind fun bt369 => (some (bt369.2.1, bt369.2.2))) = some (r1, r2) := h
  clear h
  replace H := Option.bind_eq_some_iff.mp H
  obtain ⟨⟨t369, t370, t371⟩, A40, H⟩ := H
  replace H : (some (t370, t371)) = some (r1, r2) := H
  have A4 := Aside0.mk A40
  clear A40
  simp only [Option.some.injEq, Prod.mk.injEq] at H
  obtain ⟨rfl, rfl⟩ := H
  go_enter Try.func54, Try.ntmps54
  go_wp2_with (first | ((with_reducible refine gate_callee (f := 70) rfl ?_); refine goesL_ (some 15) rfl rfl Try.func70 (by kernel_rfl) rfl #[.int .i64 a0, .slice A1 l1.length c1, .int .u64 a2] rfl (by (try simp only [List.map_toArray, List.map_cons, List.map_nil]); first | done | rfl | (simp only [List.length_drop, List.length_take]; rfl)) ?_; (with_reducible refine (leaf_find.calls k a0 _ _ l1 a2 t369 t370 t371 _ ?side1 ?side2 A4.out).mono ?_); (case side1 => repeat (first | exact HR1.out | (with_reducible refine Kd.C_alloc ?_ _) | (with_reducible refine Kd.C_drewN ?_ _) | (with_reducible refine Kd.C_drew ?_))); (case side2 => exact HC1.out); rintro e w' ⟨rfl, ⟨nd, rfl⟩⟩; refine ⟨_, rfl, ?_⟩))
  go_ret2
  exact ⟨by first | rfl | (simp; done) | (simp [*]; done), by repeat (first | exact Drawn0.refl _ | apply Drawn0.step)⟩

/-! ### sub_Has: function 27 -/
theorem hand_keepa {w : World} (o : Obj) {a : Addr} {v : Value} (hc : w.cell? a = some v) : (w.alloc o).cell? a = some v := pw_cell_below (below_alloc (Below.refl _ w) o) hc
set_option maxHeartbeats 8000000 in
set_option maxRecDepth 100000 in
theorem sub_Has_1.calls (lo hi i : Int) (g : Nat) (w : World) (hc : w.cell? ⟨g, 0, none⟩ = some (.int .u64 i)) :
    Calls Try.prog 55 #[.agg #[.int .u64 lo, .int .u64 hi], .pointer (some ⟨g, 0, none⟩)] w fun e w' => e = .returned (.bool (decide (lo ≤ i) && decide (i ≤ hi))) ∧ Below w.heap.size w w' := by
  have hu50 := Try.underlying45
  have hc2 := hand_keepa (.cells #[.int .u64 lo, .int .u64 hi] 45) hc
  by_cases c1 : lo ≤ i
  · have d1 : decide (lo ≤ i) = true := decide_eq_true c1
    by_cases c2 : i ≤ hi
    · have d2 : decide (i ≤ hi) = true := decide_eq_true c2
      go_enter Try.func55, Try.ntmps55
      go_wp2
      go_ret
      exact ⟨by simp [d1, d2], by repeat (first | exact Below.refl _ _ | apply below_alloc)⟩
    · have d2 : decide (i ≤ hi) = false := decide_eq_false c2
      go_enter Try.func55, Try.ntmps55
      go_wp2
      go_ret
      exact ⟨by simp [d1, d2], by repeat (first | exact Below.refl _ _ | apply below_alloc)⟩
  · have d1 : decide (lo ≤ i) = false := decide_eq_false c1
    go_enter Try.func55, Try.ntmps55
    go_wp2
    go_ret
    exact ⟨by simp [d1], by repeat (first | exact Below.refl _ _ | apply below_alloc)⟩
def sub_Has.f (k : Nat) (a0 : Int) (a1_0 : Int) (a1_1 : Int) (a2 : Int) : Option (Bool × Int) := (sub_both.f k a0 a1_0 a1_1).bind fun b => (leaf_Has.f k a0 [] a2).bind fun q => if b.2.2.2.2 = 0 then (if q.2 = 0 then some ((decide (b.1 ≤ a2) && decide (a2 ≤ b.2.1)) && ((a1_1 == 0) || !(decide (b.2.2.1 ≤ a2) && decide (a2 ≤ b.2.2.2.1))), 0) else some (false, 1)) else some (false, 1)
theorem sub_Has.mono : ∀ a0 a1 a2 a3 k, LeO (sub_Has.f k a0 a1 a2 a3) (sub_Has.f (k + 1) a0 a1 a2 a3) := by
  intro a0 a1 a2 a3 k
  unfold sub_Has.f
  exact LeO.bind (sub_both.mono _ _ _ _) (fun _ => LeO.bind (leaf_Has.mono _ _ _ _) (fun _ => LeO.refl _))
set_option maxHeartbeats 8000000 in
set_option maxRecDepth 100000 in
theorem sub_Has.calls (k : Nat) (a0 : Int) (a1_0 : Int) (a1_1 : Int) (a2 : Int) (r1 : Bool) (r2 : Int) (w : World) (h : sub_Has.f k a0 a1_0 a1_1 a2 = some (r1, r2)) :
    Calls Try.prog 27 #[.int .i64 a0, .agg #[.int .u64 a1_0, .int .u64 a1_1], .int .u64 a2] w fun e w' => e = .returned (.tuple #[.bool r1, .int .i64 r2]) ∧ Below w.heap.size w w' := by
  have hu24 := Try.underlying24
  have hu50 := Try.underlying45
  replace h := Option.bind_eq_some_iff.mp h
  obtain ⟨⟨b1, b2, b3, b4, b5⟩, A1, h⟩ := h
  replace h := Option.bind_eq_some_iff.mp h
  obtain ⟨⟨q1, q2⟩, A2, h⟩ := h
  have A1' := Aside0.mk A1
  have A2' := Aside0.mk A2
  clear A1 A2
  simp only at h
  by_cases c1 : b5 = 0
  · rw [if_pos c1] at h
    have c1b : (b5 != 0) = false := bne_eq_false_iff_eq.mpr c1
    clear c1
    by_cases c2 : q2 = 0
    · rw [if_pos c2] at h
      have c2b : (q2 != 0) = false := bne_eq_false_iff_eq.mpr c2
      clear c2
      simp only [Option.some.injEq, Prod.mk.injEq] at h
      obtain ⟨hr, rfl⟩ := h
      have HR := Aside0.mk hr
      clear hr
      by_cases c3 : (decide (b1 ≤ a2) && decide (a2 ≤ b2)) = true
      · by_cases c4 : a1_1 = 0
        · have c4b : (a1_1 == 0) = true := beq_iff_eq.mpr c4
          clear c4
          go_enter Try.func27, Try.ntmps27
          go_wp2_with (first | (go_at_call 49; refine (sub_both.calls k a0 a1_0 a1_1 b1 b2 b3 b4 b5 _ A1'.out).mono ?_; rintro e w1 ⟨rfl, hb⟩; have HB1 := Aside0.mk hb; have B24 := Aside0.mk (blk_below (blk_alloc (heap_alloc_new w (.cells #[.int .u64 a1_0, .int .u64 a1_1] 24 (0, 0))) (.cells #[.int .u64 a2] 22 (0, 0))) hb); have B22 := Aside0.mk (blk_below (g := w.heap.size + 1) (o := .cells #[.int .u64 a2] 22 (0, 0)) (by simpa using heap_alloc_new (w.alloc (.cells #[.int .u64 a1_0, .int .u64 a1_1] 24 (0, 0))) (.cells #[.int .u64 a2] 22 (0, 0))) hb); have hI : ((w1.alloc (.cells #[.int .u64 b1, .int .u64 b2] 45 (0, 0))).alloc (.cells #[.int .u64 b3, .int .u64 b4] 45 (0, 0))).cell? ⟨w.heap.size + 1, 0, none⟩ = some (.int .u64 a2) := (blk_cell (blk_alloc (blk_alloc B22.out _) _) 0).trans rfl; clear hb) | (go_at_call 54; refine (leaf_Has.calls k a0 none 0 [] a2 q1 q2 _ (Kd.C_nil _ _) (Nat.le_refl _) A2'.out).mono ?_; rintro e w2 ⟨rfl, hd⟩; have hb := hd.below; have HB2 := Aside0.mk hb; have n1 := Aside0.mk (blk_below (blk_alloc (blk_alloc B24.out (.cells #[.int .u64 b1, .int .u64 b2] 45 (0, 0))) (.cells #[.int .u64 b3, .int .u64 b4] 45 (0, 0))) hb); have n2 := Aside0.mk (blk_below (blk_alloc (blk_alloc B22.out (.cells #[.int .u64 b1, .int .u64 b2] 45 (0, 0))) (.cells #[.int .u64 b3, .int .u64 b4] 45 (0, 0))) hb); have P1 := Aside0.mk (blk_below (blk_alloc (heap_alloc_new w1 (.cells #[.int .u64 b1, .int .u64 b2] 45 (0, 0))) (.cells #[.int .u64 b3, .int .u64 b4] 45 (0, 0))) hb); have P2 := Aside0.mk (blk_below (g := w1.heap.size + 1) (o := .cells #[.int .u64 b3, .int .u64 b4] 45 (0, 0)) (by simpa using heap_alloc_new (w1.alloc (.cells #[.int .u64 b1, .int .u64 b2] 45 (0, 0))) (.cells #[.int .u64 b3, .int .u64 b4] 45 (0, 0))) hb); clear hI B24 B22; have hI2 : w2.cell? ⟨w.heap.size + 1, 0, none⟩ = some (.int .u64 a2) := (blk_cell n2.out 0).trans rfl; have hJ2 : w2.cell? ⟨w.heap.size, 1, none⟩ = some (.int .u64 a1_1) := (blk_cell n1.out 1).trans rfl; have hp0 : w2.cell? ⟨w1.heap.size, 0, none⟩ = some (.int .u64 b1) := (blk_cell P1.out 0).trans rfl; have hp1 : w2.cell? ⟨w1.heap.size, 1, none⟩ = some (.int .u64 b2) := (blk_cell P1.out 1).trans rfl; clear hd hb) | (go_at_call 55; refine (sub_Has_1.calls b1 b2 a2 (w.heap.size + 1) w2 hI2).mono ?_; rintro e w3 ⟨rfl, hb⟩; have HB3 := Aside0.mk hb; have hI3 : w3.cell? ⟨w.heap.size + 1, 0, none⟩ = some (.int .u64 a2) := (blk_cell (blk_below n2.out hb) 0).trans rfl; have hJ3 : w3.cell? ⟨w.heap.size, 1, none⟩ = some (.int .u64 a1_1) := (blk_cell (blk_below n1.out hb) 1).trans rfl; have hg0 : w3.cell? ⟨w1.heap.size + 1, 0, none⟩ = some (.int .u64 b3) := (blk_cell (blk_below P2.out hb) 0).trans rfl; have hg1 : w3.cell? ⟨w1.heap.size + 1, 1, none⟩ = some (.int .u64 b4) := (blk_cell (blk_below P2.out hb) 1).trans rfl; clear hb hI2 hJ2 hp0 hp1) | (go_at_call 55; refine (sub_Has_1.calls b3 b4 a2 (w.heap.size + 1) w3 hI3).mono ?_; rintro e w4 ⟨rfl, hb⟩; have HB4 := Aside0.mk hb; clear hb hI3 hJ3 hg0 hg1))
          go_ret2
          exact ⟨by rw [← HR.out, c3, c4b]; rfl, (below_step (below_step (below_alloc (below_alloc (below_step (below_alloc (below_alloc (Below.refl _ _) _) _) HB1.out) _) _) HB2.out) HB3.out)⟩
        · have c4b : (a1_1 == 0) = false := beq_eq_false_iff_ne.mpr c4
          clear c4
          by_cases c5 : (decide (b3 ≤ a2) && decide (a2 ≤ b4)) = true
          · go_enter Try.func27, Try.ntmps27
            go_wp2_with (first | (go_at_call 49; refine (sub_both.calls k a0 a1_0 a1_1 b1 b2 b3 b4 b5 _ A1'.out).mono ?_; rintro e w1 ⟨rfl, hb⟩; have HB1 := Aside0.mk hb; have B24 := Aside0.mk (blk_below (blk_alloc (heap_alloc_new w (.cells #[.int .u64 a1_0, .int .u64 a1_1] 24 (0, 0))) (.cells #[.int .u64 a2] 22 (0, 0))) hb); have B22 := Aside0.mk (blk_below (g := w.heap.size + 1) (o := .cells #[.int .u64 a2] 22 (0, 0)) (by simpa using heap_alloc_new (w.alloc (.cells #[.int .u64 a1_0, .int .u64 a1_1] 24 (0, 0))) (.cells #[.int .u64 a2] 22 (0, 0))) hb); have hI : ((w1.alloc (.cells #[.int .u64 b1, .int .u64 b2] 45 (0, 0))).alloc (.cells #[.int .u64 b3, .int .u64 b4] 45 (0, 0))).cell? ⟨w.heap.size + 1, 0, none⟩ = some (.int .u64 a2) := (blk_cell (blk_alloc (blk_alloc B22.out _) _) 0).trans rfl; clear hb) | (go_at_call 54; refine (leaf_Has.calls k a0 none 0 [] a2 q1 q2 _ (Kd.C_nil _ _) (Nat.le_refl _) A2'.out).mono ?_; rintro e w2 ⟨rfl, hd⟩; have hb := hd.below; have HB2 := Aside0.mk hb; have n1 := Aside0.mk (blk_below (blk_alloc (blk_alloc B24.out (.cells #[.int .u64 b1, .int .u64 b2] 45 (0, 0))) (.cells #[.int .u64 b3, .int .u64 b4] 45 (0, 0))) hb); have n2 := Aside0.mk (blk_below (blk_alloc (blk_alloc B22.out (.cells #[.int .u64 b1, .int .u64 b2] 45 (0, 0))) (.cells #[.int .u64 b3, .int .u64 b4] 45 (0, 0))) hb); have P1 := Aside0.mk (blk_below (blk_alloc (heap_alloc_new w1 (.cells #[.int .u64 b1, .int .u64 b2] 45 (0, 0))) (.cells #[.int .u64 b3, .int .u64 b4] 45 (0, 0))) hb); have P2 := Aside0.mk (blk_below (g := w1.heap.size + 1) (o := .cells #[.int .u64 b3, .int .u64 b4] 45 (0, 0)) (by simpa using heap_alloc_new (w1.alloc (.cells #[.int .u64 b1, .int .u64 b2] 45 (0, 0))) (.cells #[.int .u64 b3, .int .u64 b4] 45 (0, 0))) hb); clear hI B24 B22; have hI2 : w2.cell? ⟨w.heap.size + 1, 0, none⟩ = some (.int .u64 a2) := (blk_cell n2.out 0).trans rfl; have hJ2 : w2.cell? ⟨w.heap.size, 1, none⟩ = some (.int .u64 a1_1) := (blk_cell n1.out 1).trans rfl; have hp0 : w2.cell? ⟨w1.heap.size, 0, none⟩ = some (.int .u64 b1) := (blk_cell P1.out 0).trans rfl; have hp1 : w2.cell? ⟨w1.heap.size, 1, none⟩ = some (.int .u64 b2) := (blk_cell P1.out 1).trans rfl; clear hd hb) | (go_at_call 55; refine (sub_Has_1.calls b1 b2 a2 (w.heap.size + 1) w2 hI2).mono ?_; rintro e w3 ⟨rfl, hb⟩; have HB3 := Aside0.mk hb; have hI3 : w3.cell? ⟨w.heap.size + 1, 0, none⟩ = some (.int .u64 a2) := (blk_cell (blk_below n2.out hb) 0).trans rfl; have hJ3 : w3.cell? ⟨w.heap.size, 1, none⟩ = some (.int .u64 a1_1) := (blk_cell (blk_below n1.out hb) 1).trans rfl; have hg0 : w3.cell? ⟨w1.heap.size + 1, 0, none⟩ = some (.int .u64 b3) := (blk_cell (blk_below P2.out hb) 0).trans rfl; have hg1 : w3.cell? ⟨w1.heap.size + 1, 1, none⟩ = some (.int .u64 b4) := (blk_cell (blk_below P2.out hb) 1).trans rfl; clear hb hI2 hJ2 hp0 hp1) | (go_at_call 55; refine (sub_Has_1.calls b3 b4 a2 (w.heap.size + 1) w3 hI3).mono ?_; rintro e w4 ⟨rfl, hb⟩; have HB4 := Aside0.mk hb; clear hb hI3 hJ3 hg0 hg1))
            go_ret2
            exact ⟨by rw [← HR.out, c3, c4b, c5]; rfl, (below_step (below_step (below_step (below_alloc (below_alloc (below_step (below_alloc (below_alloc (Below.refl _ _) _) _) HB1.out) _) _) HB2.out) HB3.out) HB4.out)⟩
          · have c5b := Bool.eq_false_iff.mpr c5
            clear c5
            go_enter Try.func27, Try.ntmps27
            go_wp2_with (first | (go_at_call 49; refine (sub_both.calls k a0 a1_0 a1_1 b1 b2 b3 b4 b5 _ A1'.out).mono ?_; rintro e w1 ⟨rfl, hb⟩; have HB1 := Aside0.mk hb; have B24 := Aside0.mk (blk_below (blk_alloc (heap_alloc_new w (.cells #[.int .u64 a1_0, .int .u64 a1_1] 24 (0, 0))) (.cells #[.int .u64 a2] 22 (0, 0))) hb); have B22 := Aside0.mk (blk_below (g := w.heap.size + 1) (o := .cells #[.int .u64 a2] 22 (0, 0)) (by simpa using heap_alloc_new (w.alloc (.cells #[.int .u64 a1_0, .int .u64 a1_1] 24 (0, 0))) (.cells #[.int .u64 a2] 22 (0, 0))) hb); have hI : ((w1.alloc (.cells #[.int .u64 b1, .int .u64 b2] 45 (0, 0))).alloc (.cells #[.int .u64 b3, .int .u64 b4] 45 (0, 0))).cell? ⟨w.heap.size + 1, 0, none⟩ = some (.int .u64 a2) := (blk_cell (blk_alloc (blk_alloc B22.out _) _) 0).trans rfl; clear hb) | (go_at_call 54; refine (leaf_Has.calls k a0 none 0 [] a2 q1 q2 _ (Kd.C_nil _ _) (Nat.le_refl _) A2'.out).mono ?_; rintro e w2 ⟨rfl, hd⟩; have hb := hd.below; have HB2 := Aside0.mk hb; have n1 := Aside0.mk (blk_below (blk_alloc (blk_alloc B24.out (.cells #[.int .u64 b1, .int .u64 b2] 45 (0, 0))) (.cells #[.int .u64 b3, .int .u64 b4] 45 (0, 0))) hb); have n2 := Aside0.mk (blk_below (blk_alloc (blk_alloc B22.out (.cells #[.int .u64 b1, .int .u64 b2] 45 (0, 0))) (.cells #[.int .u64 b3, .int .u64 b4] 45 (0, 0))) hb); have P1 := Aside0.mk (blk_below (blk_alloc (heap_alloc_new w1 (.cells #[.int .u64 b1, .int .u64 b2] 45 (0, 0))) (.cells #[.int .u64 b3, .int .u64 b4] 45 (0, 0))) hb); have P2 := Aside0.mk (blk_below (g := w1.heap.size + 1) (o := .cells #[.int .u64 b3, .int .u64 b4] 45 (0, 0)) (by simpa using heap_alloc_new (w1.alloc (.cells #[.int .u64 b1, .int .u64 b2] 45 (0, 0))) (.cells #[.int .u64 b3, .int .u64 b4] 45 (0, 0))) hb); clear hI B24 B22; have hI2 : w2.cell? ⟨w.heap.size + 1, 0, none⟩ = some (.int .u64 a2) := (blk_cell n2.out 0).trans rfl; have hJ2 : w2.cell? ⟨w.heap.size, 1, none⟩ = some (.int .u64 a1_1) := (blk_cell n1.out 1).trans rfl; have hp0 : w2.cell? ⟨w1.heap.size, 0, none⟩ = some (.int .u64 b1) := (blk_cell P1.out 0).trans rfl; have hp1 : w2.cell? ⟨w1.heap.size, 1, none⟩ = some (.int .u64 b2) := (blk_cell P1.out 1).trans rfl; clear hd hb) | (go_at_call 55; refine (sub_Has_1.calls b1 b2 a2 (w.heap.size + 1) w2 hI2).mono ?_; rintro e w3 ⟨rfl, hb⟩; have HB3 := Aside0.mk hb; have hI3 : w3.cell? ⟨w.heap.size + 1, 0, none⟩ = some (.int .u64 a2) := (blk_cell (blk_below n2.out hb) 0).trans rfl; have hJ3 : w3.cell? ⟨w.heap.size, 1, none⟩ = some (.int .u64 a1_1) := (blk_cell (blk_below n1.out hb) 1).trans rfl; have hg0 : w3.cell? ⟨w1.heap.size + 1, 0, none⟩ = some (.int .u64 b3) := (blk_cell (blk_below P2.out hb) 0).trans rfl; have hg1 : w3.cell? ⟨w1.heap.size + 1, 1, none⟩ = some (.int .u64 b4) := (blk_cell (blk_below P2.out hb) 1).trans rfl; clear hb hI2 hJ2 hp0 hp1) | (go_at_call 55; refine (sub_Has_1.calls b3 b4 a2 (w.heap.size + 1) w3 hI3).mono ?_; rintro e w4 ⟨rfl, hb⟩; have HB4 := Aside0.mk hb; clear hb hI3 hJ3 hg0 hg1))
            go_ret2
            exact ⟨by rw [← HR.out, c3, c4b, c5b]; rfl, (below_step (below_step (below_step (below_alloc (below_alloc (below_step (below_alloc (below_alloc (Below.refl _ _) _) _) HB1.out) _) _) HB2.out) HB3.out) HB4.out)⟩
      · have c3b := Bool.eq_false_iff.mpr c3
        clear c3
        go_enter Try.func27, Try.ntmps27
        go_wp2_with (first | (go_at_call 49; refine (sub_both.calls k a0 a1_0 a1_1 b1 b2 b3 b4 b5 _ A1'.out).mono ?_; rintro e w1 ⟨rfl, hb⟩; have HB1 := Aside0.mk hb; have B24 := Aside0.mk (blk_below (blk_alloc (heap_alloc_new w (.cells #[.int .u64 a1_0, .int .u64 a1_1] 24 (0, 0))) (.cells #[.int .u64 a2] 22 (0, 0))) hb); have B22 := Aside0.mk (blk_below (g := w.heap.size + 1) (o := .cells #[.int .u64 a2] 22 (0, 0)) (by simpa using heap_alloc_new (w.alloc (.cells #[.int .u64 a1_0, .int .u64 a1_1] 24 (0, 0))) (.cells #[.int .u64 a2] 22 (0, 0))) hb); have hI : ((w1.alloc (.cells #[.int .u64 b1, .int .u64 b2] 45 (0, 0))).alloc (.cells #[.int .u64 b3, .int .u64 b4] 45 (0, 0))).cell? ⟨w.heap.size + 1, 0, none⟩ = some (.int .u64 a2) := (blk_cell (blk_alloc (blk_alloc B22.out _) _) 0).trans rfl; clear hb) | (go_at_call 54; refine (leaf_Has.calls k a0 none 0 [] a2 q1 q2 _ (Kd.C_nil _ _) (Nat.le_refl _) A2'.out).mono ?_; rintro e w2 ⟨rfl, hd⟩; have hb := hd.below; have HB2 := Aside0.mk hb; have n1 := Aside0.mk (blk_below (blk_alloc (blk_alloc B24.out (.cells #[.int .u64 b1, .int .u64 b2] 45 (0, 0))) (.cells #[.int .u64 b3, .int .u64 b4] 45 (0, 0))) hb); have n2 := Aside0.mk (blk_below (blk_alloc (blk_alloc B22.out (.cells #[.int .u64 b1, .int .u64 b2] 45 (0, 0))) (.cells #[.int .u64 b3, .int .u64 b4] 45 (0, 0))) hb); have P1 := Aside0.mk (blk_below (blk_alloc (heap_alloc_new w1 (.cells #[.int .u64 b1, .int .u64 b2] 45 (0, 0))) (.cells #[.int .u64 b3, .int .u64 b4] 45 (0, 0))) hb); have P2 := Aside0.mk (blk_below (g := w1.heap.size + 1) (o := .cells #[.int .u64 b3, .int .u64 b4] 45 (0, 0)) (by simpa using heap_alloc_new (w1.alloc (.cells #[.int .u64 b1, .int .u64 b2] 45 (0, 0))) (.cells #[.int .u64 b3, .int .u64 b4] 45 (0, 0))) hb); clear hI B24 B22; have hI2 : w2.cell? ⟨w.heap.size + 1, 0, none⟩ = some (.int .u64 a2) := (blk_cell n2.out 0).trans rfl; have hJ2 : w2.cell? ⟨w.heap.size, 1, none⟩ = some (.int .u64 a1_1) := (blk_cell n1.out 1).trans rfl; have hp0 : w2.cell? ⟨w1.heap.size, 0, none⟩ = some (.int .u64 b1) := (blk_cell P1.out 0).trans rfl; have hp1 : w2.cell? ⟨w1.heap.size, 1, none⟩ = some (.int .u64 b2) := (blk_cell P1.out 1).trans rfl; clear hd hb) | (go_at_call 55; refine (sub_Has_1.calls b1 b2 a2 (w.heap.size + 1) w2 hI2).mono ?_; rintro e w3 ⟨rfl, hb⟩; have HB3 := Aside0.mk hb; have hI3 : w3.cell? ⟨w.heap.size + 1, 0, none⟩ = some (.int .u64 a2) := (blk_cell (blk_below n2.out hb) 0).trans rfl; have hJ3 : w3.cell? ⟨w.heap.size, 1, none⟩ = some (.int .u64 a1_1) := (blk_cell (blk_below n1.out hb) 1).trans rfl; have hg0 : w3.cell? ⟨w1.heap.size + 1, 0, none⟩ = some (.int .u64 b3) := (blk_cell (blk_below P2.out hb) 0).trans rfl; have hg1 : w3.cell? ⟨w1.heap.size + 1, 1, none⟩ = some (.int .u64 b4) := (blk_cell (blk_below P2.out hb) 1).trans rfl; clear hb hI2 hJ2 hp0 hp1) | (go_at_call 55; refine (sub_Has_1.calls b3 b4 a2 (w.heap.size + 1) w3 hI3).mono ?_; rintro e w4 ⟨rfl, hb⟩; have HB4 := Aside0.mk hb; clear hb hI3 hJ3 hg0 hg1))
        go_ret2
        exact ⟨by rw [← HR.out, c3b]; rfl, (below_step (below_step (below_alloc (below_alloc (below_step (below_alloc (below_alloc (Below.refl _ _) _) _) HB1.out) _) _) HB2.out) HB3.out)⟩
    · rw [if_neg c2] at h
      have c2b : (q2 != 0) = true := bne_iff_ne.mpr c2
      clear c2
      simp only [Option.some.injEq, Prod.mk.injEq] at h
      obtain ⟨rfl, rfl⟩ := h
      go_enter Try.func27, Try.ntmps27
      go_wp2_with (first | (go_at_call 49; refine (sub_both.calls k a0 a1_0 a1_1 b1 b2 b3 b4 b5 _ A1'.out).mono ?_; rintro e w1 ⟨rfl, hb⟩; have HB1 := Aside0.mk hb; have B24 := Aside0.mk (blk_below (blk_alloc (heap_alloc_new w (.cells #[.int .u64 a1_0, .int .u64 a1_1] 24 (0, 0))) (.cells #[.int .u64 a2] 22 (0, 0))) hb); have B22 := Aside0.mk (blk_below (g := w.heap.size + 1) (o := .cells #[.int .u64 a2] 22 (0, 0)) (by simpa using heap_alloc_new (w.alloc (.cells #[.int .u64 a1_0, .int .u64 a1_1] 24 (0, 0))) (.cells #[.int .u64 a2] 22 (0, 0))) hb); have hI : ((w1.alloc (.cells #[.int .u64 b1, .int .u64 b2] 45 (0, 0))).alloc (.cells #[.int .u64 b3, .int .u64 b4] 45 (0, 0))).cell? ⟨w.heap.size + 1, 0, none⟩ = some (.int .u64 a2) := (blk_cell (blk_alloc (blk_alloc B22.out _) _) 0).trans rfl; clear hb) | (go_at_call 54; refine (leaf_Has.calls k a0 none 0 [] a2 q1 q2 _ (Kd.C_nil _ _) (Nat.le_refl _) A2'.out).mono ?_; rintro e w2 ⟨rfl, hd⟩; have hb := hd.below; have HB2 := Aside0.mk hb; have n1 := Aside0.mk (blk_below (blk_alloc (blk_alloc B24.out (.cells #[.int .u64 b1, .int .u64 b2] 45 (0, 0))) (.cells #[.int .u64 b3, .int .u64 b4] 45 (0, 0))) hb); have n2 := Aside0.mk (blk_below (blk_alloc (blk_alloc B22.out (.cells #[.int .u64 b1, .int .u64 b2] 45 (0, 0))) (.cells #[.int .u64 b3, .int .u64 b4] 45 (0, 0))) hb); have P1 := Aside0.mk (blk_below (blk_alloc (heap_alloc_new w1 (.cells #[.int .u64 b1, .int .u64 b2] 45 (0, 0))) (.cells #[.int .u64 b3, .int .u64 b4] 45 (0, 0))) hb); have P2 := Aside0.mk (blk_below (g := w1.heap.size + 1) (o := .cells #[.int .u64 b3, .int .u64 b4] 45 (0, 0)) (by simpa using heap_alloc_new (w1.alloc (.cells #[.int .u64 b1, .int .u64 b2] 45 (0, 0))) (.cells #[.int .u64 b3, .int .u64 b4] 45 (0, 0))) hb); clear hI B24 B22; have hI2 : w2.cell? ⟨w.heap.size + 1, 0, none⟩ = some (.int .u64 a2) := (blk_cell n2.out 0).trans rfl; have hJ2 : w2.cell? ⟨w.heap.size, 1, none⟩ = some (.int .u64 a1_1) := (blk_cell n1.out 1).trans rfl; have hp0 : w2.cell? ⟨w1.heap.size, 0, none⟩ = some (.int .u64 b1) := (blk_cell P1.out 0).trans rfl; have hp1 : w2.cell? ⟨w1.heap.size, 1, none⟩ = some (.int .u64 b2) := (blk_cell P1.out 1).trans rfl; clear hd hb) | (go_at_call 55; refine (sub_Has_1.calls b1 b2 a2 (w.heap.size + 1) w2 hI2).mono ?_; rintro e w3 ⟨rfl, hb⟩; have HB3 := Aside0.mk hb; have hI3 : w3.cell? ⟨w.heap.size + 1, 0, none⟩ = some (.int .u64 a2) := (blk_cell (blk_below n2.out hb) 0).trans rfl; have hJ3 : w3.cell? ⟨w.heap.size, 1, none⟩ = some (.int .u64 a1_1) := (blk_cell (blk_below n1.out hb) 1).trans rfl; have hg0 : w3.cell? ⟨w1.heap.size + 1, 0, none⟩ = some (.int .u64 b3) := (blk_cell (blk_below P2.out hb) 0).trans rfl; have hg1 : w3.cell? ⟨w1.heap.size + 1, 1, none⟩ = some (.int .u64 b4) := (blk_cell (blk_below P2.out hb) 1).trans rfl; clear hb hI2 hJ2 hp0 hp1) | (go_at_call 55; refine (sub_Has_1.calls b3 b4 a2 (w.heap.size + 1) w3 hI3).mono ?_; rintro e w4 ⟨rfl, hb⟩; have HB4 := Aside0.mk hb; clear hb hI3 hJ3 hg0 hg1))
      go_ret2
      exact ⟨rfl, (below_step (below_alloc (below_alloc (below_step (below_alloc (below_alloc (Below.refl _ _) _) _) HB1.out) _) _) HB2.out)⟩
  · rw [if_neg c1] at h
    simp only [Option.some.injEq, Prod.mk.injEq] at h
    obtain ⟨rfl, rfl⟩ := h
    have c1b : (b5 != 0) = true := bne_iff_ne.mpr c1
    clear c1
    go_enter Try.func27, Try.ntmps27
    go_wp2_with (first | (go_at_call 49; refine (sub_both.calls k a0 a1_0 a1_1 b1 b2 b3 b4 b5 _ A1'.out).mono ?_; rintro e w1 ⟨rfl, hb⟩; have HB1 := Aside0.mk hb; have B24 := Aside0.mk (blk_below (blk_alloc (heap_alloc_new w (.cells #[.int .u64 a1_0, .int .u64 a1_1] 24 (0, 0))) (.cells #[.int .u64 a2] 22 (0, 0))) hb); have B22 := Aside0.mk (blk_below (g := w.heap.size + 1) (o := .cells #[.int .u64 a2] 22 (0, 0)) (by simpa using heap_alloc_new (w.alloc (.cells #[.int .u64 a1_0, .int .u64 a1_1] 24 (0, 0))) (.cells #[.int .u64 a2] 22 (0, 0))) hb); have hI : ((w1.alloc (.cells #[.int .u64 b1, .int .u64 b2] 45 (0, 0))).alloc (.cells #[.int .u64 b3, .int .u64 b4] 45 (0, 0))).cell? ⟨w.heap.size + 1, 0, none⟩ = some (.int .u64 a2) := (blk_cell (blk_alloc (blk_alloc B22.out _) _) 0).trans rfl; clear hb) | (go_at_call 54; refine (leaf_Has.calls k a0 none 0 [] a2 q1 q2 _ (Kd.C_nil _ _) (Nat.le_refl _) A2'.out).mono ?_; rintro e w2 ⟨rfl, hd⟩; have hb := hd.below; have HB2 := Aside0.mk hb; have n1 := Aside0.mk (blk_below (blk_alloc (blk_alloc B24.out (.cells #[.int .u64 b1, .int .u64 b2] 45 (0, 0))) (.cells #[.int .u64 b3, .int .u64 b4] 45 (0, 0))) hb); have n2 := Aside0.mk (blk_below (blk_alloc (blk_alloc B22.out (.cells #[.int .u64 b1, .int .u64 b2] 45 (0, 0))) (.cells #[.int .u64 b3, .int .u64 b4] 45 (0, 0))) hb); have P1 := Aside0.mk (blk_below (blk_alloc (heap_alloc_new w1 (.cells #[.int .u64 b1, .int .u64 b2] 45 (0, 0))) (.cells #[.int .u64 b3, .int .u64 b4] 45 (0, 0))) hb); have P2 := Aside0.mk (blk_below (g := w1.heap.size + 1) (o := .cells #[.int .u64 b3, .int .u64 b4] 45 (0, 0)) (by simpa using heap_alloc_new (w1.alloc (.cells #[.int .u64 b1, .int .u64 b2] 45 (0, 0))) (.cells #[.int .u64 b3, .int .u64 b4] 45 (0, 0))) hb); clear hI B24 B22; have hI2 : w2.cell? ⟨w.heap.size + 1, 0, none⟩ = some (.int .u64 a2) := (blk_cell n2.out 0).trans rfl; have hJ2 : w2.cell? ⟨w.heap.size, 1, none⟩ = some (.int .u64 a1_1) := (blk_cell n1.out 1).trans rfl; have hp0 : w2.cell? ⟨w1.heap.size, 0, none⟩ = some (.int .u64 b1) := (blk_cell P1.out 0).trans rfl; have hp1 : w2.cell? ⟨w1.heap.size, 1, none⟩ = some (.int .u64 b2) := (blk_cell P1.out 1).trans rfl; clear hd hb) | (go_at_call 55; refine (sub_Has_1.calls b1 b2 a2 (w.heap.size + 1) w2 hI2).mono ?_; rintro e w3 ⟨rfl, hb⟩; have HB3 := Aside0.mk hb; have hI3 : w3.cell? ⟨w.heap.size + 1, 0, none⟩ = some (.int .u64 a2) := (blk_cell (blk_below n2.out hb) 0).trans rfl; have hJ3 : w3.cell? ⟨w.heap.size, 1, none⟩ = some (.int .u64 a1_1) := (blk_cell (blk_below n1.out hb) 1).trans rfl; have hg0 : w3.cell? ⟨w1.heap.size + 1, 0, none⟩ = some (.int .u64 b3) := (blk_cell (blk_below P2.out hb) 0).trans rfl; have hg1 : w3.cell? ⟨w1.heap.size + 1, 1, none⟩ = some (.int .u64 b4) := (blk_cell (blk_below P2.out hb) 1).trans rfl; clear hb hI2 hJ2 hp0 hp1) | (go_at_call 55; refine (sub_Has_1.calls b3 b4 a2 (w.heap.size + 1) w3 hI3).mono ?_; rintro e w4 ⟨rfl, hb⟩; have HB4 := Aside0.mk hb; clear hb hI3 hJ3 hg0 hg1))
    go_ret2
    exact ⟨rfl, (below_step (below_alloc (below_alloc (below_step (below_alloc (below_alloc (Below.refl _ _) _) _) HB1.out) _) _) HB2.out)⟩

end Go.Proofs.Ytccmoohcpaohmaa.MP
