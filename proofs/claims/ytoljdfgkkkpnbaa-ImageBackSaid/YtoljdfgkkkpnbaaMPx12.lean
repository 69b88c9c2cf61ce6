-- written by a program of this session (wip/tools/mprint.sh) for this seat
import Derived.Test.YtoljdfgkkkpnbaaMPx0
import Derived.Test.YtoljdfgkkkpnbaaMPx1
namespace Go.Proofs.Ytoljdfgkkkpnbaa.MP
open Go.RowKit Go.Proofs.YtoljdfgkkkpnbaaW.PrintWords Go.Proofs.YtoljdfgkkkpnbaaW.PrintLast Go.Proofs.YtoljdfgkkkpnbaaW.PrintMore
attribute [local go_sem] max2_int min2_int max_two min_two max_three min_three max_four min_four   -- for this text's walks alone
set_option linter.unusedVariables false
set_option linter.unusedSimpArgs false

attribute [local go_sem high] eqA65
/-! ### medlarref02_Same: function 32 -/
def medlarref02_Same.l0 : Nat → List Int → List Int → Int → Int → Option (Bool)
  | 0, _, _, _, _ => none
  | k + 1, x0, x1, x12, x13 => if x13 < x12 then (if 0 ≤ x13 then (if x13 < (x0.length : Int) then (if x13 < (x1.length : Int) then (if (rd x0 x13) = (rd x1 x13) then (medlarref02_Same.l0 k x0 x1 x12 (wrap64 (x13 + 1))) else (some false)) else (none)) else (none)) else (none)) else (some true)
def medlarref02_Same.f (k : Nat) (l0 : List Int) (l1 : List Int) : Option (Bool) := if (l0.length : Int) = (l1.length : Int) then (medlarref02_Same.l0 k l0 l1 (l0.length : Int) 0) else (some false)
theorem medlarref02_Same.mono_l : ∀ k, (∀ y0 y1 y2 y3, LeO (medlarref02_Same.l0 k y0 y1 y2 y3) (medlarref02_Same.l0 (k + 1) y0 y1 y2 y3))
  | 0 => fun _ _ _ _ r h => by simp [medlarref02_Same.l0] at h
  | k + 1 => by
    have ih0 := medlarref02_Same.mono_l k
    · intro y0 y1 y2 y3
      unfold medlarref02_Same.l0
      repeat' first
      | (with_reducible exact ih0 _ _ _ _)
      | (with_reducible exact LeO.refl _)
      | (with_reducible exact LeO.none _)
      | (with_reducible refine LeO.ite ?_ ?_)
      | (with_reducible refine LeO.bind ?_ (fun _ => ?_))
      | exact ih0 _ _ _ _
      | exact LeO.none _
      | refine LeO.ite ?_ ?_
      | refine LeO.bind ?_ (fun _ => ?_)
theorem medlarref02_Same.mono : ∀ a0 a1 k, LeO (medlarref02_Same.f k a0 a1) (medlarref02_Same.f (k + 1) a0 a1) := by
  intro a0 a1 k
  have ih0 := medlarref02_Same.mono_l k
  unfold medlarref02_Same.f
  repeat' first
      | (with_reducible exact ih0 _ _ _ _)
      | (with_reducible exact LeO.refl _)
      | (with_reducible exact LeO.none _)
      | (with_reducible refine LeO.ite ?_ ?_)
      | (with_reducible refine LeO.bind ?_ (fun _ => ?_))
      | exact ih0 _ _ _ _
      | exact LeO.none _
      | refine LeO.ite ?_ ?_
      | refine LeO.bind ?_ (fun _ => ?_)
set_option maxHeartbeats 8000000 in
set_option maxRecDepth 100000 in
theorem medlarref02_Same.calls (k : Nat) (A0 : Option Addr) (c0 : Nat) (l0 : List Int) (A1 : Option Addr) (c1 : Nat) (l1 : List Int) (r : Bool) (w : World) (hr0 : Kd.C (Kd.int .u64) w A0 l0.length l0) (hc0 : l0.length ≤ c0) (hr1 : Kd.C (Kd.int .u64) w A1 l1.length l1) (hc1 : l1.length ≤ c1) (h : medlarref02_Same.f k l0 l1 = some r) :
    Calls Try.prog 32 #[.slice A0 l0.length c0, .slice A1 l1.length c1] w fun e w' => e = .returned (.bool r) ∧ Drawn0 w w' := by
  have HR0 := Aside0.mk hr0
  have HC0 := Aside0.mk hc0
  clear hr0 hc0
  have HR1 := Aside0.mk hr1
  have HC1 := Aside0.mk hc1
  clear hr1 hc1
  have H : (if (l0.length : Int) = (l1.length : Int) then (medlarref02_Same.l0 k l0 l1 (l0.length : Int) 0) else (some false)) = some r := h
  clear h
  by_cases c3 : (l0.length : Int) = (l1.length : Int)
  · rw [if_pos c3] at H
    have c3b0 : ((l0.length : Int) == (l1.length : Int)) = true := beq_iff_eq.mpr c3
    have c3b1 : ((l0.length : Int) != (l1.length : Int)) = false := bne_eq_false_iff_eq.mpr c3
    have c3b2 : (l0.length == l1.length) = true := by first | simpa using c3 | (simp at c3 ⊢; omega)
    clear c3
    have H' := Aside0.mk H
    clear H
    go_enter Try.func32, Try.ntmps32
    go_wp2
    repeat (go_quiet (fail); try go_wp2)
    go_loopg [13] k (fun kq v13 w' => ∃ (x13_1 : Int), v13 = .int .i64 x13_1 ∧ Aside0 (medlarref02_Same.l0 kq l0 l1 (l0.length : Int) x13_1 = some r) ∧ Aside0 (kq ≤ k) ∧ Drawn0 w w')
    case atStart => exact ⟨(0), (by first | rfl | (simp; done) | (simp [*]; done)), H', ⟨Nat.le_refl _⟩, by repeat (first | exact Drawn0.refl _ | apply Drawn0.step)⟩
    case round =>
      clear H'
      try clear c1
      try clear p2
      try clear c3
      try clear c3b0
      try clear c3b1
      try clear c3b2
      obtain ⟨x13_1, rfl, HA, HK1, ⟨m1, rfl⟩⟩ := hrel
      cases gk with
      | zero => exact absurd HA.out (by simp [medlarref02_Same.l0])
      | succ k1 =>
        have H := HA.out
        clear HA
        simp only [medlarref02_Same.l0] at H
        by_cases c4 : x13_1 < (l0.length : Int)
        · rw [if_pos c4] at H
          have c4b0 : decide (x13_1 < (l0.length : Int)) = true := decide_eq_true c4
          clear c4
          by_cases c5 : 0 ≤ x13_1
          · rw [if_pos c5] at H
            have c5b0 : decide (0 ≤ x13_1) = true := decide_eq_true c5
            clear c5
            by_cases c6 : x13_1 < (l0.length : Int)
            · rw [if_pos c6] at H
              have c6b0 : decide (x13_1 < (l0.length : Int)) = true := decide_eq_true c6
              clear c6
              by_cases c7 : x13_1 < (l1.length : Int)
              · rw [if_pos c7] at H
                have c7b0 : decide (x13_1 < (l1.length : Int)) = true := decide_eq_true c7
                clear c7
                by_cases c8 : (rd l0 x13_1) = (rd l1 x13_1)
                · rw [if_pos c8] at H
                  have c8b0 : ((rd l0 x13_1) == (rd l1 x13_1)) = true := beq_iff_eq.mpr c8
                  have c8b1 : ((rd l0 x13_1) != (rd l1 x13_1)) = false := bne_eq_false_iff_eq.mpr c8
                  clear c8
                  have H' := Aside0.mk H
                  clear H
                  have p486 : 0 ≤ (x13_1 : Int) := of_decide_eq_true (by first | (with_reducible assumption) | assumption)
                  have q486 : x13_1 < (l0.length : Int) := of_decide_eq_true (by first | (with_reducible assumption) | assumption)
                  obtain ⟨ad486, e486, hx486_0⟩ := Kd.at_int HR0.out x13_1 p486 q486
                  cases e486
                  replace p486 := eq_true p486
                  replace q486 := eq_true q486
                  have p487 : 0 ≤ (x13_1 : Int) := of_decide_eq_true (by first | (with_reducible assumption) | assumption)
                  have q487 : x13_1 < (l1.length : Int) := of_decide_eq_true (by first | (with_reducible assumption) | assumption)
                  obtain ⟨ad487, e487, hx487_0⟩ := Kd.at_int HR1.out x13_1 p487 q487
                  cases e487
                  replace p487 := eq_true p487
                  replace q487 := eq_true q487
                  go_wp2
                  repeat (go_quiet (fail); try go_wp2)
                  go_roundg k1
                  case measure => have := HK1.out; omega
                  case rel => exact ⟨(wrap64 (x13_1 + 1)), (by first | rfl | (simp; done) | (simp [*]; done)), H', ⟨by have := HK1.out; omega⟩, by repeat (first | exact Drawn0.refl _ | apply Drawn0.step)⟩
                · rw [if_neg c8] at H
                  have c8b0 : ((rd l0 x13_1) == (rd l1 x13_1)) = false := beq_eq_false_iff_ne.mpr c8
                  have c8b1 : ((rd l0 x13_1) != (rd l1 x13_1)) = true := bne_iff_ne.mpr c8
                  obtain rfl := Option.some.inj H
                  have p486 : 0 ≤ (x13_1 : Int) := of_decide_eq_true (by first | (with_reducible assumption) | assumption)
                  have q486 : x13_1 < (l0.length : Int) := of_decide_eq_true (by first | (with_reducible assumption) | assumption)
                  obtain ⟨ad486, e486, hx486_0⟩ := Kd.at_int HR0.out x13_1 p486 q486
                  cases e486
                  replace p486 := eq_true p486
                  replace q486 := eq_true q486
                  have p487 : 0 ≤ (x13_1 : Int) := of_decide_eq_true (by first | (with_reducible assumption) | assumption)
                  have q487 : x13_1 < (l1.length : Int) := of_decide_eq_true (by first | (with_reducible assumption) | assumption)
                  obtain ⟨ad487, e487, hx487_0⟩ := Kd.at_int HR1.out x13_1 p487 q487
                  cases e487
                  replace p487 := eq_true p487
                  replace q487 := eq_true q487
                  go_wp2
                  repeat (go_quiet (fail); try go_wp2)
                  go_ret
                  exact ⟨by first | rfl | (simp; done) | (simp [*]; done), by repeat (first | exact Drawn0.refl _ | apply Drawn0.step)⟩
              · rw [if_neg c7] at H
                exact absurd H (by simp)
            · rw [if_neg c6] at H
              exact absurd H (by simp)
          · rw [if_neg c5] at H
            exact absurd H (by simp)
        · rw [if_neg c4] at H
          have c4b0 : decide (x13_1 < (l0.length : Int)) = false := decide_eq_false c4
          clear c4
          obtain rfl := Option.some.inj H
          go_wp2
          repeat (go_quiet (fail); try go_wp2)
          go_ret
          exact ⟨by first | rfl | (simp; done) | (simp [*]; done), by repeat (first | exact Drawn0.refl _ | apply Drawn0.step)⟩
  · rw [if_neg c3] at H
    have c3b0 : ((l0.length : Int) == (l1.length : Int)) = false := beq_eq_false_iff_ne.mpr c3
    have c3b1 : ((l0.length : Int) != (l1.length : Int)) = true := bne_iff_ne.mpr c3
    have c3b2 : (l0.length == l1.length) = false := by first | simpa using c3 | (simp at c3 ⊢; omega)
    obtain rfl := Option.some.inj H
    go_enter Try.func32, Try.ntmps32
    go_wp2
    repeat (go_quiet (fail); try go_wp2)
    go_ret
    exact ⟨by first | rfl | (simp; done) | (simp [*]; done), by repeat (first | exact Drawn0.refl _ | apply Drawn0.step)⟩

/-! ### api_Entry_82: function 82 -/
def api_Entry_82.l0 : Nat → List (S65) → List (S65) → Int → Int → Option (Bool)
  | 0, _, _, _, _ => none
  | k + 1, x0, x1, x12, x13 => if x13 < x12 then (if 0 ≤ x13 then (if x13 < (x0.length : Int) then (if x13 < (x1.length : Int) then (if ((!(((rd_T65 x0 x13).f0.f0) == ((rd_T65 x1 x13).f0.f0)) || (!(((rd_T65 x0 x13).f0.f1) == ((rd_T65 x1 x13).f0.f1)))) || ((!(((rd_T65 x0 x13).f1.f0) == ((rd_T65 x1 x13).f1.f0)) || (!(((rd_T65 x0 x13).f1.f1) == ((rd_T65 x1 x13).f1.f1)) || ((!(((rd_T65 x0 x13).f1.f2.f0) == ((rd_T65 x1 x13).f1.f2.f0)) || (!(((rd_T65 x0 x13).f1.f2.f1) == ((rd_T65 x1 x13).f1.f2.f1)))) || (((!(((rd_T65 x0 x13).f1.f3.f0.f0) == ((rd_T65 x1 x13).f1.f3.f0.f0)) || (!(((rd_T65 x0 x13).f1.f3.f0.f1) == ((rd_T65 x1 x13).f1.f3.f0.f1)))) || ((!(((rd_T65 x0 x13).f1.f3.f1.f0) == ((rd_T65 x1 x13).f1.f3.f1.f0)) || (!(((rd_T65 x0 x13).f1.f3.f1.f1) == ((rd_T65 x1 x13).f1.f3.f1.f1)))))) || (!(((rd_T65 x0 x13).f1.f4) == ((rd_T65 x1 x13).f1.f4))))))))) = true then (some false) else (api_Entry_82.l0 k x0 x1 x12 (wrap64 (x13 + 1)))) else (none)) else (none)) else (none)) else (some true)
def api_Entry_82.f (k : Nat) (l0 : List (S65)) (l1 : List (S65)) : Option (Bool) := if (l0.length : Int) = (l1.length : Int) then (api_Entry_82.l0 k l0 l1 (l0.length : Int) 0) else (some false)
theorem api_Entry_82.mono_l : ∀ k, (∀ y0 y1 y2 y3, LeO (api_Entry_82.l0 k y0 y1 y2 y3) (api_Entry_82.l0 (k + 1) y0 y1 y2 y3))
  | 0 => fun _ _ _ _ r h => by simp [api_Entry_82.l0] at h
  | k + 1 => by
    have ih0 := api_Entry_82.mono_l k
    · intro y0 y1 y2 y3
      unfold api_Entry_82.l0
      repeat' first
      | (with_reducible exact ih0 _ _ _ _)
      | (with_reducible exact LeO.refl _)
      | (with_reducible exact LeO.none _)
      | (with_reducible refine LeO.ite ?_ ?_)
      | (with_reducible refine LeO.bind ?_ (fun _ => ?_))
      | exact ih0 _ _ _ _
      | exact LeO.none _
      | refine LeO.ite ?_ ?_
      | refine LeO.bind ?_ (fun _ => ?_)
theorem api_Entry_82.mono : ∀ a0 a1 k, LeO (api_Entry_82.f k a0 a1) (api_Entry_82.f (k + 1) a0 a1) := by
  intro a0 a1 k
  have ih0 := api_Entry_82.mono_l k
  unfold api_Entry_82.f
  repeat' first
      | (with_reducible exact ih0 _ _ _ _)
      | (with_reducible exact LeO.refl _)
      | (with_reducible exact LeO.none _)
      | (with_reducible refine LeO.ite ?_ ?_)
      | (with_reducible refine LeO.bind ?_ (fun _ => ?_))
      | exact ih0 _ _ _ _
      | exact LeO.none _
      | refine LeO.ite ?_ ?_
      | refine LeO.bind ?_ (fun _ => ?_)
set_option maxHeartbeats 8000000 in
set_option maxRecDepth 100000 in
theorem api_Entry_82.calls (k : Nat) (A0 : Option Addr) (c0 : Nat) (l0 : List (S65)) (A1 : Option Addr) (c1 : Nat) (l1 : List (S65)) (r : Bool) (w : World) (hr0 : Kd.C k65 w A0 l0.length l0) (hc0 : l0.length ≤ c0) (hr1 : Kd.C k65 w A1 l1.length l1) (hc1 : l1.length ≤ c1) (h : api_Entry_82.f k l0 l1 = some r) :
    Calls Try.prog 82 #[.slice A0 l0.length c0, .slice A1 l1.length c1] w fun e w' => e = .returned (.bool r) ∧ Drawn0 w w' := by
  have hu65 := Try.underlying65
  have HR0 := Aside0.mk hr0
  have HC0 := Aside0.mk hc0
  clear hr0 hc0
  have HR1 := Aside0.mk hr1
  have HC1 := Aside0.mk hc1
  clear hr1 hc1
  have H : (if (l0.length : Int) = (l1.length : Int) then (api_Entry_82.l0 k l0 l1 (l0.length : Int) 0) else (some false)) = some r := h
  clear h
  by_cases c3 : (l0.length : Int) = (l1.length : Int)
  · rw [if_pos c3] at H
    have c3b0 : ((l0.length : Int) == (l1.length : Int)) = true := beq_iff_eq.mpr c3
    have c3b1 : ((l0.length : Int) != (l1.length : Int)) = false := bne_eq_false_iff_eq.mpr c3
    have c3b2 : (l0.length == l1.length) = true := by first | simpa using c3 | (simp at c3 ⊢; omega)
    clear c3
    have H' := Aside0.mk H
    clear H
    go_enter Try.func82, Try.ntmps82
    go_wp2
    repeat (go_quiet (fail); try go_wp2)
    go_loopg [13] k (fun kq v13 w' => ∃ (x13_1 : Int), v13 = .int .i64 x13_1 ∧ Aside0 (api_Entry_82.l0 kq l0 l1 (l0.length : Int) x13_1 = some r) ∧ Aside0 (kq ≤ k) ∧ Drawn0 w w')
    case atStart => exact ⟨(0), (by first | rfl | (simp; done) | (simp [*]; done)), H', ⟨Nat.le_refl _⟩, by repeat (first | exact Drawn0.refl _ | apply Drawn0.step)⟩
    case round =>
      clear H'
      try clear c1
      try clear p2
      try clear c3
      try clear c3b0
      try clear c3b1
      try clear c3b2
      obtain ⟨x13_1, rfl, HA, HK1, ⟨m1, rfl⟩⟩ := hrel
      cases gk with
      | zero => exact absurd HA.out (by simp [api_Entry_82.l0])
      | succ k1 =>
        have H := HA.out
        clear HA
        simp only [api_Entry_82.l0] at H
        by_cases c4 : x13_1 < (l0.length : Int)
        · rw [if_pos c4] at H
          have c4b0 : decide (x13_1 < (l0.length : Int)) = true := decide_eq_true c4
          clear c4
          by_cases c5 : 0 ≤ x13_1
          · rw [if_pos c5] at H
            have c5b0 : decide (0 ≤ x13_1) = true := decide_eq_true c5
            clear c5
            by_cases c6 : x13_1 < (l0.length : Int)
            · rw [if_pos c6] at H
              have c6b0 : decide (x13_1 < (l0.length : Int)) = true := decide_eq_true c6
              clear c6
              by_cases c7 : x13_1 < (l1.length : Int)
              · rw [if_pos c7] at H
                have c7b0 : decide (x13_1 < (l1.length : Int)) = true := decide_eq_true c7
                clear c7
                by_cases c8 : ((!(((rd_T65 l0 x13_1).f0.f0) == ((rd_T65 l1 x13_1).f0.f0)) || (!(((rd_T65 l0 x13_1).f0.f1) == ((rd_T65 l1 x13_1).f0.f1)))) || ((!(((rd_T65 l0 x13_1).f1.f0) == ((rd_T65 l1 x13_1).f1.f0)) || (!(((rd_T65 l0 x13_1).f1.f1) == ((rd_T65 l1 x13_1).f1.f1)) || ((!(((rd_T65 l0 x13_1).f1.f2.f0) == ((rd_T65 l1 x13_1).f1.f2.f0)) || (!(((rd_T65 l0 x13_1).f1.f2.f1) == ((rd_T65 l1 x13_1).f1.f2.f1)))) || (((!(((rd_T65 l0 x13_1).f1.f3.f0.f0) == ((rd_T65 l1 x13_1).f1.f3.f0.f0)) || (!(((rd_T65 l0 x13_1).f1.f3.f0.f1) == ((rd_T65 l1 x13_1).f1.f3.f0.f1)))) || ((!(((rd_T65 l0 x13_1).f1.f3.f1.f0) == ((rd_T65 l1 x13_1).f1.f3.f1.f0)) || (!(((rd_T65 l0 x13_1).f1.f3.f1.f1) == ((rd_T65 l1 x13_1).f1.f3.f1.f1)))))) || (!(((rd_T65 l0 x13_1).f1.f4) == ((rd_T65 l1 x13_1).f1.f4))))))))) = true
                · rw [if_pos c8] at H
                  have c8b0 : ((!(((rd_T65 l0 x13_1).f0.f0) == ((rd_T65 l1 x13_1).f0.f0)) || (!(((rd_T65 l0 x13_1).f0.f1) == ((rd_T65 l1 x13_1).f0.f1)))) || ((!(((rd_T65 l0 x13_1).f1.f0) == ((rd_T65 l1 x13_1).f1.f0)) || (!(((rd_T65 l0 x13_1).f1.f1) == ((rd_T65 l1 x13_1).f1.f1)) || ((!(((rd_T65 l0 x13_1).f1.f2.f0) == ((rd_T65 l1 x13_1).f1.f2.f0)) || (!(((rd_T65 l0 x13_1).f1.f2.f1) == ((rd_T65 l1 x13_1).f1.f2.f1)))) || (((!(((rd_T65 l0 x13_1).f1.f3.f0.f0) == ((rd_T65 l1 x13_1).f1.f3.f0.f0)) || (!(((rd_T65 l0 x13_1).f1.f3.f0.f1) == ((rd_T65 l1 x13_1).f1.f3.f0.f1)))) || ((!(((rd_T65 l0 x13_1).f1.f3.f1.f0) == ((rd_T65 l1 x13_1).f1.f3.f1.f0)) || (!(((rd_T65 l0 x13_1).f1.f3.f1.f1) == ((rd_T65 l1 x13_1).f1.f3.f1.f1)))))) || (!(((rd_T65 l0 x13_1).f1.f4) == ((rd_T65 l1 x13_1).f1.f4))))))))) = true := c8
                  clear c8
                  obtain rfl := Option.some.inj H
                  have p488 : 0 ≤ (x13_1 : Int) := of_decide_eq_true (by first | (with_reducible assumption) | assumption)
                  have q488 : x13_1 < (l0.length : Int) := of_decide_eq_true (by first | (with_reducible assumption) | assumption)
                  obtain ⟨ad488, e488, hx488_0, hx488_1, hx488_2, hx488_3, hx488_4, hx488_5, hx488_6, hx488_7, hx488_8, hx488_9, hx488_10⟩ := at_T65 HR0.out x13_1 p488 q488
                  cases e488
                  replace p488 := eq_true p488
                  replace q488 := eq_true q488
                  have p489 : 0 ≤ (x13_1 : Int) := of_decide_eq_true (by first | (with_reducible assumption) | assumption)
                  have q489 : x13_1 < (l1.length : Int) := of_decide_eq_true (by first | (with_reducible assumption) | assumption)
                  obtain ⟨ad489, e489, hx489_0, hx489_1, hx489_2, hx489_3, hx489_4, hx489_5, hx489_6, hx489_7, hx489_8, hx489_9, hx489_10⟩ := at_T65 HR1.out x13_1 p489 q489
                  cases e489
                  replace p489 := eq_true p489
                  replace q489 := eq_true q489
                  go_wp2
                  repeat (go_quiet (fail); try go_wp2)
                  go_ret
                  exact ⟨by first | rfl | (simp; done) | (simp [*]; done), by repeat (first | exact Drawn0.refl _ | apply Drawn0.step)⟩
                · rw [if_neg c8] at H
                  have c8b0 : ((!(((rd_T65 l0 x13_1).f0.f0) == ((rd_T65 l1 x13_1).f0.f0)) || (!(((rd_T65 l0 x13_1).f0.f1) == ((rd_T65 l1 x13_1).f0.f1)))) || ((!(((rd_T65 l0 x13_1).f1.f0) == ((rd_T65 l1 x13_1).f1.f0)) || (!(((rd_T65 l0 x13_1).f1.f1) == ((rd_T65 l1 x13_1).f1.f1)) || ((!(((rd_T65 l0 x13_1).f1.f2.f0) == ((rd_T65 l1 x13_1).f1.f2.f0)) || (!(((rd_T65 l0 x13_1).f1.f2.f1) == ((rd_T65 l1 x13_1).f1.f2.f1)))) || (((!(((rd_T65 l0 x13_1).f1.f3.f0.f0) == ((rd_T65 l1 x13_1).f1.f3.f0.f0)) || (!(((rd_T65 l0 x13_1).f1.f3.f0.f1) == ((rd_T65 l1 x13_1).f1.f3.f0.f1)))) || ((!(((rd_T65 l0 x13_1).f1.f3.f1.f0) == ((rd_T65 l1 x13_1).f1.f3.f1.f0)) || (!(((rd_T65 l0 x13_1).f1.f3.f1.f1) == ((rd_T65 l1 x13_1).f1.f3.f1.f1)))))) || (!(((rd_T65 l0 x13_1).f1.f4) == ((rd_T65 l1 x13_1).f1.f4))))))))) = false := by simpa using c8
                  clear c8
                  have H' := Aside0.mk H
                  clear H
                  have p488 : 0 ≤ (x13_1 : Int) := of_decide_eq_true (by first | (with_reducible assumption) | assumption)
                  have q488 : x13_1 < (l0.length : Int) := of_decide_eq_true (by first | (with_reducible assumption) | assumption)
                  obtain ⟨ad488, e488, hx488_0, hx488_1, hx488_2, hx488_3, hx488_4, hx488_5, hx488_6, hx488_7, hx488_8, hx488_9, hx488_10⟩ := at_T65 HR0.out x13_1 p488 q488
                  cases e488
                  replace p488 := eq_true p488
                  replace q488 := eq_true q488
                  have p489 : 0 ≤ (x13_1 : Int) := of_decide_eq_true (by first | (with_reducible assumption) | assumption)
                  have q489 : x13_1 < (l1.length : Int) := of_decide_eq_true (by first | (with_reducible assumption) | assumption)
                  obtain ⟨ad489, e489, hx489_0, hx489_1, hx489_2, hx489_3, hx489_4, hx489_5, hx489_6, hx489_7, hx489_8, hx489_9, hx489_10⟩ := at_T65 HR1.out x13_1 p489 q489
                  cases e489
                  replace p489 := eq_true p489
                  replace q489 := eq_true q489
                  go_wp2
                  repeat (go_quiet (fail); try go_wp2)
                  go_roundg k1
                  case measure => have := HK1.out; omega
                  case rel => exact ⟨(wrap64 (x13_1 + 1)), (by first | rfl | (simp; done) | (simp [*]; done)), H', ⟨by have := HK1.out; omega⟩, by repeat (first | exact Drawn0.refl _ | apply Drawn0.step)⟩
              · rw [if_neg c7] at H
                exact absurd H (by simp)
            · rw [if_neg c6] at H
              exact absurd H (by simp)
          · rw [if_neg c5] at H
            exact absurd H (by simp)
        · rw [if_neg c4] at H
          have c4b0 : decide (x13_1 < (l0.length : Int)) = false := decide_eq_false c4
          clear c4
          obtain rfl := Option.some.inj H
          go_wp2
          repeat (go_quiet (fail); try go_wp2)
          go_ret
          exact ⟨by first | rfl | (simp; done) | (simp [*]; done), by repeat (first | exact Drawn0.refl _ | apply Drawn0.step)⟩
  · rw [if_neg c3] at H
    have c3b0 : ((l0.length : Int) == (l1.length : Int)) = false := beq_eq_false_iff_ne.mpr c3
    have c3b1 : ((l0.length : Int) != (l1.length : Int)) = true := bne_iff_ne.mpr c3
    have c3b2 : (l0.length == l1.length) = false := by first | simpa using c3 | (simp at c3 ⊢; omega)
    obtain rfl := Option.some.inj H
    go_enter Try.func82, Try.ntmps82
    go_wp2
    repeat (go_quiet (fail); try go_wp2)
    go_ret
    exact ⟨by first | rfl | (simp; done) | (simp [*]; done), by repeat (first | exact Drawn0.refl _ | apply Drawn0.step)⟩

/-! ### store_Same: function 38 -/
def store_Same.f (k : Nat) (l0 : List (S65)) (l1 : List (S65)) : Option (Bool) := (api_Entry_82.f k l0 l1).bind fun t490 => (some t490)
theorem store_Same.mono : ∀ a0 a1 k, LeO (store_Same.f k a0 a1) (store_Same.f (k + 1) a0 a1) := by
  intro a0 a1 k
  unfold store_Same.f
  repeat' first
      | (with_reducible exact api_Entry_82.mono _ _ _)
      | (with_reducible exact LeO.refl _)
      | (with_reducible exact LeO.none _)
      | (with_reducible refine LeO.ite ?_ ?_)
      | (with_reducible refine LeO.bind ?_ (fun _ => ?_))
      | exact api_Entry_82.mono _ _ _
      | exact LeO.none _
      | refine LeO.ite ?_ ?_
      | refine LeO.bind ?_ (fun _ => ?_)
set_option maxHeartbeats 8000000 in
set_option maxRecDepth 100000 in
theorem store_Same.calls (k : Nat) (A0 : Option Addr) (c0 : Nat) (l0 : List (S65)) (A1 : Option Addr) (c1 : Nat) (l1 : List (S65)) (r : Bool) (w : World) (hr0 : Kd.C k65 w A0 l0.length l0) (hc0 : l0.length ≤ c0) (hr1 : Kd.C k65 w A1 l1.length l1) (hc1 : l1.length ≤ c1) (h : store_Same.f k l0 l1 = some r) :
    Calls Try.prog 38 #[.slice A0 l0.length c0, .slice A1 l1.length c1] w fun e w' => e = .returned (.bool r) ∧ Drawn0 w w' := by
  have HR0 := Aside0.mk hr0
  have HC0 := Aside0.mk hc0
  clear hr0 hc0
  have HR1 := Aside0.mk hr1
  have HC1 := Aside0.mk hc1
  clear hr1 hc1
  have H : ((api_Entry_82.f k l0 l1).bind fun t490 => (some t490)) = some r := h
  clear h
  replace H := Option.bind_eq_some_iff.mp H
  obtain ⟨t490, A30, H⟩ := H
  replace H : (some t490) = some r := H
  have A3 := Aside0.mk A30
  clear A30
  obtain rfl := Option.some.inj H
  go_enter Try.func38, Try.ntmps38
  go_wp2_with (first | ((with_reducible refine gate_callee (f := 82) rfl ?_); refine goesL_ (some 7) rfl rfl Try.func82 (by kernel_rfl) rfl #[.slice A0 l0.length c0, .slice A1 l1.length c1] rfl (by (try simp only [List.map_toArray, List.map_cons, List.map_nil]); first | done | rfl | (simp only [List.length_drop, List.length_take]; rfl)) ?_; (with_reducible refine (api_Entry_82.calls k _ _ l0 _ _ l1 t490 _ ?side1 ?side2 ?side3 ?side4 A3.out).mono ?_); (case side1 => repeat (first | exact HR0.out | (with_reducible refine Kd.C_alloc ?_ _) | (with_reducible refine Kd.C_drewN ?_ _) | (with_reducible refine Kd.C_drew ?_))); (case side2 => exact HC0.out); (case side3 => repeat (first | exact HR1.out | (with_reducible refine Kd.C_alloc ?_ _) | (with_reducible refine Kd.C_drewN ?_ _) | (with_reducible refine Kd.C_drew ?_))); (case side4 => exact HC1.out); rintro e w' ⟨rfl, ⟨nd, rfl⟩⟩; refine ⟨_, rfl, ?_⟩))
  go_ret
  exact ⟨by first | rfl | (simp; done) | (simp [*]; done), by repeat (first | exact Drawn0.refl _ | apply Drawn0.step)⟩

end Go.Proofs.Ytoljdfgkkkpnbaa.MP
