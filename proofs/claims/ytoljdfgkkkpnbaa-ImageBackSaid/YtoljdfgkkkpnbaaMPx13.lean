-- written by a program of this session (wip/tools/mprint.sh) for this seat
import Derived.Test.YtoljdfgkkkpnbaaMPx0
import Derived.Test.YtoljdfgkkkpnbaaMPx3
import Derived.Test.YtoljdfgkkkpnbaaMPx5
import Derived.Test.YtoljdfgkkkpnbaaMPx7
import Derived.Test.YtoljdfgkkkpnbaaMPx10
import Derived.Test.YtoljdfgkkkpnbaaMPx12
namespace Go.Proofs.Ytoljdfgkkkpnbaa.MP
open Go.RowKit Go.Proofs.YtoljdfgkkkpnbaaW.PrintWords Go.Proofs.YtoljdfgkkkpnbaaW.PrintLast Go.Proofs.YtoljdfgkkkpnbaaW.PrintMore
attribute [local go_sem] max2_int min2_int max_two min_two max_three min_three max_four min_four   -- for this text's walks alone
set_option linter.unusedVariables false
set_option linter.unusedSimpArgs false

/-! ### medlarlaw17_ImageBack: function 11 -/
mutual
def medlarlaw17_ImageBack.j0 : Nat → Int → Int → Int → List (S65) → List Int → List Int → Bool → Bool → Option (Bool)
  | 0, _, _, _, _, _, _, _, _ => none
  | k + 1, x0, x1, x2, x3, x4, x5, x13, x51 => if x51 = true then (some x13) else ((image_Store.f k x0 x1 x2 x3).bind fun bt492 => (if bt492.2 = 0 then ((image_Read.f k bt492.1).bind fun bt496 => (if bt496.2.2.2.2 = 0 then (if bt496.1 = x0 then (if bt496.2.1 = x1 then (if bt496.2.2.1 = x2 then ((store_Same.f k bt496.2.2.2.1 x3).bind fun t503 => (if t503 = true then (if (bt492.1.length : Int) = (wrap64 (11 + (wrap64 (16 * (x3.length : Int))))) then (medlarlaw17_ImageBack.j1 k x0 x4 x5 x13) else (some false)) else (some false))) else (some false)) else (some false)) else (some false)) else (some false))) else (medlarlaw17_ImageBack.j1 k x0 x4 x5 x13)))
def medlarlaw17_ImageBack.j1 : Nat → Int → List Int → List Int → Bool → Option (Bool)
  | 0, _, _, _, _ => none
  | k + 1, x0, x4, x5, x13 => (image_Set.f k x0 x4).bind fun bt504 => (if bt504.2 = 0 then ((image_Leaves.f k bt504.1).bind fun bt508 => (if bt508.2.2 = 0 then (if bt508.1 = x0 then ((medlarref02_Same.f k bt508.2.1 x4).bind fun t513 => (if t513 = true then (if (bt504.1.length : Int) = (wrap64 (7 + (wrap64 (8 * (x4.length : Int))))) then (medlarlaw17_ImageBack.j2 k x5 x13) else (some false)) else (some false))) else (some false)) else (some false))) else (medlarlaw17_ImageBack.j2 k x5 x13))
def medlarlaw17_ImageBack.j2 : Nat → List Int → Bool → Option (Bool)
  | 0, _, _ => none
  | k + 1, x5, x13 => (image_Read.f k x5).bind fun bt514 => (if bt514.2.2.2.2 = 0 then ((image_Store.f k bt514.1 bt514.2.1 bt514.2.2.1 bt514.2.2.2.1).bind fun bt521 => (if bt521.2 = 0 then (if (strOfNums bt521.1).toList = (strOfNums x5).toList then (medlarlaw17_ImageBack.j3 k x5 x13 bt514.2.2.2.2) else (some false)) else (some false))) else (medlarlaw17_ImageBack.j3 k x5 x13 bt514.2.2.2.2))
def medlarlaw17_ImageBack.j3 : Nat → List Int → Bool → Int → Option (Bool)
  | 0, _, _, _ => none
  | k + 1, x5, x13, x30 => (image_Leaves.f k x5).bind fun bt525 => (if bt525.2.2 = 0 then ((image_Set.f k bt525.1 bt525.2.1).bind fun bt530 => (if bt530.2 = 0 then (if (strOfNums bt530.1).toList = (strOfNums x5).toList then (if x30 = 0 then (some false) else (some x13)) else (some false)) else (some false))) else (some x13))
end
def medlarlaw17_ImageBack.f (k : Nat) (a0 : Int) (a1 : Int) (a2 : Int) (l3 : List (S65)) (l4 : List Int) (l5 : List Int) : Option (Bool) := (medlarlaw17_live.f k).bind fun t491 => (if (l3.length : Int) > 600 then (medlarlaw17_ImageBack.j0 k a0 a1 a2 l3 l4 l5 t491 true) else (if (l4.length : Int) > 60 then (medlarlaw17_ImageBack.j0 k a0 a1 a2 l3 l4 l5 t491 true) else (medlarlaw17_ImageBack.j0 k a0 a1 a2 l3 l4 l5 t491 (decide ((l5.length : Int) > 9000)))))
theorem medlarlaw17_ImageBack.mono_l : ∀ k, (∀ y0 y1 y2 y3 y4 y5 y6 y7, LeO (medlarlaw17_ImageBack.j0 k y0 y1 y2 y3 y4 y5 y6 y7) (medlarlaw17_ImageBack.j0 (k + 1) y0 y1 y2 y3 y4 y5 y6 y7)) ∧ (∀ y0 y1 y2 y3, LeO (medlarlaw17_ImageBack.j1 k y0 y1 y2 y3) (medlarlaw17_ImageBack.j1 (k + 1) y0 y1 y2 y3)) ∧ (∀ y0 y1, LeO (medlarlaw17_ImageBack.j2 k y0 y1) (medlarlaw17_ImageBack.j2 (k + 1) y0 y1)) ∧ (∀ y0 y1 y2, LeO (medlarlaw17_ImageBack.j3 k y0 y1 y2) (medlarlaw17_ImageBack.j3 (k + 1) y0 y1 y2))
  | 0 => ⟨fun _ _ _ _ _ _ _ _ r h => by simp [medlarlaw17_ImageBack.j0] at h, fun _ _ _ _ r h => by simp [medlarlaw17_ImageBack.j1] at h, fun _ _ r h => by simp [medlarlaw17_ImageBack.j2] at h, fun _ _ _ r h => by simp [medlarlaw17_ImageBack.j3] at h⟩
  | k + 1 => by
    obtain ⟨ih0, ih1, ih2, ih3⟩ := medlarlaw17_ImageBack.mono_l k
    refine ⟨?_, ?_, ?_, ?_⟩
    · intro y0 y1 y2 y3 y4 y5 y6 y7
      unfold medlarlaw17_ImageBack.j0
      repeat' first
      | (with_reducible exact ih0 _ _ _ _ _ _ _ _)
      | (with_reducible exact ih1 _ _ _ _)
      | (with_reducible exact ih2 _ _)
      | (with_reducible exact ih3 _ _ _)
      | (with_reducible exact image_Leaves.mono _ _)
      | (with_reducible exact image_Read.mono _ _)
      | (with_reducible exact image_Set.mono _ _ _)
      | (with_reducible exact image_Store.mono _ _ _ _ _)
      | (with_reducible exact medlarlaw17_live.mono _)
      | (with_reducible exact medlarref02_Same.mono _ _ _)
      | (with_reducible exact store_Same.mono _ _ _)
      | (with_reducible exact LeO.refl _)
      | (with_reducible exact LeO.none _)
      | (with_reducible refine LeO.ite ?_ ?_)
      | (with_reducible refine LeO.bind ?_ (fun _ => ?_))
      | exact ih0 _ _ _ _ _ _ _ _
      | exact ih1 _ _ _ _
      | exact ih2 _ _
      | exact ih3 _ _ _
      | exact image_Leaves.mono _ _
      | exact image_Read.mono _ _
      | exact image_Set.mono _ _ _
      | exact image_Store.mono _ _ _ _ _
      | exact medlarlaw17_live.mono _
      | exact medlarref02_Same.mono _ _ _
      | exact store_Same.mono _ _ _
      | exact LeO.none _
      | refine LeO.ite ?_ ?_
      | refine LeO.bind ?_ (fun _ => ?_)
    · intro y0 y1 y2 y3
      unfold medlarlaw17_ImageBack.j1
      repeat' first
      | (with_reducible exact ih0 _ _ _ _ _ _ _ _)
      | (with_reducible exact ih1 _ _ _ _)
      | (with_reducible exact ih2 _ _)
      | (with_reducible exact ih3 _ _ _)
      | (with_reducible exact image_Leaves.mono _ _)
      | (with_reducible exact image_Read.mono _ _)
      | (with_reducible exact image_Set.mono _ _ _)
      | (with_reducible exact image_Store.mono _ _ _ _ _)
      | (with_reducible exact medlarlaw17_live.mono _)
      | (with_reducible exact medlarref02_Same.mono _ _ _)
      | (with_reducible exact store_Same.mono _ _ _)
      | (with_reducible exact LeO.refl _)
      | (with_reducible exact LeO.none _)
      | (with_reducible refine LeO.ite ?_ ?_)
      | (with_reducible refine LeO.bind ?_ (fun _ => ?_))
      | exact ih0 _ _ _ _ _ _ _ _
      | exact ih1 _ _ _ _
      | exact ih2 _ _
      | exact ih3 _ _ _
      | exact image_Leaves.mono _ _
      | exact image_Read.mono _ _
      | exact image_Set.mono _ _ _
      | exact image_Store.mono _ _ _ _ _
      | exact medlarlaw17_live.mono _
      | exact medlarref02_Same.mono _ _ _
      | exact store_Same.mono _ _ _
      | exact LeO.none _
      | refine LeO.ite ?_ ?_
      | refine LeO.bind ?_ (fun _ => ?_)
    · intro y0 y1
      unfold medlarlaw17_ImageBack.j2
      repeat' first
      | (with_reducible exact ih0 _ _ _ _ _ _ _ _)
      | (with_reducible exact ih1 _ _ _ _)
      | (with_reducible exact ih2 _ _)
      | (with_reducible exact ih3 _ _ _)
      | (with_reducible exact image_Leaves.mono _ _)
      | (with_reducible exact image_Read.mono _ _)
      | (with_reducible exact image_Set.mono _ _ _)
      | (with_reducible exact image_Store.mono _ _ _ _ _)
      | (with_reducible exact medlarlaw17_live.mono _)
      | (with_reducible exact medlarref02_Same.mono _ _ _)
      | (with_reducible exact store_Same.mono _ _ _)
      | (with_reducible exact LeO.refl _)
      | (with_reducible exact LeO.none _)
      | (with_reducible refine LeO.ite ?_ ?_)
      | (with_reducible refine LeO.bind ?_ (fun _ => ?_))
      | exact ih0 _ _ _ _ _ _ _ _
      | exact ih1 _ _ _ _
      | exact ih2 _ _
      | exact ih3 _ _ _
      | exact image_Leaves.mono _ _
      | exact image_Read.mono _ _
      | exact image_Set.mono _ _ _
      | exact image_Store.mono _ _ _ _ _
      | exact medlarlaw17_live.mono _
      | exact medlarref02_Same.mono _ _ _
      | exact store_Same.mono _ _ _
      | exact LeO.none _
      | refine LeO.ite ?_ ?_
      | refine LeO.bind ?_ (fun _ => ?_)
    · intro y0 y1 y2
      unfold medlarlaw17_ImageBack.j3
      repeat' first
      | (with_reducible exact ih0 _ _ _ _ _ _ _ _)
      | (with_reducible exact ih1 _ _ _ _)
      | (with_reducible exact ih2 _ _)
      | (with_reducible exact ih3 _ _ _)
      | (with_reducible exact image_Leaves.mono _ _)
      | (with_reducible exact image_Read.mono _ _)
      | (with_reducible exact image_Set.mono _ _ _)
      | (with_reducible exact image_Store.mono _ _ _ _ _)
      | (with_reducible exact medlarlaw17_live.mono _)
      | (with_reducible exact medlarref02_Same.mono _ _ _)
      | (with_reducible exact store_Same.mono _ _ _)
      | (with_reducible exact LeO.refl _)
      | (with_reducible exact LeO.none _)
      | (with_reducible refine LeO.ite ?_ ?_)
      | (with_reducible refine LeO.bind ?_ (fun _ => ?_))
      | exact ih0 _ _ _ _ _ _ _ _
      | exact ih1 _ _ _ _
      | exact ih2 _ _
      | exact ih3 _ _ _
      | exact image_Leaves.mono _ _
      | exact image_Read.mono _ _
      | exact image_Set.mono _ _ _
      | exact image_Store.mono _ _ _ _ _
      | exact medlarlaw17_live.mono _
      | exact medlarref02_Same.mono _ _ _
      | exact store_Same.mono _ _ _
      | exact LeO.none _
      | refine LeO.ite ?_ ?_
      | refine LeO.bind ?_ (fun _ => ?_)
theorem medlarlaw17_ImageBack.mono : ∀ a0 a1 a2 a3 a4 a5 k, LeO (medlarlaw17_ImageBack.f k a0 a1 a2 a3 a4 a5) (medlarlaw17_ImageBack.f (k + 1) a0 a1 a2 a3 a4 a5) := by
  intro a0 a1 a2 a3 a4 a5 k
  obtain ⟨ih0, ih1, ih2, ih3⟩ := medlarlaw17_ImageBack.mono_l k
  unfold medlarlaw17_ImageBack.f
  repeat' first
      | (with_reducible exact ih0 _ _ _ _ _ _ _ _)
      | (with_reducible exact ih1 _ _ _ _)
      | (with_reducible exact ih2 _ _)
      | (with_reducible exact ih3 _ _ _)
      | (with_reducible exact image_Leaves.mono _ _)
      | (with_reducible exact image_Read.mono _ _)
      | (with_reducible exact image_Set.mono _ _ _)
      | (with_reducible exact image_Store.mono _ _ _ _ _)
      | (with_reducible exact medlarlaw17_live.mono _)
      | (with_reducible exact medlarref02_Same.mono _ _ _)
      | (with_reducible exact store_Same.mono _ _ _)
      | (with_reducible exact LeO.refl _)
      | (with_reducible exact LeO.none _)
      | (with_reducible refine LeO.ite ?_ ?_)
      | (with_reducible refine LeO.bind ?_ (fun _ => ?_))
      | exact ih0 _ _ _ _ _ _ _ _
      | exact ih1 _ _ _ _
      | exact ih2 _ _
      | exact ih3 _ _ _
      | exact image_Leaves.mono _ _
      | exact image_Read.mono _ _
      | exact image_Set.mono _ _ _
      | exact image_Store.mono _ _ _ _ _
      | exact medlarlaw17_live.mono _
      | exact medlarref02_Same.mono _ _ _
      | exact store_Same.mono _ _ _
      | exact LeO.none _
      | refine LeO.ite ?_ ?_
      | refine LeO.bind ?_ (fun _ => ?_)
set_option maxHeartbeats 8000000 in
set_option maxRecDepth 100000 in
theorem medlarlaw17_ImageBack.calls (k : Nat) (a0 : Int) (a1 : Int) (a2 : Int) (A3 : Option Addr) (c3 : Nat) (l3 : List (S65)) (A4 : Option Addr) (c4 : Nat) (l4 : List Int) (A5 : Option Addr) (c5 : Nat) (l5 : List Int) (r : Bool) (w : World) (hr3 : Kd.C k65 w A3 l3.length l3) (hc3 : l3.length ≤ c3) (hr4 : Kd.C (Kd.int .u64) w A4 l4.length l4) (hc4 : l4.length ≤ c4) (hr5 : Kd.C (Kd.int .u8) w A5 l5.length l5) (hc5 : l5.length ≤ c5) (h : medlarlaw17_ImageBack.f k a0 a1 a2 l3 l4 l5 = some r) (hT : Aside0 (r = true)) :
    Calls Try.prog 11 #[.int .i64 a0, .int .i64 a1, .int .u64 a2, .slice A3 l3.length c3, .slice A4 l4.length c4, .slice A5 l5.length c5] w fun e w' => e = .returned (.bool r) ∧ Below w.heap.size w w' := by
  have HR3 := Aside0.mk hr3
  have HC3 := Aside0.mk hc3
  clear hr3 hc3
  have HR4 := Aside0.mk hr4
  have HC4 := Aside0.mk hc4
  clear hr4 hc4
  have HR5 := Aside0.mk hr5
  have HC5 := Aside0.mk hc5
  clear hr5 hc5
  have HB := Aside0.mk (Below.refl w.heap.size w)
  have H : ((medlarlaw17_live.f k).bind fun t491 => (if (l3.length : Int) > 600 then (medlarlaw17_ImageBack.j0 k a0 a1 a2 l3 l4 l5 t491 true) else (if (l4.length : Int) > 60 then (medlarlaw17_ImageBack.j0 k a0 a1 a2 l3 l4 l5 t491 true) else (medlarlaw17_ImageBack.j0 k a0 a1 a2 l3 l4 l5 t491 (decide ((l5.length : Int) > 9000)))))) = some r := h
  clear h
  replace H := Option.bind_eq_some_iff.mp H
  obtain ⟨t491, A70, H⟩ := H
  replace H : (if (l3.length : Int) > 600 then (medlarlaw17_ImageBack.j0 k a0 a1 a2 l3 l4 l5 t491 true) else (if (l4.length : Int) > 60 then (medlarlaw17_ImageBack.j0 k a0 a1 a2 l3 l4 l5 t491 true) else (medlarlaw17_ImageBack.j0 k a0 a1 a2 l3 l4 l5 t491 (decide ((l5.length : Int) > 9000))))) = some r := H
  have A7 := Aside0.mk A70
  clear A70
  have HC8 := Aside0.mk H
  clear H
  go_enter Try.func11, Try.ntmps11
  go_upto_region 2 with (first | ((with_reducible refine gate_callee (f := 27) rfl ?_); refine goesL_ (some 38) rfl rfl Try.func27 (by kernel_rfl) rfl #[] rfl (by (try simp only [List.map_toArray, List.map_cons, List.map_nil]); first | done | rfl | (simp only [List.length_drop, List.length_take]; rfl)) ?_; (with_reducible refine (medlarlaw17_live.calls k  t491 _ A7.out).mono ?_); rintro e w9 ⟨rfl, hb⟩; refine ⟨_, rfl, ?_⟩; have n0_ := Aside0.mk (below_step (by repeat (first | (with_reducible first | exact HB.out | apply below_alloc | apply pw_below_drewN | apply below_drew1) | exact HB.out)) hb); clear HB; have HB := n0_; clear n0_; (try clear hb); (try clear hb2); (try clear hk); (try clear hi)))
  (try simp only [Act.put, List.setIfInBounds_toArray, List.set_cons_zero, List.set_cons_succ])
  go_cut [51] (fun v51 wc => ∃ (kq : Nat) (x51_7 : Bool), v51 = .bool x51_7 ∧ Aside0 (medlarlaw17_ImageBack.j0 kq a0 a1 a2 l3 l4 l5 t491 x51_7 = some r) ∧ Aside0 (kq ≤ k) ∧ Aside0 (Below w.heap.size w wc))
  case first =>
    have H := HC8.out
    clear HC8
    by_cases c10 : (l3.length : Int) > 600
    · rw [if_pos c10] at H
      have c10b0 : decide (600 < (l3.length : Int)) = true := decide_eq_true c10
      have c10b1 : decide (600 < l3.length) = true := decide_eq_true (by omega)
      clear c10
      (first | rw [c10b0] | (simp only [i64_w, i32_w]; rw [c10b0]) | skip)
      have H' := Aside0.mk H
      clear H
      go_wp2
      go_meet
      case rel => exact ⟨_, (true), (by first | rfl | (simp; done) | (simp [*]; done)), H', ⟨by first | omega | exact Nat.le_refl _⟩, ⟨by repeat (first | (with_reducible first | exact HB.out | apply below_alloc | apply pw_below_drewN | apply below_drew1) | exact HB.out)⟩⟩
    · rw [if_neg c10] at H
      have c10b0 : decide (600 < (l3.length : Int)) = false := decide_eq_false c10
      have c10b1 : decide (600 < l3.length) = false := decide_eq_false (by omega)
      clear c10
      (first | rw [c10b0] | (simp only [i64_w, i32_w]; rw [c10b0]) | skip)
      by_cases c11 : (l4.length : Int) > 60
      · rw [if_pos c11] at H
        have c11b0 : decide (60 < (l4.length : Int)) = true := decide_eq_true c11
        have c11b1 : decide (60 < l4.length) = true := decide_eq_true (by omega)
        clear c11
        have H' := Aside0.mk H
        clear H
        go_wp2
        go_meet
        case rel => exact ⟨_, (true), (by first | rfl | (simp; done) | (simp [*]; done)), H', ⟨by first | omega | exact Nat.le_refl _⟩, ⟨by repeat (first | (with_reducible first | exact HB.out | apply below_alloc | apply pw_below_drewN | apply below_drew1) | exact HB.out)⟩⟩
      · rw [if_neg c11] at H
        have c11b0 : decide (60 < (l4.length : Int)) = false := decide_eq_false c11
        have c11b1 : decide (60 < l4.length) = false := decide_eq_false (by omega)
        clear c11
        have H' := Aside0.mk H
        clear H
        go_wp2
        go_meet
        case rel => exact ⟨_, (decide ((l5.length : Int) > 9000)), (by first | rfl | (simp; done) | (simp [*]; done)), H', ⟨by first | omega | exact Nat.le_refl _⟩, ⟨by repeat (first | (with_reducible first | exact HB.out | apply below_alloc | apply pw_below_drewN | apply below_drew1) | exact HB.out)⟩⟩
  case rest =>
    clear HC8
    try clear c1
    try clear c2
    try clear p2
    try clear c3
    try clear c4
    try clear c5
    try clear c10
    try clear c10b0
    try clear c10b1
    try clear c11
    try clear c11b0
    try clear c11b1
    obtain ⟨kq, x51_7, rfl, HA, HJ7, HB⟩ := hcut
    cases kq with
    | zero => exact absurd HA.out (by simp [medlarlaw17_ImageBack.j0])
    | succ kj7 =>
      have H := HA.out
      clear HA
      simp only [medlarlaw17_ImageBack.j0] at H
      by_cases c12 : x51_7 = true
      · subst c12
        have H1 : (some t491) = some r := by rw [if_pos rfl] at H; exact H
        clear H
        have H := H1
        clear H1
        obtain rfl := Option.some.inj H
        go_wp2
        go_ret
        exact ⟨by first | rfl | (simp [errW_none, errW_some] <;> rfl) | (simp [*, errW_none, errW_some] <;> rfl), by repeat (first | (with_reducible first | exact HB.out | apply below_alloc | apply pw_below_drewN | apply below_drew1) | exact HB.out)⟩
      · replace c12 := Bool.eq_false_iff.mpr c12
        subst c12
        have H1 : ((image_Store.f kj7 a0 a1 a2 l3).bind fun bt492 => (if bt492.2 = 0 then ((image_Read.f kj7 bt492.1).bind fun bt496 => (if bt496.2.2.2.2 = 0 then (if bt496.1 = a0 then (if bt496.2.1 = a1 then (if bt496.2.2.1 = a2 then ((store_Same.f kj7 bt496.2.2.2.1 l3).bind fun t503 => (if t503 = true then (if (bt492.1.length : Int) = (wrap64 (11 + (wrap64 (16 * (l3.length : Int))))) then (medlarlaw17_ImageBack.j1 kj7 a0 l4 l5 t491) else (some false)) else (some false))) else (some false)) else (some false)) else (some false)) else (some false))) else (medlarlaw17_ImageBack.j1 kj7 a0 l4 l5 t491))) = some r := by rw [if_neg (show ¬ (false = true) by decide)] at H; exact H
        clear H
        have H := H1
        clear H1
        replace H := Option.bind_eq_some_iff.mp H
        obtain ⟨⟨t492, t493⟩, A130, H⟩ := H
        replace H : (if t493 = 0 then ((image_Read.f kj7 t492).bind fun bt496 => (if bt496.2.2.2.2 = 0 then (if bt496.1 = a0 then (if bt496.2.1 = a1 then (if bt496.2.2.1 = a2 then ((store_Same.f kj7 bt496.2.2.2.1 l3).bind fun t503 => (if t503 = true then (if (t492.length : Int) = (wrap64 (11 + (wrap64 (16 * (l3.length : Int))))) then (medlarlaw17_ImageBack.j1 kj7 a0 l4 l5 t491) else (some false)) else (some false))) else (some false)) else (some false)) else (some false)) else (some false))) else (medlarlaw17_ImageBack.j1 kj7 a0 l4 l5 t491)) = some r := H
        have A13 := Aside0.mk A130
        clear A130
        have HC14 := Aside0.mk H
        clear H
        go_upto_if 62 with (first | ((with_reducible refine gate_callee (f := 33) rfl ?_); refine goesL_ (some 58) rfl rfl Try.func33 (by kernel_rfl) rfl #[.int .i64 a0, .int .i64 a1, .int .u64 a2, .slice A3 l3.length c3] rfl (by (try simp only [List.map_toArray, List.map_cons, List.map_nil]); first | done | rfl | (simp only [List.length_drop, List.length_take]; rfl)) ?_; (with_reducible refine (image_Store.calls kj7 a0 a1 a2 _ _ l3 t492 t493 _ ?side1 ?side2 A13.out).mono ?_); (case side1 => repeat (first | exact (Kd.C_below HR3.out HB.out) | (with_reducible refine Kd.C_alloc ?_ _) | (with_reducible refine Kd.C_drewN ?_ _) | (with_reducible refine Kd.C_drew ?_))); (case side2 => exact HC3.out); rintro e w15 ⟨v494, rfl, ho0, hb⟩; refine ⟨_, rfl, ?_⟩; have n0_ := Aside0.mk (Kd.R_lower ho0 (below_size (by repeat (first | (with_reducible first | exact HB.out | apply below_alloc | apply pw_below_drewN | apply below_drew1) | exact HB.out)))); have n1_ := Aside0.mk (below_step (by repeat (first | (with_reducible first | exact HB.out | apply below_alloc | apply pw_below_drewN | apply below_drew1) | exact HB.out)) hb); clear HB; have HO495 := n0_; have HB := n1_; clear n0_ n1_; (try clear hb); (try clear hb2); (try clear hk); (try clear hi); (try clear ho0)))
        (try simp only [Act.put, List.setIfInBounds_toArray, List.set_cons_zero, List.set_cons_succ])
        go_cut [] (fun wc => ∃ (kq : Nat), Aside0 (medlarlaw17_ImageBack.j1 kq a0 l4 l5 t491 = some r) ∧ Aside0 (kq ≤ kj7) ∧ Aside0 (Below w.heap.size w wc))
        case first =>
          have H := HC14.out
          clear HC14
          by_cases c16 : t493 = 0
          · rw [if_pos c16] at H
            have c16b0 : (t493 == 0) = true := beq_iff_eq.mpr c16
            have c16b1 : (t493 != 0) = false := bne_eq_false_iff_eq.mpr c16
            clear c16
            (first | rw [c16b0] | (simp only [i64_w, i32_w]; rw [c16b0]) | skip)
            replace H := Option.bind_eq_some_iff.mp H
            obtain ⟨⟨t496, t497, t498, t499, t500⟩, A170, H⟩ := H
            replace H : (if t500 = 0 then (if t496 = a0 then (if t497 = a1 then (if t498 = a2 then ((store_Same.f kj7 t499 l3).bind fun t503 => (if t503 = true then (if (t492.length : Int) = (wrap64 (11 + (wrap64 (16 * (l3.length : Int))))) then (medlarlaw17_ImageBack.j1 kj7 a0 l4 l5 t491) else (some false)) else (some false))) else (some false)) else (some false)) else (some false)) else (some false)) = some r := H
            have A17 := Aside0.mk A170
            clear A170
            by_cases c18 : t500 = 0
            · rw [if_pos c18] at H
              have c18b0 : (t500 == 0) = true := beq_iff_eq.mpr c18
              have c18b1 : (t500 != 0) = false := bne_eq_false_iff_eq.mpr c18
              clear c18
              by_cases c19 : t496 = a0
              · rw [if_pos c19] at H
                have c19b0 : (t496 == a0) = true := beq_iff_eq.mpr c19
                have c19b1 : (t496 != a0) = false := bne_eq_false_iff_eq.mpr c19
                clear c19
                by_cases c20 : t497 = a1
                · rw [if_pos c20] at H
                  have c20b0 : (t497 == a1) = true := beq_iff_eq.mpr c20
                  have c20b1 : (t497 != a1) = false := bne_eq_false_iff_eq.mpr c20
                  clear c20
                  by_cases c21 : t498 = a2
                  · rw [if_pos c21] at H
                    have c21b0 : (t498 == a2) = true := beq_iff_eq.mpr c21
                    have c21b1 : (t498 != a2) = false := bne_eq_false_iff_eq.mpr c21
                    clear c21
                    replace H := Option.bind_eq_some_iff.mp H
                    obtain ⟨t503, A220, H⟩ := H
                    replace H : (if t503 = true then (if (t492.length : Int) = (wrap64 (11 + (wrap64 (16 * (l3.length : Int))))) then (medlarlaw17_ImageBack.j1 kj7 a0 l4 l5 t491) else (some false)) else (some false)) = some r := H
                    have A22 := Aside0.mk A220
                    clear A220
                    by_cases c23 : t503 = true
                    · subst c23
                      have H1 : (if (t492.length : Int) = (wrap64 (11 + (wrap64 (16 * (l3.length : Int))))) then (medlarlaw17_ImageBack.j1 kj7 a0 l4 l5 t491) else (some false)) = some r := by rw [if_pos rfl] at H; exact H
                      clear H
                      have H := H1
                      clear H1
                      by_cases c24 : (t492.length : Int) = (wrap64 (11 + (wrap64 (16 * (l3.length : Int)))))
                      · rw [if_pos c24] at H
                        have c24b0 : ((t492.length : Int) == (wrap64 (11 + (wrap64 (16 * (l3.length : Int)))))) = true := beq_iff_eq.mpr c24
                        have c24b1 : ((t492.length : Int) != (wrap64 (11 + (wrap64 (16 * (l3.length : Int)))))) = false := bne_eq_false_iff_eq.mpr c24
                        clear c24
                        have H' := Aside0.mk H
                        clear H
                        obtain ⟨Ao25, co25, eo25⟩ := Kd.R_slice HO495.out
                        subst eo25
                        go_wp2_with (first | ((with_reducible refine gate_callee (f := 35) rfl ?_); refine goesL_ (some 65) rfl rfl Try.func35 (by kernel_rfl) rfl #[.slice Ao25 t492.length co25] rfl (by (try simp only [List.map_toArray, List.map_cons, List.map_nil]); first | done | rfl | (simp only [List.length_drop, List.length_take]; rfl)) ?_; (with_reducible refine (image_Read.calls kj7 _ _ t492 t496 t497 t498 t499 t500 _ ?side1 ?side2 A17.out).mono ?_); (case side1 => repeat (first | exact (Kd.R_reads' HO495.out).2.2 | (with_reducible refine Kd.C_alloc ?_ _) | (with_reducible refine Kd.C_drewN ?_ _) | (with_reducible refine Kd.C_drew ?_))); (case side2 => exact (Kd.R_reads' HO495.out).2.1); rintro e w26 ⟨v501, rfl, ho0, hb⟩; refine ⟨_, rfl, ?_⟩; have n0_ := Aside0.mk (Kd.R_below (by (with_reducible repeat (first | apply Kd.R_alloc | apply Kd.R_drewN | apply Kd.R_drew)); exact HO495.out) hb); have n1_ := Aside0.mk (Kd.R_lower ho0 (below_size (by repeat (first | (with_reducible first | exact HB.out | apply below_alloc | apply pw_below_drewN | apply below_drew1) | exact HB.out)))); have n2_ := Aside0.mk (below_step (by repeat (first | (with_reducible first | exact HB.out | apply below_alloc | apply pw_below_drewN | apply below_drew1) | exact HB.out)) hb); clear HO495; clear HB; have HO495 := n0_; have HO502 := n1_; have HB := n2_; clear n0_ n1_ n2_; (try clear hb); (try clear hb2); (try clear hk); (try clear hi); (try clear ho0); obtain ⟨Ao27, co27, eo27⟩ := Kd.R_slice HO502.out; subst eo27) | (go_at_call 38; (with_reducible refine (store_Same.calls kj7 _ _ t499 _ _ l3 true _ ?side1 ?side2 ?side3 ?side4 A22.out).mono ?_); (case side1 => repeat (first | exact (Kd.R_reads' HO502.out).2.2 | (with_reducible refine Kd.C_alloc ?_ _) | (with_reducible refine Kd.C_drewN ?_ _) | (with_reducible refine Kd.C_drew ?_))); (case side2 => exact (Kd.R_reads' HO502.out).2.1); (case side3 => repeat (first | exact (Kd.C_below HR3.out HB.out) | (with_reducible refine Kd.C_alloc ?_ _) | (with_reducible refine Kd.C_drewN ?_ _) | (with_reducible refine Kd.C_drew ?_))); (case side4 => exact HC3.out); rintro e w' ⟨rfl, ⟨nd, rfl⟩⟩))
                        go_meet
                        case rel => exact ⟨_, H', ⟨by have := HJ7.out; first | omega | exact Nat.le_refl _⟩, ⟨by repeat (first | (with_reducible first | exact HB.out | apply below_alloc | apply pw_below_drewN | apply below_drew1) | exact HB.out)⟩⟩
                      · rw [if_neg c24] at H
                        have c24b0 : ((t492.length : Int) == (wrap64 (11 + (wrap64 (16 * (l3.length : Int)))))) = false := beq_eq_false_iff_ne.mpr c24
                        have c24b1 : ((t492.length : Int) != (wrap64 (11 + (wrap64 (16 * (l3.length : Int)))))) = true := bne_iff_ne.mpr c24
                        exact absurd ((Option.some.inj H).trans hT.out) Bool.false_ne_true
                    · replace c23 := Bool.eq_false_iff.mpr c23
                      subst c23
                      have H1 : (some false) = some r := by rw [if_neg (show ¬ (false = true) by decide)] at H; exact H
                      clear H
                      have H := H1
                      clear H1
                      exact absurd ((Option.some.inj H).trans hT.out) Bool.false_ne_true
                  · rw [if_neg c21] at H
                    have c21b0 : (t498 == a2) = false := beq_eq_false_iff_ne.mpr c21
                    have c21b1 : (t498 != a2) = true := bne_iff_ne.mpr c21
                    exact absurd ((Option.some.inj H).trans hT.out) Bool.false_ne_true
                · rw [if_neg c20] at H
                  have c20b0 : (t497 == a1) = false := beq_eq_false_iff_ne.mpr c20
                  have c20b1 : (t497 != a1) = true := bne_iff_ne.mpr c20
                  exact absurd ((Option.some.inj H).trans hT.out) Bool.false_ne_true
              · rw [if_neg c19] at H
                have c19b0 : (t496 == a0) = false := beq_eq_false_iff_ne.mpr c19
                have c19b1 : (t496 != a0) = true := bne_iff_ne.mpr c19
                exact absurd ((Option.some.inj H).trans hT.out) Bool.false_ne_true
            · rw [if_neg c18] at H
              have c18b0 : (t500 == 0) = false := beq_eq_false_iff_ne.mpr c18
              have c18b1 : (t500 != 0) = true := bne_iff_ne.mpr c18
              exact absurd ((Option.some.inj H).trans hT.out) Bool.false_ne_true
          · rw [if_neg c16] at H
            have c16b0 : (t493 == 0) = false := beq_eq_false_iff_ne.mpr c16
            have c16b1 : (t493 != 0) = true := bne_iff_ne.mpr c16
            (first | rw [c16b0] | (simp only [i64_w, i32_w]; rw [c16b0]) | skip)
            have H' := Aside0.mk H
            clear H
            go_wp2
            go_meet
            case rel => exact ⟨_, H', ⟨by have := HJ7.out; first | omega | exact Nat.le_refl _⟩, ⟨by repeat (first | (with_reducible first | exact HB.out | apply below_alloc | apply pw_below_drewN | apply below_drew1) | exact HB.out)⟩⟩
        case rest =>
          clear HC14
          try clear c1
          try clear c2
          try clear p2
          try clear c3
          try clear c4
          try clear c5
          try clear p6
          try clear c10
          try clear c10b0
          try clear c10b1
          try clear c11
          try clear c11b0
          try clear c11b1
          try clear c12
          try clear c16
          try clear c16b0
          try clear c16b1
          try clear c18
          try clear c18b0
          try clear c18b1
          try clear c19
          try clear c19b0
          try clear c19b1
          try clear c20
          try clear c20b0
          try clear c20b1
          try clear c21
          try clear c21b0
          try clear c21b1
          try clear c23
          try clear c24
          try clear c24b0
          try clear c24b1
          try clear c27
          try clear p2
          obtain ⟨kq, HA, HJ13, HB⟩ := hcut
          cases kq with
          | zero => exact absurd HA.out (by simp [medlarlaw17_ImageBack.j1])
          | succ kj13 =>
            have H := HA.out
            clear HA
            simp only [medlarlaw17_ImageBack.j1] at H
            replace H := Option.bind_eq_some_iff.mp H
            obtain ⟨⟨t504, t505⟩, A280, H⟩ := H
            replace H : (if t505 = 0 then ((image_Leaves.f kj13 t504).bind fun bt508 => (if bt508.2.2 = 0 then (if bt508.1 = a0 then ((medlarref02_Same.f kj13 bt508.2.1 l4).bind fun t513 => (if t513 = true then (if (t504.length : Int) = (wrap64 (7 + (wrap64 (8 * (l4.length : Int))))) then (medlarlaw17_ImageBack.j2 kj13 l5 t491) else (some false)) else (some false))) else (some false)) else (some false))) else (medlarlaw17_ImageBack.j2 kj13 l5 t491)) = some r := H
            have A28 := Aside0.mk A280
            clear A280
            have HC29 := Aside0.mk H
            clear H
            go_upto_if 110 with (first | ((with_reducible refine gate_callee (f := 28) rfl ?_); refine goesL_ (some 106) rfl rfl Try.func28 (by kernel_rfl) rfl #[.int .i64 a0, .slice A4 l4.length c4] rfl (by (try simp only [List.map_toArray, List.map_cons, List.map_nil]); first | done | rfl | (simp only [List.length_drop, List.length_take]; rfl)) ?_; (with_reducible refine (image_Set.calls kj13 a0 _ _ l4 t504 t505 _ ?side1 ?side2 A28.out).mono ?_); (case side1 => repeat (first | exact (Kd.C_below HR4.out HB.out) | (with_reducible refine Kd.C_alloc ?_ _) | (with_reducible refine Kd.C_drewN ?_ _) | (with_reducible refine Kd.C_drew ?_))); (case side2 => exact HC4.out); rintro e w30 ⟨v506, rfl, ho0, hb⟩; refine ⟨_, rfl, ?_⟩; have n0_ := Aside0.mk (Kd.R_lower ho0 (below_size (by repeat (first | (with_reducible first | exact HB.out | apply below_alloc | apply pw_below_drewN | apply below_drew1) | exact HB.out)))); have n1_ := Aside0.mk (below_step (by repeat (first | (with_reducible first | exact HB.out | apply below_alloc | apply pw_below_drewN | apply below_drew1) | exact HB.out)) hb); clear HB; have HO507 := n0_; have HB := n1_; clear n0_ n1_; (try clear hb); (try clear hb2); (try clear hk); (try clear hi); (try clear ho0)))
            (try simp only [Act.put, List.setIfInBounds_toArray, List.set_cons_zero, List.set_cons_succ])
            go_cut [] (fun wc => ∃ (kq : Nat), Aside0 (medlarlaw17_ImageBack.j2 kq l5 t491 = some r) ∧ Aside0 (kq ≤ kj13) ∧ Aside0 (Below w.heap.size w wc))
            case first =>
              have H := HC29.out
              clear HC29
              by_cases c31 : t505 = 0
              · rw [if_pos c31] at H
                have c31b0 : (t505 == 0) = true := beq_iff_eq.mpr c31
                have c31b1 : (t505 != 0) = false := bne_eq_false_iff_eq.mpr c31
                clear c31
                (first | rw [c31b0] | (simp only [i64_w, i32_w]; rw [c31b0]) | skip)
                replace H := Option.bind_eq_some_iff.mp H
                obtain ⟨⟨t508, t509, t510⟩, A320, H⟩ := H
                replace H : (if t510 = 0 then (if t508 = a0 then ((medlarref02_Same.f kj13 t509 l4).bind fun t513 => (if t513 = true then (if (t504.length : Int) = (wrap64 (7 + (wrap64 (8 * (l4.length : Int))))) then (medlarlaw17_ImageBack.j2 kj13 l5 t491) else (some false)) else (some false))) else (some false)) else (some false)) = some r := H
                have A32 := Aside0.mk A320
                clear A320
                by_cases c33 : t510 = 0
                · rw [if_pos c33] at H
                  have c33b0 : (t510 == 0) = true := beq_iff_eq.mpr c33
                  have c33b1 : (t510 != 0) = false := bne_eq_false_iff_eq.mpr c33
                  clear c33
                  by_cases c34 : t508 = a0
                  · rw [if_pos c34] at H
                    have c34b0 : (t508 == a0) = true := beq_iff_eq.mpr c34
                    have c34b1 : (t508 != a0) = false := bne_eq_false_iff_eq.mpr c34
                    clear c34
                    replace H := Option.bind_eq_some_iff.mp H
                    obtain ⟨t513, A350, H⟩ := H
                    replace H : (if t513 = true then (if (t504.length : Int) = (wrap64 (7 + (wrap64 (8 * (l4.length : Int))))) then (medlarlaw17_ImageBack.j2 kj13 l5 t491) else (some false)) else (some false)) = some r := H
                    have A35 := Aside0.mk A350
                    clear A350
                    by_cases c36 : t513 = true
                    · subst c36
                      have H1 : (if (t504.length : Int) = (wrap64 (7 + (wrap64 (8 * (l4.length : Int))))) then (medlarlaw17_ImageBack.j2 kj13 l5 t491) else (some false)) = some r := by rw [if_pos rfl] at H; exact H
                      clear H
                      have H := H1
                      clear H1
                      by_cases c37 : (t504.length : Int) = (wrap64 (7 + (wrap64 (8 * (l4.length : Int)))))
                      · rw [if_pos c37] at H
                        have c37b0 : ((t504.length : Int) == (wrap64 (7 + (wrap64 (8 * (l4.length : Int)))))) = true := beq_iff_eq.mpr c37
                        have c37b1 : ((t504.length : Int) != (wrap64 (7 + (wrap64 (8 * (l4.length : Int)))))) = false := bne_eq_false_iff_eq.mpr c37
                        clear c37
                        have H' := Aside0.mk H
                        clear H
                        obtain ⟨Ao38, co38, eo38⟩ := Kd.R_slice HO507.out
                        subst eo38
                        go_wp2_with (first | ((with_reducible refine gate_callee (f := 30) rfl ?_); refine goesL_ (some 113) rfl rfl Try.func30 (by kernel_rfl) rfl #[.slice Ao38 t504.length co38] rfl (by (try simp only [List.map_toArray, List.map_cons, List.map_nil]); first | done | rfl | (simp only [List.length_drop, List.length_take]; rfl)) ?_; (with_reducible refine (image_Leaves.calls kj13 _ _ t504 t508 t509 t510 _ ?side1 ?side2 A32.out).mono ?_); (case side1 => repeat (first | exact (Kd.R_reads' HO507.out).2.2 | (with_reducible refine Kd.C_alloc ?_ _) | (with_reducible refine Kd.C_drewN ?_ _) | (with_reducible refine Kd.C_drew ?_))); (case side2 => exact (Kd.R_reads' HO507.out).2.1); rintro e w39 ⟨v511, rfl, ho0, hb⟩; refine ⟨_, rfl, ?_⟩; have n0_ := Aside0.mk (Kd.R_below (by (with_reducible repeat (first | apply Kd.R_alloc | apply Kd.R_drewN | apply Kd.R_drew)); exact HO507.out) hb); have n1_ := Aside0.mk (Kd.R_lower ho0 (below_size (by repeat (first | (with_reducible first | exact HB.out | apply below_alloc | apply pw_below_drewN | apply below_drew1) | exact HB.out)))); have n2_ := Aside0.mk (below_step (by repeat (first | (with_reducible first | exact HB.out | apply below_alloc | apply pw_below_drewN | apply below_drew1) | exact HB.out)) hb); clear HO507; clear HB; have HO507 := n0_; have HO512 := n1_; have HB := n2_; clear n0_ n1_ n2_; (try clear hb); (try clear hb2); (try clear hk); (try clear hi); (try clear ho0); obtain ⟨Ao40, co40, eo40⟩ := Kd.R_slice HO512.out; subst eo40) | (go_at_call 32; (with_reducible refine (medlarref02_Same.calls kj13 _ _ t509 _ _ l4 true _ ?side1 ?side2 ?side3 ?side4 A35.out).mono ?_); (case side1 => repeat (first | exact (Kd.R_reads' HO512.out).2.2 | (with_reducible refine Kd.C_alloc ?_ _) | (with_reducible refine Kd.C_drewN ?_ _) | (with_reducible refine Kd.C_drew ?_))); (case side2 => exact (Kd.R_reads' HO512.out).2.1); (case side3 => repeat (first | exact (Kd.C_below HR4.out HB.out) | (with_reducible refine Kd.C_alloc ?_ _) | (with_reducible refine Kd.C_drewN ?_ _) | (with_reducible refine Kd.C_drew ?_))); (case side4 => exact HC4.out); rintro e w' ⟨rfl, ⟨nd, rfl⟩⟩))
                        go_meet
                        case rel => exact ⟨_, H', ⟨by have := HJ7.out; have := HJ13.out; first | omega | exact Nat.le_refl _⟩, ⟨by repeat (first | (with_reducible first | exact HB.out | apply below_alloc | apply pw_below_drewN | apply below_drew1) | exact HB.out)⟩⟩
                      · rw [if_neg c37] at H
                        have c37b0 : ((t504.length : Int) == (wrap64 (7 + (wrap64 (8 * (l4.length : Int)))))) = false := beq_eq_false_iff_ne.mpr c37
                        have c37b1 : ((t504.length : Int) != (wrap64 (7 + (wrap64 (8 * (l4.length : Int)))))) = true := bne_iff_ne.mpr c37
                        exact absurd ((Option.some.inj H).trans hT.out) Bool.false_ne_true
                    · replace c36 := Bool.eq_false_iff.mpr c36
                      subst c36
                      have H1 : (some false) = some r := by rw [if_neg (show ¬ (false = true) by decide)] at H; exact H
                      clear H
                      have H := H1
                      clear H1
                      exact absurd ((Option.some.inj H).trans hT.out) Bool.false_ne_true
                  · rw [if_neg c34] at H
                    have c34b0 : (t508 == a0) = false := beq_eq_false_iff_ne.mpr c34
                    have c34b1 : (t508 != a0) = true := bne_iff_ne.mpr c34
                    exact absurd ((Option.some.inj H).trans hT.out) Bool.false_ne_true
                · rw [if_neg c33] at H
                  have c33b0 : (t510 == 0) = false := beq_eq_false_iff_ne.mpr c33
                  have c33b1 : (t510 != 0) = true := bne_iff_ne.mpr c33
                  exact absurd ((Option.some.inj H).trans hT.out) Bool.false_ne_true
              · rw [if_neg c31] at H
                have c31b0 : (t505 == 0) = false := beq_eq_false_iff_ne.mpr c31
                have c31b1 : (t505 != 0) = true := bne_iff_ne.mpr c31
                (first | rw [c31b0] | (simp only [i64_w, i32_w]; rw [c31b0]) | skip)
                have H' := Aside0.mk H
                clear H
                go_wp2
                go_meet
                case rel => exact ⟨_, H', ⟨by have := HJ7.out; have := HJ13.out; first | omega | exact Nat.le_refl _⟩, ⟨by repeat (first | (with_reducible first | exact HB.out | apply below_alloc | apply pw_below_drewN | apply below_drew1) | exact HB.out)⟩⟩
            case rest =>
              clear HC29
              try clear c1
              try clear c2
              try clear p2
              try clear c3
              try clear c4
              try clear c5
              try clear p6
              try clear c10
              try clear c10b0
              try clear c10b1
              try clear c11
              try clear c11b0
              try clear c11b1
              try clear c12
              try clear c16
              try clear c16b0
              try clear c16b1
              try clear c18
              try clear c18b0
              try clear c18b1
              try clear c19
              try clear c19b0
              try clear c19b1
              try clear c20
              try clear c20b0
              try clear c20b1
              try clear c21
              try clear c21b0
              try clear c21b1
              try clear c23
              try clear c24
              try clear c24b0
              try clear c24b1
              try clear c27
              try clear c28
              try clear c30
              try clear c31
              try clear c31b0
              try clear c31b1
              try clear c33
              try clear c33b0
              try clear c33b1
              try clear c34
              try clear c34b0
              try clear c34b1
              try clear c35
              try clear c36
              try clear c37
              try clear c37b0
              try clear c37b1
              try clear p2
              try clear p6
              obtain ⟨kq, HA, HJ28, HB⟩ := hcut
              cases kq with
              | zero => exact absurd HA.out (by simp [medlarlaw17_ImageBack.j2])
              | succ kj28 =>
                have H := HA.out
                clear HA
                simp only [medlarlaw17_ImageBack.j2] at H
                replace H := Option.bind_eq_some_iff.mp H
                obtain ⟨⟨t514, t515, t516, t517, t518⟩, A410, H⟩ := H
                replace H : (if t518 = 0 then ((image_Store.f kj28 t514 t515 t516 t517).bind fun bt521 => (if bt521.2 = 0 then (if (strOfNums bt521.1).toList = (strOfNums l5).toList then (medlarlaw17_ImageBack.j3 kj28 l5 t491 t518) else (some false)) else (some false))) else (medlarlaw17_ImageBack.j3 kj28 l5 t491 t518)) = some r := H
                have A41 := Aside0.mk A410
                clear A410
                have HC42 := Aside0.mk H
                clear H
                go_upto_if 148 with (first | ((with_reducible refine gate_callee (f := 35) rfl ?_); refine goesL_ (some 141) rfl rfl Try.func35 (by kernel_rfl) rfl #[.slice A5 l5.length c5] rfl (by (try simp only [List.map_toArray, List.map_cons, List.map_nil]); first | done | rfl | (simp only [List.length_drop, List.length_take]; rfl)) ?_; (with_reducible refine (image_Read.calls kj28 _ _ l5 t514 t515 t516 t517 t518 _ ?side1 ?side2 A41.out).mono ?_); (case side1 => repeat (first | exact (Kd.C_below HR5.out HB.out) | (with_reducible refine Kd.C_alloc ?_ _) | (with_reducible refine Kd.C_drewN ?_ _) | (with_reducible refine Kd.C_drew ?_))); (case side2 => exact HC5.out); rintro e w43 ⟨v519, rfl, ho0, hb⟩; refine ⟨_, rfl, ?_⟩; have n0_ := Aside0.mk (Kd.R_lower ho0 (below_size (by repeat (first | (with_reducible first | exact HB.out | apply below_alloc | apply pw_below_drewN | apply below_drew1) | exact HB.out)))); have n1_ := Aside0.mk (below_step (by repeat (first | (with_reducible first | exact HB.out | apply below_alloc | apply pw_below_drewN | apply below_drew1) | exact HB.out)) hb); clear HB; have HO520 := n0_; have HB := n1_; clear n0_ n1_; (try clear hb); (try clear hb2); (try clear hk); (try clear hi); (try clear ho0)))
                (try simp only [Act.put, List.setIfInBounds_toArray, List.set_cons_zero, List.set_cons_succ])
                go_cut [] (fun wc => ∃ (kq : Nat), Aside0 (medlarlaw17_ImageBack.j3 kq l5 t491 t518 = some r) ∧ Aside0 (kq ≤ kj28) ∧ Aside0 (Below w.heap.size w wc))
                case first =>
                  have H := HC42.out
                  clear HC42
                  by_cases c44 : t518 = 0
                  · rw [if_pos c44] at H
                    have c44b0 : (t518 == 0) = true := beq_iff_eq.mpr c44
                    have c44b1 : (t518 != 0) = false := bne_eq_false_iff_eq.mpr c44
                    clear c44
                    (first | rw [c44b0] | (simp only [i64_w, i32_w]; rw [c44b0]) | skip)
                    replace H := Option.bind_eq_some_iff.mp H
                    obtain ⟨⟨t521, t522⟩, A450, H⟩ := H
                    replace H : (if t522 = 0 then (if (strOfNums t521).toList = (strOfNums l5).toList then (medlarlaw17_ImageBack.j3 kj28 l5 t491 t518) else (some false)) else (some false)) = some r := H
                    have A45 := Aside0.mk A450
                    clear A450
                    by_cases c46 : t522 = 0
                    · rw [if_pos c46] at H
                      have c46b0 : (t522 == 0) = true := beq_iff_eq.mpr c46
                      have c46b1 : (t522 != 0) = false := bne_eq_false_iff_eq.mpr c46
                      clear c46
                      by_cases c47 : (strOfNums t521).toList = (strOfNums l5).toList
                      · rw [if_pos c47] at H
                        have c47b0 : ((strOfNums t521).toList == (strOfNums l5).toList) = true := beq_iff_eq.mpr c47
                        have c47b1 : ((strOfNums t521).toList != (strOfNums l5).toList) = false := bne_eq_false_iff_eq.mpr c47
                        clear c47
                        have H' := Aside0.mk H
                        clear H
                        obtain ⟨Ao48, co48, eo48⟩ := Kd.R_slice HO520.out
                        subst eo48
                        go_wp2_with (first | ((with_reducible refine gate_callee (f := 33) rfl ?_); refine goesL_ (some 154) rfl rfl Try.func33 (by kernel_rfl) rfl #[.int .i64 t514, .int .i64 t515, .int .u64 t516, .slice Ao48 t517.length co48] rfl (by (try simp only [List.map_toArray, List.map_cons, List.map_nil]); first | done | rfl | (simp only [List.length_drop, List.length_take]; rfl)) ?_; (with_reducible refine (image_Store.calls kj28 t514 t515 t516 _ _ t517 t521 t522 _ ?side1 ?side2 A45.out).mono ?_); (case side1 => repeat (first | exact (Kd.R_reads' HO520.out).2.2 | (with_reducible refine Kd.C_alloc ?_ _) | (with_reducible refine Kd.C_drewN ?_ _) | (with_reducible refine Kd.C_drew ?_))); (case side2 => exact (Kd.R_reads' HO520.out).2.1); rintro e w49 ⟨v523, rfl, ho0, hb⟩; refine ⟨_, rfl, ?_⟩; have n0_ := Aside0.mk (Kd.R_below (by (with_reducible repeat (first | apply Kd.R_alloc | apply Kd.R_drewN | apply Kd.R_drew)); exact HO520.out) hb); have n1_ := Aside0.mk (Kd.R_lower ho0 (below_size (by repeat (first | (with_reducible first | exact HB.out | apply below_alloc | apply pw_below_drewN | apply below_drew1) | exact HB.out)))); have n2_ := Aside0.mk (below_step (by repeat (first | (with_reducible first | exact HB.out | apply below_alloc | apply pw_below_drewN | apply below_drew1) | exact HB.out)) hb); clear HO520; clear HB; have HO520 := n0_; have HO524 := n1_; have HB := n2_; clear n0_ n1_ n2_; (try clear hb); (try clear hb2); (try clear hk); (try clear hi); (try clear ho0); have hcv50 := own_string (P := Try.prog) Try.underlying35 Try.underlying5 Try.underlying9 (Kd.own_of_R HO524.out); have hcv51 := Kd.C_string (P := Try.prog) (A := A5) (c := c5) Try.underlying35 Try.underlying5 Try.underlying9 (Kd.C_below HR5.out HB.out)))
                        go_meet
                        case rel => exact ⟨_, H', ⟨by have := HJ7.out; have := HJ13.out; have := HJ28.out; first | omega | exact Nat.le_refl _⟩, ⟨by repeat (first | (with_reducible first | exact HB.out | apply below_alloc | apply pw_below_drewN | apply below_drew1) | exact HB.out)⟩⟩
                      · rw [if_neg c47] at H
                        have c47b0 : ((strOfNums t521).toList == (strOfNums l5).toList) = false := beq_eq_false_iff_ne.mpr c47
                        have c47b1 : ((strOfNums t521).toList != (strOfNums l5).toList) = true := bne_iff_ne.mpr c47
                        exact absurd ((Option.some.inj H).trans hT.out) Bool.false_ne_true
                    · rw [if_neg c46] at H
                      have c46b0 : (t522 == 0) = false := beq_eq_false_iff_ne.mpr c46
                      have c46b1 : (t522 != 0) = true := bne_iff_ne.mpr c46
                      exact absurd ((Option.some.inj H).trans hT.out) Bool.false_ne_true
                  · rw [if_neg c44] at H
                    have c44b0 : (t518 == 0) = false := beq_eq_false_iff_ne.mpr c44
                    have c44b1 : (t518 != 0) = true := bne_iff_ne.mpr c44
                    (first | rw [c44b0] | (simp only [i64_w, i32_w]; rw [c44b0]) | skip)
                    have H' := Aside0.mk H
                    clear H
                    go_wp2
                    go_meet
                    case rel => exact ⟨_, H', ⟨by have := HJ7.out; have := HJ13.out; have := HJ28.out; first | omega | exact Nat.le_refl _⟩, ⟨by repeat (first | (with_reducible first | exact HB.out | apply below_alloc | apply pw_below_drewN | apply below_drew1) | exact HB.out)⟩⟩
                case rest =>
                  clear HC42
                  try clear c1
                  try clear c2
                  try clear p2
                  try clear c3
                  try clear c4
                  try clear c5
                  try clear hcv5
                  try clear p6
                  try clear c10
                  try clear c10b0
                  try clear c10b1
                  try clear c11
                  try clear c11b0
                  try clear c11b1
                  try clear c12
                  try clear c16
                  try clear c16b0
                  try clear c16b1
                  try clear c18
                  try clear c18b0
                  try clear c18b1
                  try clear c19
                  try clear c19b0
                  try clear c19b1
                  try clear c20
                  try clear c20b0
                  try clear c20b1
                  try clear c21
                  try clear c21b0
                  try clear c21b1
                  try clear c23
                  try clear c24
                  try clear c24b0
                  try clear c24b1
                  try clear c27
                  try clear c28
                  try clear c30
                  try clear c31
                  try clear c31b0
                  try clear c31b1
                  try clear c33
                  try clear c33b0
                  try clear c33b1
                  try clear c34
                  try clear c34b0
                  try clear c34b1
                  try clear c35
                  try clear c36
                  try clear c37
                  try clear c37b0
                  try clear c37b1
                  try clear c44
                  try clear c44b0
                  try clear c44b1
                  try clear c46
                  try clear c46b0
                  try clear c46b1
                  try clear c47
                  try clear c47b0
                  try clear c47b1
                  try clear hcv50
                  try clear hcv51
                  try clear p2
                  try clear p6
                  obtain ⟨kq, HA, HJ41, HB⟩ := hcut
                  cases kq with
                  | zero => exact absurd HA.out (by simp [medlarlaw17_ImageBack.j3])
                  | succ kj41 =>
                    have H := HA.out
                    clear HA
                    simp only [medlarlaw17_ImageBack.j3] at H
                    replace H := Option.bind_eq_some_iff.mp H
                    obtain ⟨⟨t525, t526, t527⟩, A520, H⟩ := H
                    replace H : (if t527 = 0 then ((image_Set.f kj41 t525 t526).bind fun bt530 => (if bt530.2 = 0 then (if (strOfNums bt530.1).toList = (strOfNums l5).toList then (if t518 = 0 then (some false) else (some t491)) else (some false)) else (some false))) else (some t491)) = some r := H
                    have A52 := Aside0.mk A520
                    clear A520
                    by_cases c53 : t527 = 0
                    · rw [if_pos c53] at H
                      have c53b0 : (t527 == 0) = true := beq_iff_eq.mpr c53
                      have c53b1 : (t527 != 0) = false := bne_eq_false_iff_eq.mpr c53
                      clear c53
                      replace H := Option.bind_eq_some_iff.mp H
                      obtain ⟨⟨t530, t531⟩, A540, H⟩ := H
                      replace H : (if t531 = 0 then (if (strOfNums t530).toList = (strOfNums l5).toList then (if t518 = 0 then (some false) else (some t491)) else (some false)) else (some false)) = some r := H
                      have A54 := Aside0.mk A540
                      clear A540
                      by_cases c55 : t531 = 0
                      · rw [if_pos c55] at H
                        have c55b0 : (t531 == 0) = true := beq_iff_eq.mpr c55
                        have c55b1 : (t531 != 0) = false := bne_eq_false_iff_eq.mpr c55
                        clear c55
                        by_cases c56 : (strOfNums t530).toList = (strOfNums l5).toList
                        · rw [if_pos c56] at H
                          have c56b0 : ((strOfNums t530).toList == (strOfNums l5).toList) = true := beq_iff_eq.mpr c56
                          have c56b1 : ((strOfNums t530).toList != (strOfNums l5).toList) = false := bne_eq_false_iff_eq.mpr c56
                          clear c56
                          by_cases c57 : t518 = 0
                          · rw [if_pos c57] at H
                            have c57b0 : (t518 == 0) = true := beq_iff_eq.mpr c57
                            have c57b1 : (t518 != 0) = false := bne_eq_false_iff_eq.mpr c57
                            clear c57
                            exact absurd ((Option.some.inj H).trans hT.out) Bool.false_ne_true
                          · rw [if_neg c57] at H
                            have c57b0 : (t518 == 0) = false := beq_eq_false_iff_ne.mpr c57
                            have c57b1 : (t518 != 0) = true := bne_iff_ne.mpr c57
                            obtain rfl := Option.some.inj H
                            go_wp2_with (first | ((with_reducible refine gate_callee (f := 30) rfl ?_); refine goesL_ (some 168) rfl rfl Try.func30 (by kernel_rfl) rfl #[.slice A5 l5.length c5] rfl (by (try simp only [List.map_toArray, List.map_cons, List.map_nil]); first | done | rfl | (simp only [List.length_drop, List.length_take]; rfl)) ?_; (with_reducible refine (image_Leaves.calls kj41 _ _ l5 t525 t526 t527 _ ?side1 ?side2 A52.out).mono ?_); (case side1 => repeat (first | exact (Kd.C_below HR5.out HB.out) | (with_reducible refine Kd.C_alloc ?_ _) | (with_reducible refine Kd.C_drewN ?_ _) | (with_reducible refine Kd.C_drew ?_))); (case side2 => exact HC5.out); rintro e w58 ⟨v528, rfl, ho0, hb⟩; refine ⟨_, rfl, ?_⟩; have n0_ := Aside0.mk (Kd.R_lower ho0 (below_size (by repeat (first | (with_reducible first | exact HB.out | apply below_alloc | apply pw_below_drewN | apply below_drew1) | exact HB.out)))); have n1_ := Aside0.mk (below_step (by repeat (first | (with_reducible first | exact HB.out | apply below_alloc | apply pw_below_drewN | apply below_drew1) | exact HB.out)) hb); clear HB; have HO529 := n0_; have HB := n1_; clear n0_ n1_; (try clear hb); (try clear hb2); (try clear hk); (try clear hi); (try clear ho0); obtain ⟨Ao59, co59, eo59⟩ := Kd.R_slice HO529.out; subst eo59) | ((with_reducible refine gate_callee (f := 28) rfl ?_); refine goesL_ (some 177) rfl rfl Try.func28 (by kernel_rfl) rfl #[.int .i64 t525, .slice Ao59 t526.length co59] rfl (by (try simp only [List.map_toArray, List.map_cons, List.map_nil]); first | done | rfl | (simp only [List.length_drop, List.length_take]; rfl)) ?_; (with_reducible refine (image_Set.calls kj41 t525 _ _ t526 t530 t531 _ ?side1 ?side2 A54.out).mono ?_); (case side1 => repeat (first | exact (Kd.R_reads' HO529.out).2.2 | (with_reducible refine Kd.C_alloc ?_ _) | (with_reducible refine Kd.C_drewN ?_ _) | (with_reducible refine Kd.C_drew ?_))); (case side2 => exact (Kd.R_reads' HO529.out).2.1); rintro e w60 ⟨v532, rfl, ho0, hb⟩; refine ⟨_, rfl, ?_⟩; have n0_ := Aside0.mk (Kd.R_below (by (with_reducible repeat (first | apply Kd.R_alloc | apply Kd.R_drewN | apply Kd.R_drew)); exact HO529.out) hb); have n1_ := Aside0.mk (Kd.R_lower ho0 (below_size (by repeat (first | (with_reducible first | exact HB.out | apply below_alloc | apply pw_below_drewN | apply below_drew1) | exact HB.out)))); have n2_ := Aside0.mk (below_step (by repeat (first | (with_reducible first | exact HB.out | apply below_alloc | apply pw_below_drewN | apply below_drew1) | exact HB.out)) hb); clear HO529; clear HB; have HO529 := n0_; have HO533 := n1_; have HB := n2_; clear n0_ n1_ n2_; (try clear hb); (try clear hb2); (try clear hk); (try clear hi); (try clear ho0); have hcv61 := own_string (P := Try.prog) Try.underlying35 Try.underlying5 Try.underlying9 (Kd.own_of_R HO533.out); have hcv62 := Kd.C_string (P := Try.prog) (A := A5) (c := c5) Try.underlying35 Try.underlying5 Try.underlying9 (Kd.C_below HR5.out HB.out)))
                            go_ret
                            exact ⟨by first | rfl | (simp [errW_none, errW_some] <;> rfl) | (simp [*, errW_none, errW_some] <;> rfl), by repeat (first | (with_reducible first | exact HB.out | apply below_alloc | apply pw_below_drewN | apply below_drew1) | exact HB.out)⟩
                        · rw [if_neg c56] at H
                          have c56b0 : ((strOfNums t530).toList == (strOfNums l5).toList) = false := beq_eq_false_iff_ne.mpr c56
                          have c56b1 : ((strOfNums t530).toList != (strOfNums l5).toList) = true := bne_iff_ne.mpr c56
                          exact absurd ((Option.some.inj H).trans hT.out) Bool.false_ne_true
                      · rw [if_neg c55] at H
                        have c55b0 : (t531 == 0) = false := beq_eq_false_iff_ne.mpr c55
                        have c55b1 : (t531 != 0) = true := bne_iff_ne.mpr c55
                        exact absurd ((Option.some.inj H).trans hT.out) Bool.false_ne_true
                    · rw [if_neg c53] at H
                      have c53b0 : (t527 == 0) = false := beq_eq_false_iff_ne.mpr c53
                      have c53b1 : (t527 != 0) = true := bne_iff_ne.mpr c53
                      obtain rfl := Option.some.inj H
                      go_wp2_with (first | ((with_reducible refine gate_callee (f := 30) rfl ?_); refine goesL_ (some 168) rfl rfl Try.func30 (by kernel_rfl) rfl #[.slice A5 l5.length c5] rfl (by (try simp only [List.map_toArray, List.map_cons, List.map_nil]); first | done | rfl | (simp only [List.length_drop, List.length_take]; rfl)) ?_; (with_reducible refine (image_Leaves.calls kj41 _ _ l5 t525 t526 t527 _ ?side1 ?side2 A52.out).mono ?_); (case side1 => repeat (first | exact (Kd.C_below HR5.out HB.out) | (with_reducible refine Kd.C_alloc ?_ _) | (with_reducible refine Kd.C_drewN ?_ _) | (with_reducible refine Kd.C_drew ?_))); (case side2 => exact HC5.out); rintro e w63 ⟨v528, rfl, ho0, hb⟩; refine ⟨_, rfl, ?_⟩; have n0_ := Aside0.mk (Kd.R_lower ho0 (below_size (by repeat (first | (with_reducible first | exact HB.out | apply below_alloc | apply pw_below_drewN | apply below_drew1) | exact HB.out)))); have n1_ := Aside0.mk (below_step (by repeat (first | (with_reducible first | exact HB.out | apply below_alloc | apply pw_below_drewN | apply below_drew1) | exact HB.out)) hb); clear HB; have HO529 := n0_; have HB := n1_; clear n0_ n1_; (try clear hb); (try clear hb2); (try clear hk); (try clear hi); (try clear ho0)))
                      go_ret
                      exact ⟨by first | rfl | (simp [errW_none, errW_some] <;> rfl) | (simp [*, errW_none, errW_some] <;> rfl), by repeat (first | (with_reducible first | exact HB.out | apply below_alloc | apply pw_below_drewN | apply below_drew1) | exact HB.out)⟩

end Go.Proofs.Ytoljdfgkkkpnbaa.MP
