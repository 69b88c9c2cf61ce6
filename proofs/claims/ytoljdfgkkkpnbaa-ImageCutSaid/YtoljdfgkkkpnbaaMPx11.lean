-- written by a program of this session (wip/tools/mprint.sh) for this seat
import Derived.Test.YtoljdfgkkkpnbaaMPx0
import Derived.Test.YtoljdfgkkkpnbaaMPx3
import Derived.Test.YtoljdfgkkkpnbaaMPx5
import Derived.Test.YtoljdfgkkkpnbaaMPx7
import Derived.Test.YtoljdfgkkkpnbaaMPx10
namespace Go.Proofs.Ytoljdfgkkkpnbaa.MP
open Go.RowKit Go.Proofs.YtoljdfgkkkpnbaaW.PrintWords Go.Proofs.YtoljdfgkkkpnbaaW.PrintLast Go.Proofs.YtoljdfgkkkpnbaaW.PrintMore
attribute [local go_sem] max2_int min2_int max_two min_two max_three min_three max_four min_four   -- for this text's walks alone
set_option linter.unusedVariables false
set_option linter.unusedSimpArgs false

/-! ### medlarlaw17_ImageCut: function 10 -/
mutual
def medlarlaw17_ImageCut.j0 : Nat → Int → Int → Int → List (S65) → List Int → Int → List Int → Bool → Bool → Option (Bool)
  | 0, _, _, _, _, _, _, _, _, _ => none
  | k + 1, x0, x1, x2, x3, x4, x5, x6, x15, x54 => if x54 = true then (some x15) else ((image_Store.f k x0 x1 x2 x3).bind fun bt434 => (if bt434.2 = 0 then (if ([] : List Int).length + bt434.1.length < 140737488355328 then ((some (([] : List Int) ++ bt434.1 : List Int)).bind fun y438 => (if y438.length + x6.length < 140737488355328 then ((image_Read.f k (y438 ++ x6)).bind fun bt444 => (if bt444.2.2.2.2 = 0 then (some false) else (if x5 ≥ 0 then (medlarlaw17_ImageCut.j1 k x0 x4 x5 x6 x15 bt434.1 (decide (x5 < (bt434.1.length : Int)))) else (medlarlaw17_ImageCut.j1 k x0 x4 x5 x6 x15 bt434.1 false)))) else (none))) else (none)) else (medlarlaw17_ImageCut.j2 k x0 x4 x5 x6 x15)))
def medlarlaw17_ImageCut.j2 : Nat → Int → List Int → Int → List Int → Bool → Option (Bool)
  | 0, _, _, _, _, _ => none
  | k + 1, x0, x4, x5, x6, x15 => (image_Set.f k x0 x4).bind fun bt462 => (if bt462.2 = 0 then (if ([] : List Int).length + bt462.1.length < 140737488355328 then ((some (([] : List Int) ++ bt462.1 : List Int)).bind fun y466 => (if y466.length + x6.length < 140737488355328 then ((image_Leaves.f k (y466 ++ x6)).bind fun bt472 => (if bt472.2.2 = 0 then (some false) else (if x5 ≥ 0 then (medlarlaw17_ImageCut.j3 k x5 x15 bt462.1 (decide (x5 < (bt462.1.length : Int)))) else (medlarlaw17_ImageCut.j3 k x5 x15 bt462.1 false)))) else (none))) else (none)) else (some x15))
def medlarlaw17_ImageCut.j3 : Nat → Int → Bool → List Int → Bool → Option (Bool)
  | 0, _, _, _, _ => none
  | k + 1, x5, x15, x28, x125 => if x125 = true then (if 0 ≤ x5 then (if x5 ≤ (x28.length : Int) then ((image_Leaves.f k (x28.take (x5 : Int).toNat)).bind fun bt481 => (if bt481.2.2 = 2 then (some x15) else (some false))) else (none)) else (none)) else (some x15)
def medlarlaw17_ImageCut.j1 : Nat → Int → List Int → Int → List Int → Bool → List Int → Bool → Option (Bool)
  | 0, _, _, _, _, _, _, _ => none
  | k + 1, x0, x4, x5, x6, x15, x16, x86 => if x86 = true then (if 0 ≤ x5 then (if x5 ≤ (x16.length : Int) then ((image_Read.f k (x16.take (x5 : Int).toNat)).bind fun bt455 => (if bt455.2.2.2.2 = 2 then (medlarlaw17_ImageCut.j2 k x0 x4 x5 x6 x15) else (some false))) else (none)) else (none)) else (medlarlaw17_ImageCut.j2 k x0 x4 x5 x6 x15)
end
def medlarlaw17_ImageCut.f (k : Nat) (a0 : Int) (a1 : Int) (a2 : Int) (l3 : List (S65)) (l4 : List Int) (a5 : Int) (l6 : List Int) : Option (Bool) := (medlarlaw17_live.f k).bind fun t433 => (if (l3.length : Int) > 600 then (medlarlaw17_ImageCut.j0 k a0 a1 a2 l3 l4 a5 l6 t433 true) else (if (l4.length : Int) > 60 then (medlarlaw17_ImageCut.j0 k a0 a1 a2 l3 l4 a5 l6 t433 true) else (if (l6.length : Int) > 100 then (medlarlaw17_ImageCut.j0 k a0 a1 a2 l3 l4 a5 l6 t433 true) else (medlarlaw17_ImageCut.j0 k a0 a1 a2 l3 l4 a5 l6 t433 ((l6.length : Int) == 0)))))
theorem medlarlaw17_ImageCut.mono_l : ∀ k, (∀ y0 y1 y2 y3 y4 y5 y6 y7 y8, LeO (medlarlaw17_ImageCut.j0 k y0 y1 y2 y3 y4 y5 y6 y7 y8) (medlarlaw17_ImageCut.j0 (k + 1) y0 y1 y2 y3 y4 y5 y6 y7 y8)) ∧ (∀ y0 y1 y2 y3 y4, LeO (medlarlaw17_ImageCut.j2 k y0 y1 y2 y3 y4) (medlarlaw17_ImageCut.j2 (k + 1) y0 y1 y2 y3 y4)) ∧ (∀ y0 y1 y2 y3, LeO (medlarlaw17_ImageCut.j3 k y0 y1 y2 y3) (medlarlaw17_ImageCut.j3 (k + 1) y0 y1 y2 y3)) ∧ (∀ y0 y1 y2 y3 y4 y5 y6, LeO (medlarlaw17_ImageCut.j1 k y0 y1 y2 y3 y4 y5 y6) (medlarlaw17_ImageCut.j1 (k + 1) y0 y1 y2 y3 y4 y5 y6))
  | 0 => ⟨fun _ _ _ _ _ _ _ _ _ r h => by simp [medlarlaw17_ImageCut.j0] at h, fun _ _ _ _ _ r h => by simp [medlarlaw17_ImageCut.j2] at h, fun _ _ _ _ r h => by simp [medlarlaw17_ImageCut.j3] at h, fun _ _ _ _ _ _ _ r h => by simp [medlarlaw17_ImageCut.j1] at h⟩
  | k + 1 => by
    obtain ⟨ih0, ih1, ih2, ih3⟩ := medlarlaw17_ImageCut.mono_l k
    refine ⟨?_, ?_, ?_, ?_⟩
    · intro y0 y1 y2 y3 y4 y5 y6 y7 y8
      unfold medlarlaw17_ImageCut.j0
      repeat' first
      | (with_reducible exact ih0 _ _ _ _ _ _ _ _ _)
      | (with_reducible exact ih1 _ _ _ _ _)
      | (with_reducible exact ih2 _ _ _ _)
      | (with_reducible exact ih3 _ _ _ _ _ _ _)
      | (with_reducible exact image_Leaves.mono _ _)
      | (with_reducible exact image_Read.mono _ _)
      | (with_reducible exact image_Set.mono _ _ _)
      | (with_reducible exact image_Store.mono _ _ _ _ _)
      | (with_reducible exact medlarlaw17_live.mono _)
      | (with_reducible exact LeO.refl _)
      | (with_reducible exact LeO.none _)
      | (with_reducible refine LeO.ite ?_ ?_)
      | (with_reducible refine LeO.bind ?_ (fun _ => ?_))
      | exact ih0 _ _ _ _ _ _ _ _ _
      | exact ih1 _ _ _ _ _
      | exact ih2 _ _ _ _
      | exact ih3 _ _ _ _ _ _ _
      | exact image_Leaves.mono _ _
      | exact image_Read.mono _ _
      | exact image_Set.mono _ _ _
      | exact image_Store.mono _ _ _ _ _
      | exact medlarlaw17_live.mono _
      | exact LeO.none _
      | refine LeO.ite ?_ ?_
      | refine LeO.bind ?_ (fun _ => ?_)
    · intro y0 y1 y2 y3 y4
      unfold medlarlaw17_ImageCut.j2
      repeat' first
      | (with_reducible exact ih0 _ _ _ _ _ _ _ _ _)
      | (with_reducible exact ih1 _ _ _ _ _)
      | (with_reducible exact ih2 _ _ _ _)
      | (with_reducible exact ih3 _ _ _ _ _ _ _)
      | (with_reducible exact image_Leaves.mono _ _)
      | (with_reducible exact image_Read.mono _ _)
      | (with_reducible exact image_Set.mono _ _ _)
      | (with_reducible exact image_Store.mono _ _ _ _ _)
      | (with_reducible exact medlarlaw17_live.mono _)
      | (with_reducible exact LeO.refl _)
      | (with_reducible exact LeO.none _)
      | (with_reducible refine LeO.ite ?_ ?_)
      | (with_reducible refine LeO.bind ?_ (fun _ => ?_))
      | exact ih0 _ _ _ _ _ _ _ _ _
      | exact ih1 _ _ _ _ _
      | exact ih2 _ _ _ _
      | exact ih3 _ _ _ _ _ _ _
      | exact image_Leaves.mono _ _
      | exact image_Read.mono _ _
      | exact image_Set.mono _ _ _
      | exact image_Store.mono _ _ _ _ _
      | exact medlarlaw17_live.mono _
      | exact LeO.none _
      | refine LeO.ite ?_ ?_
      | refine LeO.bind ?_ (fun _ => ?_)
    · intro y0 y1 y2 y3
      unfold medlarlaw17_ImageCut.j3
      repeat' first
      | (with_reducible exact ih0 _ _ _ _ _ _ _ _ _)
      | (with_reducible exact ih1 _ _ _ _ _)
      | (with_reducible exact ih2 _ _ _ _)
      | (with_reducible exact ih3 _ _ _ _ _ _ _)
      | (with_reducible exact image_Leaves.mono _ _)
      | (with_reducible exact image_Read.mono _ _)
      | (with_reducible exact image_Set.mono _ _ _)
      | (with_reducible exact image_Store.mono _ _ _ _ _)
      | (with_reducible exact medlarlaw17_live.mono _)
      | (with_reducible exact LeO.refl _)
      | (with_reducible exact LeO.none _)
      | (with_reducible refine LeO.ite ?_ ?_)
      | (with_reducible refine LeO.bind ?_ (fun _ => ?_))
      | exact ih0 _ _ _ _ _ _ _ _ _
      | exact ih1 _ _ _ _ _
      | exact ih2 _ _ _ _
      | exact ih3 _ _ _ _ _ _ _
      | exact image_Leaves.mono _ _
      | exact image_Read.mono _ _
      | exact image_Set.mono _ _ _
      | exact image_Store.mono _ _ _ _ _
      | exact medlarlaw17_live.mono _
      | exact LeO.none _
      | refine LeO.ite ?_ ?_
      | refine LeO.bind ?_ (fun _ => ?_)
    · intro y0 y1 y2 y3 y4 y5 y6
      unfold medlarlaw17_ImageCut.j1
      repeat' first
      | (with_reducible exact ih0 _ _ _ _ _ _ _ _ _)
      | (with_reducible exact ih1 _ _ _ _ _)
      | (with_reducible exact ih2 _ _ _ _)
      | (with_reducible exact ih3 _ _ _ _ _ _ _)
      | (with_reducible exact image_Leaves.mono _ _)
      | (with_reducible exact image_Read.mono _ _)
      | (with_reducible exact image_Set.mono _ _ _)
      | (with_reducible exact image_Store.mono _ _ _ _ _)
      | (with_reducible exact medlarlaw17_live.mono _)
      | (with_reducible exact LeO.refl _)
      | (with_reducible exact LeO.none _)
      | (with_reducible refine LeO.ite ?_ ?_)
      | (with_reducible refine LeO.bind ?_ (fun _ => ?_))
      | exact ih0 _ _ _ _ _ _ _ _ _
      | exact ih1 _ _ _ _ _
      | exact ih2 _ _ _ _
      | exact ih3 _ _ _ _ _ _ _
      | exact image_Leaves.mono _ _
      | exact image_Read.mono _ _
      | exact image_Set.mono _ _ _
      | exact image_Store.mono _ _ _ _ _
      | exact medlarlaw17_live.mono _
      | exact LeO.none _
      | refine LeO.ite ?_ ?_
      | refine LeO.bind ?_ (fun _ => ?_)
theorem medlarlaw17_ImageCut.mono : ∀ a0 a1 a2 a3 a4 a5 a6 k, LeO (medlarlaw17_ImageCut.f k a0 a1 a2 a3 a4 a5 a6) (medlarlaw17_ImageCut.f (k + 1) a0 a1 a2 a3 a4 a5 a6) := by
  intro a0 a1 a2 a3 a4 a5 a6 k
  obtain ⟨ih0, ih1, ih2, ih3⟩ := medlarlaw17_ImageCut.mono_l k
  unfold medlarlaw17_ImageCut.f
  repeat' first
      | (with_reducible exact ih0 _ _ _ _ _ _ _ _ _)
      | (with_reducible exact ih1 _ _ _ _ _)
      | (with_reducible exact ih2 _ _ _ _)
      | (with_reducible exact ih3 _ _ _ _ _ _ _)
      | (with_reducible exact image_Leaves.mono _ _)
      | (with_reducible exact image_Read.mono _ _)
      | (with_reducible exact image_Set.mono _ _ _)
      | (with_reducible exact image_Store.mono _ _ _ _ _)
      | (with_reducible exact medlarlaw17_live.mono _)
      | (with_reducible exact LeO.refl _)
      | (with_reducible exact LeO.none _)
      | (with_reducible refine LeO.ite ?_ ?_)
      | (with_reducible refine LeO.bind ?_ (fun _ => ?_))
      | exact ih0 _ _ _ _ _ _ _ _ _
      | exact ih1 _ _ _ _ _
      | exact ih2 _ _ _ _
      | exact ih3 _ _ _ _ _ _ _
      | exact image_Leaves.mono _ _
      | exact image_Read.mono _ _
      | exact image_Set.mono _ _ _
      | exact image_Store.mono _ _ _ _ _
      | exact medlarlaw17_live.mono _
      | exact LeO.none _
      | refine LeO.ite ?_ ?_
      | refine LeO.bind ?_ (fun _ => ?_)
set_option maxHeartbeats 8000000 in
set_option maxRecDepth 100000 in
theorem medlarlaw17_ImageCut.calls (k : Nat) (a0 : Int) (a1 : Int) (a2 : Int) (A3 : Option Addr) (c3 : Nat) (l3 : List (S65)) (A4 : Option Addr) (c4 : Nat) (l4 : List Int) (a5 : Int) (A6 : Option Addr) (c6 : Nat) (l6 : List Int) (r : Bool) (w : World) (hr3 : Kd.C k65 w A3 l3.length l3) (hc3 : l3.length ≤ c3) (hr4 : Kd.C (Kd.int .u64) w A4 l4.length l4) (hc4 : l4.length ≤ c4) (hr6 : Kd.C (Kd.int .u8) w A6 l6.length l6) (hc6 : l6.length ≤ c6) (h : medlarlaw17_ImageCut.f k a0 a1 a2 l3 l4 a5 l6 = some r) (hT : Aside0 (r = true)) :
    Calls Try.prog 10 #[.int .i64 a0, .int .i64 a1, .int .u64 a2, .slice A3 l3.length c3, .slice A4 l4.length c4, .int .i64 a5, .slice A6 l6.length c6] w fun e w' => e = .returned (.bool r) ∧ Below w.heap.size w w' := by
  have HR3 := Aside0.mk hr3
  have HC3 := Aside0.mk hc3
  clear hr3 hc3
  have HR4 := Aside0.mk hr4
  have HC4 := Aside0.mk hc4
  clear hr4 hc4
  have HR6 := Aside0.mk hr6
  have HC6 := Aside0.mk hc6
  clear hr6 hc6
  have HB := Aside0.mk (Below.refl w.heap.size w)
  have H : ((medlarlaw17_live.f k).bind fun t433 => (if (l3.length : Int) > 600 then (medlarlaw17_ImageCut.j0 k a0 a1 a2 l3 l4 a5 l6 t433 true) else (if (l4.length : Int) > 60 then (medlarlaw17_ImageCut.j0 k a0 a1 a2 l3 l4 a5 l6 t433 true) else (if (l6.length : Int) > 100 then (medlarlaw17_ImageCut.j0 k a0 a1 a2 l3 l4 a5 l6 t433 true) else (medlarlaw17_ImageCut.j0 k a0 a1 a2 l3 l4 a5 l6 t433 ((l6.length : Int) == 0)))))) = some r := h
  clear h
  replace H := Option.bind_eq_some_iff.mp H
  obtain ⟨t433, A80, H⟩ := H
  replace H : (if (l3.length : Int) > 600 then (medlarlaw17_ImageCut.j0 k a0 a1 a2 l3 l4 a5 l6 t433 true) else (if (l4.length : Int) > 60 then (medlarlaw17_ImageCut.j0 k a0 a1 a2 l3 l4 a5 l6 t433 true) else (if (l6.length : Int) > 100 then (medlarlaw17_ImageCut.j0 k a0 a1 a2 l3 l4 a5 l6 t433 true) else (medlarlaw17_ImageCut.j0 k a0 a1 a2 l3 l4 a5 l6 t433 ((l6.length : Int) == 0))))) = some r := H
  have A8 := Aside0.mk A80
  clear A80
  have HC9 := Aside0.mk H
  clear H
  go_enter Try.func10, Try.ntmps10
  go_upto_region 2 with (first | ((with_reducible refine gate_callee (f := 27) rfl ?_); refine goesL_ (some 36) rfl rfl Try.func27 (by kernel_rfl) rfl #[] rfl (by (try simp only [List.map_toArray, List.map_cons, List.map_nil]); first | done | rfl | (simp only [List.length_drop, List.length_take]; rfl)) ?_; (with_reducible refine (medlarlaw17_live.calls k  t433 _ A8.out).mono ?_); rintro e w10 ⟨rfl, hb⟩; refine ⟨_, rfl, ?_⟩; have n0_ := Aside0.mk (below_step (by repeat (first | (with_reducible first | exact HB.out | apply below_alloc | apply pw_below_drewN | apply below_drew1) | exact HB.out)) hb); clear HB; have HB := n0_; clear n0_; (try clear hb); (try clear hb2); (try clear hk); (try clear hi)))
  (try simp only [Act.put, List.setIfInBounds_toArray, List.set_cons_zero, List.set_cons_succ])
  go_cut [54] (fun v54 wc => ∃ (kq : Nat) (x54_8 : Bool), v54 = .bool x54_8 ∧ Aside0 (medlarlaw17_ImageCut.j0 kq a0 a1 a2 l3 l4 a5 l6 t433 x54_8 = some r) ∧ Aside0 (kq ≤ k) ∧ Aside0 (Below w.heap.size w wc))
  case first =>
    have H := HC9.out
    clear HC9
    by_cases c11 : (l3.length : Int) > 600
    · rw [if_pos c11] at H
      have c11b0 : decide (600 < (l3.length : Int)) = true := decide_eq_true c11
      have c11b1 : decide (600 < l3.length) = true := decide_eq_true (by omega)
      clear c11
      (first | rw [c11b0] | (simp only [i64_w, i32_w]; rw [c11b0]) | skip)
      have H' := Aside0.mk H
      clear H
      go_wp2
      go_meet
      case rel => exact ⟨_, (true), (by first | rfl | (simp; done) | (simp [*]; done)), H', ⟨by first | omega | exact Nat.le_refl _⟩, ⟨by repeat (first | (with_reducible first | exact HB.out | apply below_alloc | apply pw_below_drewN | apply below_drew1) | exact HB.out)⟩⟩
    · rw [if_neg c11] at H
      have c11b0 : decide (600 < (l3.length : Int)) = false := decide_eq_false c11
      have c11b1 : decide (600 < l3.length) = false := decide_eq_false (by omega)
      clear c11
      (first | rw [c11b0] | (simp only [i64_w, i32_w]; rw [c11b0]) | skip)
      by_cases c12 : (l4.length : Int) > 60
      · rw [if_pos c12] at H
        have c12b0 : decide (60 < (l4.length : Int)) = true := decide_eq_true c12
        have c12b1 : decide (60 < l4.length) = true := decide_eq_true (by omega)
        clear c12
        have H' := Aside0.mk H
        clear H
        go_wp2
        go_meet
        case rel => exact ⟨_, (true), (by first | rfl | (simp; done) | (simp [*]; done)), H', ⟨by first | omega | exact Nat.le_refl _⟩, ⟨by repeat (first | (with_reducible first | exact HB.out | apply below_alloc | apply pw_below_drewN | apply below_drew1) | exact HB.out)⟩⟩
      · rw [if_neg c12] at H
        have c12b0 : decide (60 < (l4.length : Int)) = false := decide_eq_false c12
        have c12b1 : decide (60 < l4.length) = false := decide_eq_false (by omega)
        clear c12
        by_cases c13 : (l6.length : Int) > 100
        · rw [if_pos c13] at H
          have c13b0 : decide (100 < (l6.length : Int)) = true := decide_eq_true c13
          have c13b1 : decide (100 < l6.length) = true := decide_eq_true (by omega)
          clear c13
          have H' := Aside0.mk H
          clear H
          go_wp2
          go_meet
          case rel => exact ⟨_, (true), (by first | rfl | (simp; done) | (simp [*]; done)), H', ⟨by first | omega | exact Nat.le_refl _⟩, ⟨by repeat (first | (with_reducible first | exact HB.out | apply below_alloc | apply pw_below_drewN | apply below_drew1) | exact HB.out)⟩⟩
        · rw [if_neg c13] at H
          have c13b0 : decide (100 < (l6.length : Int)) = false := decide_eq_false c13
          have c13b1 : decide (100 < l6.length) = false := decide_eq_false (by omega)
          clear c13
          have H' := Aside0.mk H
          clear H
          go_wp2
          go_meet
          case rel => exact ⟨_, (((l6.length : Int) == 0)), (by first | rfl | (simp; done) | (simp [*]; done)), H', ⟨by first | omega | exact Nat.le_refl _⟩, ⟨by repeat (first | (with_reducible first | exact HB.out | apply below_alloc | apply pw_below_drewN | apply below_drew1) | exact HB.out)⟩⟩
  case rest =>
    clear HC9
    try clear c1
    try clear c2
    try clear p2
    try clear c3
    try clear c4
    try clear c6
    try clear c10
    try clear c11
    try clear c11b0
    try clear c11b1
    try clear c12
    try clear c12b0
    try clear c12b1
    try clear c13
    try clear c13b0
    try clear c13b1
    obtain ⟨kq, x54_8, rfl, HA, HJ8, HB⟩ := hcut
    cases kq with
    | zero => exact absurd HA.out (by simp [medlarlaw17_ImageCut.j0])
    | succ kj8 =>
      have H := HA.out
      clear HA
      simp only [medlarlaw17_ImageCut.j0] at H
      by_cases c14 : x54_8 = true
      · subst c14
        have H1 : (some t433) = some r := by rw [if_pos rfl] at H; exact H
        clear H
        have H := H1
        clear H1
        obtain rfl := Option.some.inj H
        go_wp2
        go_ret
        exact ⟨by first | rfl | (simp [errW_none, errW_some] <;> rfl) | (simp [*, errW_none, errW_some] <;> rfl), by repeat (first | (with_reducible first | exact HB.out | apply below_alloc | apply pw_below_drewN | apply below_drew1) | exact HB.out)⟩
      · replace c14 := Bool.eq_false_iff.mpr c14
        subst c14
        have H1 : ((image_Store.f kj8 a0 a1 a2 l3).bind fun bt434 => (if bt434.2 = 0 then (if ([] : List Int).length + bt434.1.length < 140737488355328 then ((some (([] : List Int) ++ bt434.1 : List Int)).bind fun y438 => (if y438.length + l6.length < 140737488355328 then ((image_Read.f kj8 (y438 ++ l6)).bind fun bt444 => (if bt444.2.2.2.2 = 0 then (some false) else (if a5 ≥ 0 then (medlarlaw17_ImageCut.j1 kj8 a0 l4 a5 l6 t433 bt434.1 (decide (a5 < (bt434.1.length : Int)))) else (medlarlaw17_ImageCut.j1 kj8 a0 l4 a5 l6 t433 bt434.1 false)))) else (none))) else (none)) else (medlarlaw17_ImageCut.j2 kj8 a0 l4 a5 l6 t433))) = some r := by rw [if_neg (show ¬ (false = true) by decide)] at H; exact H
        clear H
        have H := H1
        clear H1
        replace H := Option.bind_eq_some_iff.mp H
        obtain ⟨⟨t434, t435⟩, A150, H⟩ := H
        replace H : (if t435 = 0 then (if ([] : List Int).length + t434.length < 140737488355328 then ((some (([] : List Int) ++ t434 : List Int)).bind fun y438 => (if y438.length + l6.length < 140737488355328 then ((image_Read.f kj8 (y438 ++ l6)).bind fun bt444 => (if bt444.2.2.2.2 = 0 then (some false) else (if a5 ≥ 0 then (medlarlaw17_ImageCut.j1 kj8 a0 l4 a5 l6 t433 t434 (decide (a5 < (t434.length : Int)))) else (medlarlaw17_ImageCut.j1 kj8 a0 l4 a5 l6 t433 t434 false)))) else (none))) else (none)) else (medlarlaw17_ImageCut.j2 kj8 a0 l4 a5 l6 t433)) = some r := H
        have A15 := Aside0.mk A150
        clear A150
        have HC16 := Aside0.mk H
        clear H
        go_upto_if 65 with (first | ((with_reducible refine gate_callee (f := 33) rfl ?_); refine goesL_ (some 61) rfl rfl Try.func33 (by kernel_rfl) rfl #[.int .i64 a0, .int .i64 a1, .int .u64 a2, .slice A3 l3.length c3] rfl (by (try simp only [List.map_toArray, List.map_cons, List.map_nil]); first | done | rfl | (simp only [List.length_drop, List.length_take]; rfl)) ?_; (with_reducible refine (image_Store.calls kj8 a0 a1 a2 _ _ l3 t434 t435 _ ?side1 ?side2 A15.out).mono ?_); (case side1 => repeat (first | exact (Kd.C_below HR3.out HB.out) | (with_reducible refine Kd.C_alloc ?_ _) | (with_reducible refine Kd.C_drewN ?_ _) | (with_reducible refine Kd.C_drew ?_))); (case side2 => exact HC3.out); rintro e w17 ⟨v436, rfl, ho0, hb⟩; refine ⟨_, rfl, ?_⟩; have n0_ := Aside0.mk (Kd.R_lower ho0 (below_size (by repeat (first | (with_reducible first | exact HB.out | apply below_alloc | apply pw_below_drewN | apply below_drew1) | exact HB.out)))); have n1_ := Aside0.mk (below_step (by repeat (first | (with_reducible first | exact HB.out | apply below_alloc | apply pw_below_drewN | apply below_drew1) | exact HB.out)) hb); clear HB; have HO437 := n0_; have HB := n1_; clear n0_ n1_; (try clear hb); (try clear hb2); (try clear hk); (try clear hi); (try clear ho0)))
        (try simp only [Act.put, List.setIfInBounds_toArray, List.set_cons_zero, List.set_cons_succ])
        go_cut [] (fun wc => ∃ (kq : Nat), Aside0 (medlarlaw17_ImageCut.j2 kq a0 l4 a5 l6 t433 = some r) ∧ Aside0 (kq ≤ kj8) ∧ Aside0 (Below w.heap.size w wc))
        case first =>
          have H := HC16.out
          clear HC16
          by_cases c18 : t435 = 0
          · rw [if_pos c18] at H
            have c18b0 : (t435 == 0) = true := beq_iff_eq.mpr c18
            have c18b1 : (t435 != 0) = false := bne_eq_false_iff_eq.mpr c18
            clear c18
            (first | rw [c18b0] | (simp only [i64_w, i32_w]; rw [c18b0]) | skip)
            by_cases c19 : ([] : List Int).length + t434.length < 140737488355328
            · rw [if_pos c19] at H
              have LMc19 := Aside0.mk c19
              clear c19
              obtain ⟨y438, hy438⟩ : ∃ y_ : List Int, y_ = (([] : List Int) ++ t434) := ⟨_, rfl⟩
              replace H : (if y438.length + l6.length < 140737488355328 then ((image_Read.f kj8 (y438 ++ l6)).bind fun bt444 => (if bt444.2.2.2.2 = 0 then (some false) else (if a5 ≥ 0 then (medlarlaw17_ImageCut.j1 kj8 a0 l4 a5 l6 t433 t434 (decide (a5 < (t434.length : Int)))) else (medlarlaw17_ImageCut.j1 kj8 a0 l4 a5 l6 t433 t434 false)))) else (none)) = some r := by first | (rw [hy438]; with_reducible exact H) | (have H2_ := (Option.bind_some _ _).symm.trans H; rw [hy438]; with_reducible exact H2_) | (have H2_ := (Option.bind_some _ _).symm.trans H; with_reducible exact H2_) | with_reducible exact H | (rw [hy438]; exact H) | exact H
              have Ny438 := Aside0.mk hy438
              clear hy438
              by_cases c20 : y438.length + l6.length < 140737488355328
              · rw [if_pos c20] at H
                have LMc20 := Aside0.mk c20
                clear c20
                obtain ⟨y441, hy441⟩ : ∃ y_ : List Int, y_ = (y438 ++ l6) := ⟨_, rfl⟩
                replace H : ((image_Read.f kj8 y441).bind fun bt444 => (if bt444.2.2.2.2 = 0 then (some false) else (if a5 ≥ 0 then (medlarlaw17_ImageCut.j1 kj8 a0 l4 a5 l6 t433 t434 (decide (a5 < (t434.length : Int)))) else (medlarlaw17_ImageCut.j1 kj8 a0 l4 a5 l6 t433 t434 false)))) = some r := by first | (rw [hy441]; with_reducible exact H) | (have H2_ := (Option.bind_some _ _).symm.trans H; rw [hy441]; with_reducible exact H2_) | (have H2_ := (Option.bind_some _ _).symm.trans H; with_reducible exact H2_) | with_reducible exact H | (rw [hy441]; exact H) | exact H
                have Ny441 := Aside0.mk hy441
                clear hy441
                replace H := Option.bind_eq_some_iff.mp H
                obtain ⟨⟨t444, t445, t446, t447, t448⟩, A210, H⟩ := H
                replace H : (if t448 = 0 then (some false) else (if a5 ≥ 0 then (medlarlaw17_ImageCut.j1 kj8 a0 l4 a5 l6 t433 t434 (decide (a5 < (t434.length : Int)))) else (medlarlaw17_ImageCut.j1 kj8 a0 l4 a5 l6 t433 t434 false))) = some r := H
                have A21 := Aside0.mk A210
                clear A210
                by_cases c22 : t448 = 0
                · rw [if_pos c22] at H
                  have c22b0 : (t448 == 0) = true := beq_iff_eq.mpr c22
                  have c22b1 : (t448 != 0) = false := bne_eq_false_iff_eq.mpr c22
                  clear c22
                  exact absurd ((Option.some.inj H).trans hT.out) Bool.false_ne_true
                · rw [if_neg c22] at H
                  have c22b0 : (t448 == 0) = false := beq_eq_false_iff_ne.mpr c22
                  have c22b1 : (t448 != 0) = true := bne_iff_ne.mpr c22
                  have HC23 := Aside0.mk H
                  clear H
                  obtain ⟨Ao25, co25, eo25⟩ := Kd.R_slice HO437.out
                  subst eo25
                  go_upto_region 9 with (first | ((with_reducible refine gate_builtin (b := .append) (xs := #[.const (.slice none 0 0), .tmp 67]) rfl ?_); (try (refine gate_guard (by rfl) ?_; dsimp only)); at_builtin; refine Kd.R_append_rows (Kd.int .u8) (w0 := w) w.heap.size rfl (.const (.slice none 0 0)) (.tmp 67) 35 5 (.int .u8 0) 1 rfl Try.underlying35 info5 rfl (by decide) (by omega) (.slice none 0 0) ([] : List Int) t434 _ _ _ (fun k_ => some k_ ≠ (.slice Ao25 t434.length co25 : Value).ownBlock) (fun _ => False) rfl rfl ?aO ?aR (fun _ _ h => h) (fun _ h => h.elim) ?aF ?aB ?aS ?aL ?_; (case aR => repeat (first | exact (Kd.R_reads' HO437.out).2.2 | (with_reducible refine Kd.C_alloc ?_ _) | (with_reducible refine Kd.C_drewN ?_ _) | (with_reducible refine Kd.C_drew ?_))); (case aB => exact (by repeat (first | (with_reducible first | exact HB.out | apply below_alloc | apply pw_below_drewN | apply below_drew1) | exact HB.out))); (case aF => exact (fun k_ hk => Kd.fresh' (Kd.R_lt (by (with_reducible repeat (first | apply Kd.R_alloc | apply Kd.R_drewN | apply Kd.R_drew)); exact HO437.out)) k_ hk)); (case aO => exact ((Kd.R_nil _ _ _ _ (fun k_ => some k_ ≠ (.slice Ao25 t434.length co25 : Value).ownBlock)))); (case aS => exact (below_size (by repeat (first | (with_reducible first | exact HB.out | apply below_alloc | apply pw_below_drewN | apply below_drew1) | exact HB.out)))); (case aL => have := LMc19.out; omega); intro v439 w24 ho hb hg hat; rw [← Ny438.out] at ho; have n0_ := Aside0.mk (Kd.R_after (Kd.R_apart_nil (by (with_reducible repeat (first | apply Kd.R_alloc | apply Kd.R_drewN | apply Kd.R_drew)); exact HO437.out)) hg hat); have n1_ := Aside0.mk (hb); have n2_ := Aside0.mk (ho); clear HO437; clear HB; have HO437 := n0_; have HB := n1_; have HO440 := n2_; clear n0_ n1_ n2_; clear ho hb hg hat) | ((with_reducible refine gate_builtin (b := .append) (xs := #[.tmp 68, .tmp 69]) rfl ?_); (try (refine gate_guard (by rfl) ?_; dsimp only)); at_builtin; refine Kd.R_append_rows (Kd.int .u8) (w0 := w) w.heap.size rfl (.tmp 68) (.tmp 69) 35 5 (.int .u8 0) 1 rfl Try.underlying35 info5 rfl (by decide) (by omega) v439 y438 l6 _ _ _ (fun k_ => some k_ ≠ (.slice Ao25 t434.length co25 : Value).ownBlock) (fun _ => False) rfl rfl ?aO ?aR (fun _ _ h => h) (fun _ h => h.elim) ?aF ?aB ?aS ?aL ?_; (case aR => repeat (first | exact (Kd.C_below HR6.out HB.out) | (with_reducible refine Kd.C_alloc ?_ _) | (with_reducible refine Kd.C_drewN ?_ _) | (with_reducible refine Kd.C_drew ?_))); (case aB => exact (by repeat (first | (with_reducible first | exact HB.out | apply below_alloc | apply pw_below_drewN | apply below_drew1) | exact HB.out))); (case aF => exact (fun k_ hk => Kd.fresh' (Kd.R_lt (by (with_reducible repeat (first | apply Kd.R_alloc | apply Kd.R_drewN | apply Kd.R_drew)); exact HO437.out)) k_ hk)); (case aO => exact (by (with_reducible repeat (first | apply Kd.R_alloc | apply Kd.R_drewN | apply Kd.R_drew)); exact HO440.out)); (case aS => exact (below_size (by repeat (first | (with_reducible first | exact HB.out | apply below_alloc | apply pw_below_drewN | apply below_drew1) | exact HB.out)))); (case aL => have := LMc20.out; omega); intro v442 w26 ho hb hg hat; rw [← Ny441.out] at ho; have n0_ := Aside0.mk (Kd.R_after (ok := (fun _ => True)) (by (with_reducible repeat (first | apply Kd.R_alloc | apply Kd.R_drewN | apply Kd.R_drew)); exact HO437.out) hg hat); have n1_ := Aside0.mk (hb); have n2_ := Aside0.mk (ho); clear HO437; clear HB; clear HO440; have HO437 := n0_; have HB := n1_; have HO443 := n2_; clear n0_ n1_ n2_; clear ho hb hg hat; obtain ⟨Ao27, co27, eo27⟩ := Kd.R_slice HO443.out; subst eo27) | ((with_reducible refine gate_callee (f := 35) rfl ?_); refine goesL_ (some 71) rfl rfl Try.func35 (by kernel_rfl) rfl #[.slice Ao27 y441.length co27] rfl (by (try simp only [List.map_toArray, List.map_cons, List.map_nil]); first | done | rfl | (simp only [List.length_drop, List.length_take]; rfl)) ?_; (with_reducible refine (image_Read.calls kj8 _ _ y441 t444 t445 t446 t447 t448 _ ?side1 ?side2 A21.out).mono ?_); (case side1 => repeat (first | exact (Kd.R_reads' HO443.out).2.2 | (with_reducible refine Kd.C_alloc ?_ _) | (with_reducible refine Kd.C_drewN ?_ _) | (with_reducible refine Kd.C_drew ?_))); (case side2 => exact (Kd.R_reads' HO443.out).2.1); rintro e w28 ⟨v449, rfl, ho0, hb⟩; refine ⟨_, rfl, ?_⟩; have n0_ := Aside0.mk (Kd.R_below (by (with_reducible repeat (first | apply Kd.R_alloc | apply Kd.R_drewN | apply Kd.R_drew)); exact HO437.out) hb); have n1_ := Aside0.mk (Kd.R_below (by (with_reducible repeat (first | apply Kd.R_alloc | apply Kd.R_drewN | apply Kd.R_drew)); exact HO443.out) hb); have n2_ := Aside0.mk (Kd.R_lower ho0 (below_size (by repeat (first | (with_reducible first | exact HB.out | apply below_alloc | apply pw_below_drewN | apply below_drew1) | exact HB.out)))); have n3_ := Aside0.mk (below_step (by repeat (first | (with_reducible first | exact HB.out | apply below_alloc | apply pw_below_drewN | apply below_drew1) | exact HB.out)) hb); clear HO437; clear HO443; clear HB; have HO437 := n0_; have HO443 := n1_; have HO450 := n2_; have HB := n3_; clear n0_ n1_ n2_ n3_; (try clear hb); (try clear hb2); (try clear hk); (try clear hi); (try clear ho0)))
                  (try simp only [Act.put, List.setIfInBounds_toArray, List.set_cons_zero, List.set_cons_succ])
                  go_cut [86] (fun v86 wc => ∃ (kq : Nat) (x86_22 : Bool), v86 = .bool x86_22 ∧ Aside0 (medlarlaw17_ImageCut.j1 kq a0 l4 a5 l6 t433 t434 x86_22 = some r) ∧ Aside0 (kq ≤ kj8) ∧ Aside0 (Kd.R (Kd.int .u8) 5 wc w.heap.size (fun _ => True) (.slice Ao25 t434.length co25) t434) ∧ Aside0 (Below w.heap.size w wc))
                  case first =>
                    have H := HC23.out
                    clear HC23
                    by_cases c29 : a5 ≥ 0
                    · rw [if_pos c29] at H
                      have c29b0 : decide (0 ≤ a5) = true := decide_eq_true c29
                      clear c29
                      (first | rw [c29b0] | (simp only [i64_w, i32_w]; rw [c29b0]) | skip)
                      have H' := Aside0.mk H
                      clear H
                      go_wp2
                      go_meet
                      case rel => exact ⟨_, (decide (a5 < (t434.length : Int))), (by first | rfl | (simp; done) | (simp [*]; done)), H', ⟨by have := HJ8.out; first | omega | exact Nat.le_refl _⟩, ⟨by (with_reducible repeat (first | apply Kd.R_alloc | apply Kd.R_drewN | apply Kd.R_drew)); exact Kd.R_mono HO437.out (fun _ hk => trivial)⟩, ⟨by repeat (first | (with_reducible first | exact HB.out | apply below_alloc | apply pw_below_drewN | apply below_drew1) | exact HB.out)⟩⟩
                    · rw [if_neg c29] at H
                      have c29b0 : decide (0 ≤ a5) = false := decide_eq_false c29
                      clear c29
                      (first | rw [c29b0] | (simp only [i64_w, i32_w]; rw [c29b0]) | skip)
                      have H' := Aside0.mk H
                      clear H
                      go_wp2
                      go_meet
                      case rel => exact ⟨_, (false), (by first | rfl | (simp; done) | (simp [*]; done)), H', ⟨by have := HJ8.out; first | omega | exact Nat.le_refl _⟩, ⟨by (with_reducible repeat (first | apply Kd.R_alloc | apply Kd.R_drewN | apply Kd.R_drew)); exact Kd.R_mono HO437.out (fun _ hk => trivial)⟩, ⟨by repeat (first | (with_reducible first | exact HB.out | apply below_alloc | apply pw_below_drewN | apply below_drew1) | exact HB.out)⟩⟩
                  case rest =>
                    clear HC23
                    try clear c1
                    try clear c2
                    try clear p2
                    try clear c3
                    try clear c4
                    try clear c6
                    try clear c10
                    try clear c11
                    try clear c11b0
                    try clear c11b1
                    try clear c12
                    try clear c12b0
                    try clear c12b1
                    try clear c13
                    try clear c13b0
                    try clear c13b1
                    try clear c14
                    try clear c18
                    try clear c18b0
                    try clear c18b1
                    try clear c19
                    try clear c20
                    try clear c22
                    try clear c22b0
                    try clear c22b1
                    try clear c27
                    try clear c29
                    try clear c29b0
                    try clear p2
                    obtain ⟨kq, x86_22, rfl, HA, HJ22, HO_16, HB⟩ := hcut
                    cases kq with
                    | zero => exact absurd HA.out (by simp [medlarlaw17_ImageCut.j1])
                    | succ kj22 =>
                      have H := HA.out
                      clear HA
                      simp only [medlarlaw17_ImageCut.j1] at H
                      by_cases c30 : x86_22 = true
                      · subst c30
                        have H1 : (if 0 ≤ a5 then (if a5 ≤ (t434.length : Int) then ((image_Read.f kj22 (t434.take (a5 : Int).toNat)).bind fun bt455 => (if bt455.2.2.2.2 = 2 then (medlarlaw17_ImageCut.j2 kj22 a0 l4 a5 l6 t433) else (some false))) else (none)) else (none)) = some r := by rw [if_pos rfl] at H; exact H
                        clear H
                        have H := H1
                        clear H1
                        by_cases c31 : 0 ≤ a5
                        · rw [if_pos c31] at H
                          have c31b0 := eq_true c31
                          have c31b1 : decide (0 ≤ a5) = true := decide_eq_true c31
                          clear c31
                          by_cases c32 : a5 ≤ (t434.length : Int)
                          · rw [if_pos c32] at H
                            have c32b0 := eq_true c32
                            have c32b1 : decide (a5 ≤ (t434.length : Int)) = true := decide_eq_true c32
                            clear c32
                            obtain ⟨y451, hy451⟩ : ∃ y_ : List Int, y_ = (t434.take (a5 : Int).toNat) := ⟨_, rfl⟩
                            replace H : ((image_Read.f kj22 y451).bind fun bt455 => (if bt455.2.2.2.2 = 2 then (medlarlaw17_ImageCut.j2 kj22 a0 l4 a5 l6 t433) else (some false))) = some r := by first | (rw [hy451]; with_reducible exact H) | (have H2_ := (Option.bind_some _ _).symm.trans H; rw [hy451]; with_reducible exact H2_) | (have H2_ := (Option.bind_some _ _).symm.trans H; with_reducible exact H2_) | with_reducible exact H | (rw [hy451]; exact H) | exact H
                            have Ny451 := Aside0.mk hy451
                            clear hy451
                            replace H := Option.bind_eq_some_iff.mp H
                            obtain ⟨⟨t455, t456, t457, t458, t459⟩, A330, H⟩ := H
                            replace H : (if t459 = 2 then (medlarlaw17_ImageCut.j2 kj22 a0 l4 a5 l6 t433) else (some false)) = some r := H
                            have A33 := Aside0.mk A330
                            clear A330
                            by_cases c34 : t459 = 2
                            · rw [if_pos c34] at H
                              have c34b0 : (t459 == 2) = true := beq_iff_eq.mpr c34
                              have c34b1 : (t459 != 2) = false := bne_eq_false_iff_eq.mpr c34
                              clear c34
                              have H' := Aside0.mk H
                              clear H
                              have q35 : (a5 : Int) ≤ ((t434.length : Int) : Int) := of_decide_eq_true (by first | (with_reducible assumption) | assumption)
                              obtain ⟨i035, hi035, _, hsz35, _⟩ := info_parts info5
                              have hroom35 : t434.length ≤ co25 := (Kd.R_reads' HO_16.out).2.1
                              have hC35 : Kd.C (Kd.int .u8) _ Ao25 t434.length t434 := (Kd.R_reads' HO_16.out).2.2
                              have hcut35 := cut_to (P := Try.prog) 35 5 .i64 Try.underlying35 hi035 Ao25 t434.length co25 a5 (of_decide_eq_true (by first | (with_reducible assumption) | assumption)) q35 hroom35
                              have hr35 := Kd.C_take (m := (a5 : Int).toNat) hC35 (by omega)
                              have hy35 : y451.length = (a5 : Int).toNat := (by rw [Ny451.out, List.length_take]; omega)
                              rw [← Ny451.out] at hr35
                              rw [← hy35] at hcut35
                              have HR454 := Aside0.mk hr35
                              have HC454 := Aside0.mk (show y451.length ≤ co25 from by omega)
                              clear hr35 hC35 hroom35 hi035 hsz35
                              have KY35 := Aside0.mk hy35
                              clear hy35
                              have KL35 := Aside0.mk (show (a5 : Int).toNat ≤ t434.length from by omega)
                              replace q35 := eq_true q35
                              go_wp2_with (first | ((with_reducible refine gate_callee (f := 35) rfl ?_); refine goesL_ (some 91) rfl rfl Try.func35 (by kernel_rfl) rfl #[.slice Ao25 y451.length co25] rfl (by (try simp only [List.map_toArray, List.map_cons, List.map_nil]); first | done | rfl | (simp only [List.length_drop, List.length_take]; rfl)) ?_; (with_reducible refine (image_Read.calls kj22 _ _ y451 t455 t456 t457 t458 t459 _ ?side1 ?side2 A33.out).mono ?_); (case side1 => repeat (first | exact (by repeat (first | (with_reducible exact HR454.out) | (with_reducible refine Kd.C_alloc ?_ _) | (with_reducible refine Kd.C_drewN ?_ _) | (with_reducible refine Kd.C_drew ?_) | exact HR454.out)) | (with_reducible refine Kd.C_alloc ?_ _) | (with_reducible refine Kd.C_drewN ?_ _) | (with_reducible refine Kd.C_drew ?_))); (case side2 => exact HC454.out); rintro e w36 ⟨v460, rfl, ho0, hb⟩; refine ⟨_, rfl, ?_⟩; have n0_ := Aside0.mk (Kd.R_below (by (with_reducible repeat (first | apply Kd.R_alloc | apply Kd.R_drewN | apply Kd.R_drew)); exact HO_16.out) hb); have n1_ := Aside0.mk (Kd.R_lower ho0 (below_size (by repeat (first | (with_reducible first | exact HB.out | apply below_alloc | apply pw_below_drewN | apply below_drew1) | exact HB.out)))); have n2_ := Aside0.mk (Kd.C_below (by repeat (first | (with_reducible exact HR454.out) | (with_reducible refine Kd.C_alloc ?_ _) | (with_reducible refine Kd.C_drewN ?_ _) | (with_reducible refine Kd.C_drew ?_) | exact HR454.out)) hb); have n3_ := Aside0.mk (below_step (by repeat (first | (with_reducible first | exact HB.out | apply below_alloc | apply pw_below_drewN | apply below_drew1) | exact HB.out)) hb); clear HO_16; clear HR454; clear HB; have HO_16 := n0_; have HO461 := n1_; have HR454 := n2_; have HB := n3_; clear n0_ n1_ n2_ n3_; (try clear hb); (try clear hb2); (try clear hk); (try clear hi); (try clear ho0)))
                              go_meet
                              case rel => exact ⟨_, H', ⟨by have := HJ8.out; have := HJ22.out; first | omega | exact Nat.le_refl _⟩, ⟨by repeat (first | (with_reducible first | exact HB.out | apply below_alloc | apply pw_below_drewN | apply below_drew1) | exact HB.out)⟩⟩
                            · rw [if_neg c34] at H
                              have c34b0 : (t459 == 2) = false := beq_eq_false_iff_ne.mpr c34
                              have c34b1 : (t459 != 2) = true := bne_iff_ne.mpr c34
                              exact absurd ((Option.some.inj H).trans hT.out) Bool.false_ne_true
                          · rw [if_neg c32] at H
                            exact absurd H (by simp)
                        · rw [if_neg c31] at H
                          exact absurd H (by simp)
                      · replace c30 := Bool.eq_false_iff.mpr c30
                        subst c30
                        have H1 : (medlarlaw17_ImageCut.j2 kj22 a0 l4 a5 l6 t433) = some r := by rw [if_neg (show ¬ (false = true) by decide)] at H; exact H
                        clear H
                        have H := H1
                        clear H1
                        have H' := Aside0.mk H
                        clear H
                        go_wp2
                        go_meet
                        case rel => exact ⟨_, H', ⟨by have := HJ8.out; have := HJ22.out; first | omega | exact Nat.le_refl _⟩, ⟨by repeat (first | (with_reducible first | exact HB.out | apply below_alloc | apply pw_below_drewN | apply below_drew1) | exact HB.out)⟩⟩
              · rw [if_neg c20] at H
                exact absurd H (by simp)
            · rw [if_neg c19] at H
              exact absurd H (by simp)
          · rw [if_neg c18] at H
            have c18b0 : (t435 == 0) = false := beq_eq_false_iff_ne.mpr c18
            have c18b1 : (t435 != 0) = true := bne_iff_ne.mpr c18
            (first | rw [c18b0] | (simp only [i64_w, i32_w]; rw [c18b0]) | skip)
            have H' := Aside0.mk H
            clear H
            go_wp2
            go_meet
            case rel => exact ⟨_, H', ⟨by have := HJ8.out; first | omega | exact Nat.le_refl _⟩, ⟨by repeat (first | (with_reducible first | exact HB.out | apply below_alloc | apply pw_below_drewN | apply below_drew1) | exact HB.out)⟩⟩
        case rest =>
          clear HC16
          try clear c1
          try clear c2
          try clear p2
          try clear c3
          try clear q3
          try clear c4
          try clear c6
          try clear c10
          try clear c11
          try clear c11b0
          try clear c11b1
          try clear c12
          try clear c12b0
          try clear c12b1
          try clear c13
          try clear c13b0
          try clear c13b1
          try clear c14
          try clear c18
          try clear c18b0
          try clear c18b1
          try clear c19
          try clear c20
          try clear c22
          try clear c22b0
          try clear c22b1
          try clear c27
          try clear c29
          try clear c29b0
          try clear c30
          try clear c31
          try clear c31b0
          try clear c31b1
          try clear c32
          try clear c32b0
          try clear c32b1
          try clear c33
          try clear c34
          try clear c34b0
          try clear c34b1
          try clear c35
          try clear q35
          try clear p2
          try clear q35
          obtain ⟨kq, HA, HJ15, HB⟩ := hcut
          cases kq with
          | zero => exact absurd HA.out (by simp [medlarlaw17_ImageCut.j2])
          | succ kj15 =>
            have H := HA.out
            clear HA
            simp only [medlarlaw17_ImageCut.j2] at H
            replace H := Option.bind_eq_some_iff.mp H
            obtain ⟨⟨t462, t463⟩, A370, H⟩ := H
            replace H : (if t463 = 0 then (if ([] : List Int).length + t462.length < 140737488355328 then ((some (([] : List Int) ++ t462 : List Int)).bind fun y466 => (if y466.length + l6.length < 140737488355328 then ((image_Leaves.f kj15 (y466 ++ l6)).bind fun bt472 => (if bt472.2.2 = 0 then (some false) else (if a5 ≥ 0 then (medlarlaw17_ImageCut.j3 kj15 a5 t433 t462 (decide (a5 < (t462.length : Int)))) else (medlarlaw17_ImageCut.j3 kj15 a5 t433 t462 false)))) else (none))) else (none)) else (some t433)) = some r := H
            have A37 := Aside0.mk A370
            clear A370
            by_cases c38 : t463 = 0
            · rw [if_pos c38] at H
              have c38b0 : (t463 == 0) = true := beq_iff_eq.mpr c38
              have c38b1 : (t463 != 0) = false := bne_eq_false_iff_eq.mpr c38
              clear c38
              by_cases c39 : ([] : List Int).length + t462.length < 140737488355328
              · rw [if_pos c39] at H
                have LMc39 := Aside0.mk c39
                clear c39
                obtain ⟨y466, hy466⟩ : ∃ y_ : List Int, y_ = (([] : List Int) ++ t462) := ⟨_, rfl⟩
                replace H : (if y466.length + l6.length < 140737488355328 then ((image_Leaves.f kj15 (y466 ++ l6)).bind fun bt472 => (if bt472.2.2 = 0 then (some false) else (if a5 ≥ 0 then (medlarlaw17_ImageCut.j3 kj15 a5 t433 t462 (decide (a5 < (t462.length : Int)))) else (medlarlaw17_ImageCut.j3 kj15 a5 t433 t462 false)))) else (none)) = some r := by first | (rw [hy466]; with_reducible exact H) | (have H2_ := (Option.bind_some _ _).symm.trans H; rw [hy466]; with_reducible exact H2_) | (have H2_ := (Option.bind_some _ _).symm.trans H; with_reducible exact H2_) | with_reducible exact H | (rw [hy466]; exact H) | exact H
                have Ny466 := Aside0.mk hy466
                clear hy466
                by_cases c40 : y466.length + l6.length < 140737488355328
                · rw [if_pos c40] at H
                  have LMc40 := Aside0.mk c40
                  clear c40
                  obtain ⟨y469, hy469⟩ : ∃ y_ : List Int, y_ = (y466 ++ l6) := ⟨_, rfl⟩
                  replace H : ((image_Leaves.f kj15 y469).bind fun bt472 => (if bt472.2.2 = 0 then (some false) else (if a5 ≥ 0 then (medlarlaw17_ImageCut.j3 kj15 a5 t433 t462 (decide (a5 < (t462.length : Int)))) else (medlarlaw17_ImageCut.j3 kj15 a5 t433 t462 false)))) = some r := by first | (rw [hy469]; with_reducible exact H) | (have H2_ := (Option.bind_some _ _).symm.trans H; rw [hy469]; with_reducible exact H2_) | (have H2_ := (Option.bind_some _ _).symm.trans H; with_reducible exact H2_) | with_reducible exact H | (rw [hy469]; exact H) | exact H
                  have Ny469 := Aside0.mk hy469
                  clear hy469
                  replace H := Option.bind_eq_some_iff.mp H
                  obtain ⟨⟨t472, t473, t474⟩, A410, H⟩ := H
                  replace H : (if t474 = 0 then (some false) else (if a5 ≥ 0 then (medlarlaw17_ImageCut.j3 kj15 a5 t433 t462 (decide (a5 < (t462.length : Int)))) else (medlarlaw17_ImageCut.j3 kj15 a5 t433 t462 false))) = some r := H
                  have A41 := Aside0.mk A410
                  clear A410
                  by_cases c42 : t474 = 0
                  · rw [if_pos c42] at H
                    have c42b0 : (t474 == 0) = true := beq_iff_eq.mpr c42
                    have c42b1 : (t474 != 0) = false := bne_eq_false_iff_eq.mpr c42
                    clear c42
                    exact absurd ((Option.some.inj H).trans hT.out) Bool.false_ne_true
                  · rw [if_neg c42] at H
                    have c42b0 : (t474 == 0) = false := beq_eq_false_iff_ne.mpr c42
                    have c42b1 : (t474 != 0) = true := bne_iff_ne.mpr c42
                    have HC43 := Aside0.mk H
                    clear H
                    go_upto_region 18 with (first | ((with_reducible refine gate_callee (f := 28) rfl ?_); refine goesL_ (some 102) rfl rfl Try.func28 (by kernel_rfl) rfl #[.int .i64 a0, .slice A4 l4.length c4] rfl (by (try simp only [List.map_toArray, List.map_cons, List.map_nil]); first | done | rfl | (simp only [List.length_drop, List.length_take]; rfl)) ?_; (with_reducible refine (image_Set.calls kj15 a0 _ _ l4 t462 t463 _ ?side1 ?side2 A37.out).mono ?_); (case side1 => repeat (first | exact (Kd.C_below HR4.out HB.out) | (with_reducible refine Kd.C_alloc ?_ _) | (with_reducible refine Kd.C_drewN ?_ _) | (with_reducible refine Kd.C_drew ?_))); (case side2 => exact HC4.out); rintro e w44 ⟨v464, rfl, ho0, hb⟩; refine ⟨_, rfl, ?_⟩; have n0_ := Aside0.mk (Kd.R_lower ho0 (below_size (by repeat (first | (with_reducible first | exact HB.out | apply below_alloc | apply pw_below_drewN | apply below_drew1) | exact HB.out)))); have n1_ := Aside0.mk (below_step (by repeat (first | (with_reducible first | exact HB.out | apply below_alloc | apply pw_below_drewN | apply below_drew1) | exact HB.out)) hb); clear HB; have HO465 := n0_; have HB := n1_; clear n0_ n1_; (try clear hb); (try clear hb2); (try clear hk); (try clear hi); (try clear ho0); obtain ⟨Ao46, co46, eo46⟩ := Kd.R_slice HO465.out; subst eo46) | ((with_reducible refine gate_builtin (b := .append) (xs := #[.const (.slice none 0 0), .tmp 108]) rfl ?_); (try (refine gate_guard (by rfl) ?_; dsimp only)); at_builtin; refine Kd.R_append_rows (Kd.int .u8) (w0 := w) w.heap.size rfl (.const (.slice none 0 0)) (.tmp 108) 35 5 (.int .u8 0) 1 rfl Try.underlying35 info5 rfl (by decide) (by omega) (.slice none 0 0) ([] : List Int) t462 _ _ _ (fun k_ => some k_ ≠ (.slice Ao46 t462.length co46 : Value).ownBlock) (fun _ => False) rfl rfl ?aO ?aR (fun _ _ h => h) (fun _ h => h.elim) ?aF ?aB ?aS ?aL ?_; (case aR => repeat (first | exact (Kd.R_reads' HO465.out).2.2 | (with_reducible refine Kd.C_alloc ?_ _) | (with_reducible refine Kd.C_drewN ?_ _) | (with_reducible refine Kd.C_drew ?_))); (case aB => exact (by repeat (first | (with_reducible first | exact HB.out | apply below_alloc | apply pw_below_drewN | apply below_drew1) | exact HB.out))); (case aF => exact (fun k_ hk => Kd.fresh' (Kd.R_lt (by (with_reducible repeat (first | apply Kd.R_alloc | apply Kd.R_drewN | apply Kd.R_drew)); exact HO465.out)) k_ hk)); (case aO => exact ((Kd.R_nil _ _ _ _ (fun k_ => some k_ ≠ (.slice Ao46 t462.length co46 : Value).ownBlock)))); (case aS => exact (below_size (by repeat (first | (with_reducible first | exact HB.out | apply below_alloc | apply pw_below_drewN | apply below_drew1) | exact HB.out)))); (case aL => have := LMc39.out; omega); intro v467 w45 ho hb hg hat; rw [← Ny466.out] at ho; have n0_ := Aside0.mk (Kd.R_after (Kd.R_apart_nil (by (with_reducible repeat (first | apply Kd.R_alloc | apply Kd.R_drewN | apply Kd.R_drew)); exact HO465.out)) hg hat); have n1_ := Aside0.mk (hb); have n2_ := Aside0.mk (ho); clear HO465; clear HB; have HO465 := n0_; have HB := n1_; have HO468 := n2_; clear n0_ n1_ n2_; clear ho hb hg hat) | ((with_reducible refine gate_builtin (b := .append) (xs := #[.tmp 109, .tmp 110]) rfl ?_); (try (refine gate_guard (by rfl) ?_; dsimp only)); at_builtin; refine Kd.R_append_rows (Kd.int .u8) (w0 := w) w.heap.size rfl (.tmp 109) (.tmp 110) 35 5 (.int .u8 0) 1 rfl Try.underlying35 info5 rfl (by decide) (by omega) v467 y466 l6 _ _ _ (fun k_ => some k_ ≠ (.slice Ao46 t462.length co46 : Value).ownBlock) (fun _ => False) rfl rfl ?aO ?aR (fun _ _ h => h) (fun _ h => h.elim) ?aF ?aB ?aS ?aL ?_; (case aR => repeat (first | exact (Kd.C_below HR6.out HB.out) | (with_reducible refine Kd.C_alloc ?_ _) | (with_reducible refine Kd.C_drewN ?_ _) | (with_reducible refine Kd.C_drew ?_))); (case aB => exact (by repeat (first | (with_reducible first | exact HB.out | apply below_alloc | apply pw_below_drewN | apply below_drew1) | exact HB.out))); (case aF => exact (fun k_ hk => Kd.fresh' (Kd.R_lt (by (with_reducible repeat (first | apply Kd.R_alloc | apply Kd.R_drewN | apply Kd.R_drew)); exact HO465.out)) k_ hk)); (case aO => exact (by (with_reducible repeat (first | apply Kd.R_alloc | apply Kd.R_drewN | apply Kd.R_drew)); exact HO468.out)); (case aS => exact (below_size (by repeat (first | (with_reducible first | exact HB.out | apply below_alloc | apply pw_below_drewN | apply below_drew1) | exact HB.out)))); (case aL => have := LMc40.out; omega); intro v470 w47 ho hb hg hat; rw [← Ny469.out] at ho; have n0_ := Aside0.mk (Kd.R_after (ok := (fun _ => True)) (by (with_reducible repeat (first | apply Kd.R_alloc | apply Kd.R_drewN | apply Kd.R_drew)); exact HO465.out) hg hat); have n1_ := Aside0.mk (hb); have n2_ := Aside0.mk (ho); clear HO465; clear HB; clear HO468; have HO465 := n0_; have HB := n1_; have HO471 := n2_; clear n0_ n1_ n2_; clear ho hb hg hat; obtain ⟨Ao48, co48, eo48⟩ := Kd.R_slice HO471.out; subst eo48) | ((with_reducible refine gate_callee (f := 30) rfl ?_); refine goesL_ (some 112) rfl rfl Try.func30 (by kernel_rfl) rfl #[.slice Ao48 y469.length co48] rfl (by (try simp only [List.map_toArray, List.map_cons, List.map_nil]); first | done | rfl | (simp only [List.length_drop, List.length_take]; rfl)) ?_; (with_reducible refine (image_Leaves.calls kj15 _ _ y469 t472 t473 t474 _ ?side1 ?side2 A41.out).mono ?_); (case side1 => repeat (first | exact (Kd.R_reads' HO471.out).2.2 | (with_reducible refine Kd.C_alloc ?_ _) | (with_reducible refine Kd.C_drewN ?_ _) | (with_reducible refine Kd.C_drew ?_))); (case side2 => exact (Kd.R_reads' HO471.out).2.1); rintro e w49 ⟨v475, rfl, ho0, hb⟩; refine ⟨_, rfl, ?_⟩; have n0_ := Aside0.mk (Kd.R_below (by (with_reducible repeat (first | apply Kd.R_alloc | apply Kd.R_drewN | apply Kd.R_drew)); exact HO465.out) hb); have n1_ := Aside0.mk (Kd.R_below (by (with_reducible repeat (first | apply Kd.R_alloc | apply Kd.R_drewN | apply Kd.R_drew)); exact HO471.out) hb); have n2_ := Aside0.mk (Kd.R_lower ho0 (below_size (by repeat (first | (with_reducible first | exact HB.out | apply below_alloc | apply pw_below_drewN | apply below_drew1) | exact HB.out)))); have n3_ := Aside0.mk (below_step (by repeat (first | (with_reducible first | exact HB.out | apply below_alloc | apply pw_below_drewN | apply below_drew1) | exact HB.out)) hb); clear HO465; clear HO471; clear HB; have HO465 := n0_; have HO471 := n1_; have HO476 := n2_; have HB := n3_; clear n0_ n1_ n2_ n3_; (try clear hb); (try clear hb2); (try clear hk); (try clear hi); (try clear ho0)))
                    (try simp only [Act.put, List.setIfInBounds_toArray, List.set_cons_zero, List.set_cons_succ])
                    go_cut [125] (fun v125 wc => ∃ (kq : Nat) (x125_42 : Bool), v125 = .bool x125_42 ∧ Aside0 (medlarlaw17_ImageCut.j3 kq a5 t433 t462 x125_42 = some r) ∧ Aside0 (kq ≤ kj15) ∧ Aside0 (Kd.R (Kd.int .u8) 5 wc w.heap.size (fun _ => True) (.slice Ao46 t462.length co46) t462) ∧ Aside0 (Below w.heap.size w wc))
                    case first =>
                      have H := HC43.out
                      clear HC43
                      by_cases c50 : a5 ≥ 0
                      · rw [if_pos c50] at H
                        have c50b0 : decide (0 ≤ a5) = true := decide_eq_true c50
                        clear c50
                        (first | rw [c50b0] | (simp only [i64_w, i32_w]; rw [c50b0]) | skip)
                        have H' := Aside0.mk H
                        clear H
                        go_wp2
                        go_meet
                        case rel => exact ⟨_, (decide (a5 < (t462.length : Int))), (by first | rfl | (simp; done) | (simp [*]; done)), H', ⟨by have := HJ8.out; have := HJ15.out; first | omega | exact Nat.le_refl _⟩, ⟨by (with_reducible repeat (first | apply Kd.R_alloc | apply Kd.R_drewN | apply Kd.R_drew)); exact Kd.R_mono HO465.out (fun _ hk => trivial)⟩, ⟨by repeat (first | (with_reducible first | exact HB.out | apply below_alloc | apply pw_below_drewN | apply below_drew1) | exact HB.out)⟩⟩
                      · rw [if_neg c50] at H
                        have c50b0 : decide (0 ≤ a5) = false := decide_eq_false c50
                        clear c50
                        (first | rw [c50b0] | (simp only [i64_w, i32_w]; rw [c50b0]) | skip)
                        have H' := Aside0.mk H
                        clear H
                        go_wp2
                        go_meet
                        case rel => exact ⟨_, (false), (by first | rfl | (simp; done) | (simp [*]; done)), H', ⟨by have := HJ8.out; have := HJ15.out; first | omega | exact Nat.le_refl _⟩, ⟨by (with_reducible repeat (first | apply Kd.R_alloc | apply Kd.R_drewN | apply Kd.R_drew)); exact Kd.R_mono HO465.out (fun _ hk => trivial)⟩, ⟨by repeat (first | (with_reducible first | exact HB.out | apply below_alloc | apply pw_below_drewN | apply below_drew1) | exact HB.out)⟩⟩
                    case rest =>
                      clear HC43
                      try clear c1
                      try clear c2
                      try clear p2
                      try clear c3
                      try clear q3
                      try clear c4
                      try clear c5
                      try clear c6
                      try clear c10
                      try clear c11
                      try clear c11b0
                      try clear c11b1
                      try clear c12
                      try clear c12b0
                      try clear c12b1
                      try clear c13
                      try clear c13b0
                      try clear c13b1
                      try clear c14
                      try clear c18
                      try clear c18b0
                      try clear c18b1
                      try clear c19
                      try clear c20
                      try clear c22
                      try clear c22b0
                      try clear c22b1
                      try clear c27
                      try clear c28
                      try clear c29
                      try clear c29b0
                      try clear c30
                      try clear c31
                      try clear c31b0
                      try clear c31b1
                      try clear c32
                      try clear c32b0
                      try clear c32b1
                      try clear c33
                      try clear c34
                      try clear c34b0
                      try clear c34b1
                      try clear c35
                      try clear q35
                      try clear c38
                      try clear c38b0
                      try clear c38b1
                      try clear c39
                      try clear c40
                      try clear c42
                      try clear c42b0
                      try clear c42b1
                      try clear c50
                      try clear c50b0
                      try clear p2
                      try clear q3
                      try clear q35
                      obtain ⟨kq, x125_42, rfl, HA, HJ42, HO_28, HB⟩ := hcut
                      cases kq with
                      | zero => exact absurd HA.out (by simp [medlarlaw17_ImageCut.j3])
                      | succ kj42 =>
                        have H := HA.out
                        clear HA
                        simp only [medlarlaw17_ImageCut.j3] at H
                        by_cases c51 : x125_42 = true
                        · subst c51
                          have H1 : (if 0 ≤ a5 then (if a5 ≤ (t462.length : Int) then ((image_Leaves.f kj42 (t462.take (a5 : Int).toNat)).bind fun bt481 => (if bt481.2.2 = 2 then (some t433) else (some false))) else (none)) else (none)) = some r := by rw [if_pos rfl] at H; exact H
                          clear H
                          have H := H1
                          clear H1
                          by_cases c52 : 0 ≤ a5
                          · rw [if_pos c52] at H
                            have c52b0 := eq_true c52
                            have c52b1 : decide (0 ≤ a5) = true := decide_eq_true c52
                            clear c52
                            by_cases c53 : a5 ≤ (t462.length : Int)
                            · rw [if_pos c53] at H
                              have c53b0 := eq_true c53
                              have c53b1 : decide (a5 ≤ (t462.length : Int)) = true := decide_eq_true c53
                              clear c53
                              obtain ⟨y477, hy477⟩ : ∃ y_ : List Int, y_ = (t462.take (a5 : Int).toNat) := ⟨_, rfl⟩
                              replace H : ((image_Leaves.f kj42 y477).bind fun bt481 => (if bt481.2.2 = 2 then (some t433) else (some false))) = some r := by first | (rw [hy477]; with_reducible exact H) | (have H2_ := (Option.bind_some _ _).symm.trans H; rw [hy477]; with_reducible exact H2_) | (have H2_ := (Option.bind_some _ _).symm.trans H; with_reducible exact H2_) | with_reducible exact H | (rw [hy477]; exact H) | exact H
                              have Ny477 := Aside0.mk hy477
                              clear hy477
                              replace H := Option.bind_eq_some_iff.mp H
                              obtain ⟨⟨t481, t482, t483⟩, A540, H⟩ := H
                              replace H : (if t483 = 2 then (some t433) else (some false)) = some r := H
                              have A54 := Aside0.mk A540
                              clear A540
                              by_cases c55 : t483 = 2
                              · rw [if_pos c55] at H
                                have c55b0 : (t483 == 2) = true := beq_iff_eq.mpr c55
                                have c55b1 : (t483 != 2) = false := bne_eq_false_iff_eq.mpr c55
                                clear c55
                                obtain rfl := Option.some.inj H
                                have q56 : (a5 : Int) ≤ ((t462.length : Int) : Int) := of_decide_eq_true (by first | (with_reducible assumption) | assumption)
                                obtain ⟨i056, hi056, _, hsz56, _⟩ := info_parts info5
                                have hroom56 : t462.length ≤ co46 := (Kd.R_reads' HO_28.out).2.1
                                have hC56 : Kd.C (Kd.int .u8) _ Ao46 t462.length t462 := (Kd.R_reads' HO_28.out).2.2
                                have hcut56 := cut_to (P := Try.prog) 35 5 .i64 Try.underlying35 hi056 Ao46 t462.length co46 a5 (of_decide_eq_true (by first | (with_reducible assumption) | assumption)) q56 hroom56
                                have hr56 := Kd.C_take (m := (a5 : Int).toNat) hC56 (by omega)
                                have hy56 : y477.length = (a5 : Int).toNat := (by rw [Ny477.out, List.length_take]; omega)
                                rw [← Ny477.out] at hr56
                                rw [← hy56] at hcut56
                                have HR480 := Aside0.mk hr56
                                have HC480 := Aside0.mk (show y477.length ≤ co46 from by omega)
                                clear hr56 hC56 hroom56 hi056 hsz56
                                have KY56 := Aside0.mk hy56
                                clear hy56
                                have KL56 := Aside0.mk (show (a5 : Int).toNat ≤ t462.length from by omega)
                                replace q56 := eq_true q56
                                go_wp2_with (first | ((with_reducible refine gate_callee (f := 30) rfl ?_); refine goesL_ (some 130) rfl rfl Try.func30 (by kernel_rfl) rfl #[.slice Ao46 y477.length co46] rfl (by (try simp only [List.map_toArray, List.map_cons, List.map_nil]); first | done | rfl | (simp only [List.length_drop, List.length_take]; rfl)) ?_; (with_reducible refine (image_Leaves.calls kj42 _ _ y477 t481 t482 t483 _ ?side1 ?side2 A54.out).mono ?_); (case side1 => repeat (first | exact (by repeat (first | (with_reducible exact HR480.out) | (with_reducible refine Kd.C_alloc ?_ _) | (with_reducible refine Kd.C_drewN ?_ _) | (with_reducible refine Kd.C_drew ?_) | exact HR480.out)) | (with_reducible refine Kd.C_alloc ?_ _) | (with_reducible refine Kd.C_drewN ?_ _) | (with_reducible refine Kd.C_drew ?_))); (case side2 => exact HC480.out); rintro e w57 ⟨v484, rfl, ho0, hb⟩; refine ⟨_, rfl, ?_⟩; have n0_ := Aside0.mk (Kd.R_below (by (with_reducible repeat (first | apply Kd.R_alloc | apply Kd.R_drewN | apply Kd.R_drew)); exact HO_28.out) hb); have n1_ := Aside0.mk (Kd.R_lower ho0 (below_size (by repeat (first | (with_reducible first | exact HB.out | apply below_alloc | apply pw_below_drewN | apply below_drew1) | exact HB.out)))); have n2_ := Aside0.mk (Kd.C_below (by repeat (first | (with_reducible exact HR480.out) | (with_reducible refine Kd.C_alloc ?_ _) | (with_reducible refine Kd.C_drewN ?_ _) | (with_reducible refine Kd.C_drew ?_) | exact HR480.out)) hb); have n3_ := Aside0.mk (below_step (by repeat (first | (with_reducible first | exact HB.out | apply below_alloc | apply pw_below_drewN | apply below_drew1) | exact HB.out)) hb); clear HO_28; clear HR480; clear HB; have HO_28 := n0_; have HO485 := n1_; have HR480 := n2_; have HB := n3_; clear n0_ n1_ n2_ n3_; (try clear hb); (try clear hb2); (try clear hk); (try clear hi); (try clear ho0)))
                                go_ret
                                exact ⟨by first | rfl | (simp [errW_none, errW_some] <;> rfl) | (simp [*, errW_none, errW_some] <;> rfl), by repeat (first | (with_reducible first | exact HB.out | apply below_alloc | apply pw_below_drewN | apply below_drew1) | exact HB.out)⟩
                              · rw [if_neg c55] at H
                                have c55b0 : (t483 == 2) = false := beq_eq_false_iff_ne.mpr c55
                                have c55b1 : (t483 != 2) = true := bne_iff_ne.mpr c55
                                exact absurd ((Option.some.inj H).trans hT.out) Bool.false_ne_true
                            · rw [if_neg c53] at H
                              exact absurd H (by simp)
                          · rw [if_neg c52] at H
                            exact absurd H (by simp)
                        · replace c51 := Bool.eq_false_iff.mpr c51
                          subst c51
                          have H1 : (some t433) = some r := by rw [if_neg (show ¬ (false = true) by decide)] at H; exact H
                          clear H
                          have H := H1
                          clear H1
                          obtain rfl := Option.some.inj H
                          go_wp2
                          go_ret
                          exact ⟨by first | rfl | (simp [errW_none, errW_some] <;> rfl) | (simp [*, errW_none, errW_some] <;> rfl), by repeat (first | (with_reducible first | exact HB.out | apply below_alloc | apply pw_below_drewN | apply below_drew1) | exact HB.out)⟩
                · rw [if_neg c40] at H
                  exact absurd H (by simp)
              · rw [if_neg c39] at H
                exact absurd H (by simp)
            · rw [if_neg c38] at H
              have c38b0 : (t463 == 0) = false := beq_eq_false_iff_ne.mpr c38
              have c38b1 : (t463 != 0) = true := bne_iff_ne.mpr c38
              obtain rfl := Option.some.inj H
              go_wp2_with (first | ((with_reducible refine gate_callee (f := 28) rfl ?_); refine goesL_ (some 102) rfl rfl Try.func28 (by kernel_rfl) rfl #[.int .i64 a0, .slice A4 l4.length c4] rfl (by (try simp only [List.map_toArray, List.map_cons, List.map_nil]); first | done | rfl | (simp only [List.length_drop, List.length_take]; rfl)) ?_; (with_reducible refine (image_Set.calls kj15 a0 _ _ l4 t462 t463 _ ?side1 ?side2 A37.out).mono ?_); (case side1 => repeat (first | exact (Kd.C_below HR4.out HB.out) | (with_reducible refine Kd.C_alloc ?_ _) | (with_reducible refine Kd.C_drewN ?_ _) | (with_reducible refine Kd.C_drew ?_))); (case side2 => exact HC4.out); rintro e w58 ⟨v464, rfl, ho0, hb⟩; refine ⟨_, rfl, ?_⟩; have n0_ := Aside0.mk (Kd.R_lower ho0 (below_size (by repeat (first | (with_reducible first | exact HB.out | apply below_alloc | apply pw_below_drewN | apply below_drew1) | exact HB.out)))); have n1_ := Aside0.mk (below_step (by repeat (first | (with_reducible first | exact HB.out | apply below_alloc | apply pw_below_drewN | apply below_drew1) | exact HB.out)) hb); clear HB; have HO465 := n0_; have HB := n1_; clear n0_ n1_; (try clear hb); (try clear hb2); (try clear hk); (try clear hi); (try clear ho0)))
              go_ret
              exact ⟨by first | rfl | (simp [errW_none, errW_some] <;> rfl) | (simp [*, errW_none, errW_some] <;> rfl), by repeat (first | (with_reducible first | exact HB.out | apply below_alloc | apply pw_below_drewN | apply below_drew1) | exact HB.out)⟩

end Go.Proofs.Ytoljdfgkkkpnbaa.MP
