-- written by a program of this session (wip/tools/mprint.sh) for this seat
import Derived.Test.YtoljdfgkkkpnbaaMPx0
import Derived.Test.YtoljdfgkkkpnbaaMPx4
import Derived.Test.YtoljdfgkkkpnbaaMPx6
namespace Go.Proofs.Ytoljdfgkkkpnbaa.MP
open Go.RowKit Go.Proofs.YtoljdfgkkkpnbaaW.PrintWords Go.Proofs.YtoljdfgkkkpnbaaW.PrintLast Go.Proofs.YtoljdfgkkkpnbaaW.PrintMore
open List (setIfInBounds_toArray set_cons_zero set_cons_succ map_toArray map_cons map_nil length_drop length_take)
attribute [local go_sem] max2_int min2_int max_two min_two max_three min_three max_four min_four   -- for this text's walks alone
set_option linter.unusedVariables false
set_option linter.unusedSimpArgs false

/-! ### medlarlaw16_HeadLong: function 4 -/
mutual
def medlarlaw16_HeadLong.j0 : Nat → List Int → Int → Bool → Bool → Option (Bool)
  | 0, _, _, _, _ => none
  | k + 1, x0, x1, x5, x21 => if x21 = true then (some x5) else ((head_Length.f x1).bind fun bt276 => ((head_Length.f (wrap64 (x1 + 1))).bind fun bt278 => (if bt276.2 = 0 then (if bt278.2 = 0 then (medlarlaw16_HeadLong.j1 k x0 x5 (bt278.1 != (wrap64 (bt276.1 + 48)))) else (medlarlaw16_HeadLong.j1 k x0 x5 false)) else (medlarlaw16_HeadLong.j1 k x0 x5 false))))
def medlarlaw16_HeadLong.j1 : Nat → List Int → Bool → Bool → Option (Bool)
  | 0, _, _, _ => none
  | k + 1, x0, x5, x45 => if x45 = true then (some false) else ((head_From.f k x0).bind fun bt280 => (if bt280.2.2.2.2.2.2.2.2.2.2.2.2.2 = 0 then ((head_Length.f (bt280.2.2.2.1.length : Int)).bind fun bt297 => (if x5 = true then (if bt297.2 = 0 then (if bt297.1 = (x0.length : Int) then (some (((x0.length : Int) % 48) == 47)) else (some false)) else (some false)) else (some false))) else (if x5 = true then (some ((bt280.2.2.2.1.length : Int) == 0)) else (some false))))
end
def medlarlaw16_HeadLong.f (k : Nat) (l0 : List Int) (a1 : Int) : Option (Bool) := (medlarlaw16_live.f k).bind fun t275 => (if (l0.length : Int) > 9000 then (medlarlaw16_HeadLong.j0 k l0 a1 t275 true) else (medlarlaw16_HeadLong.j0 k l0 a1 t275 (decide (a1 > 1048576))))
theorem medlarlaw16_HeadLong.mono_l : ∀ k, (∀ y0 y1 y2 y3, LeO (medlarlaw16_HeadLong.j0 k y0 y1 y2 y3) (medlarlaw16_HeadLong.j0 (k + 1) y0 y1 y2 y3)) ∧ (∀ y0 y1 y2, LeO (medlarlaw16_HeadLong.j1 k y0 y1 y2) (medlarlaw16_HeadLong.j1 (k + 1) y0 y1 y2))
  | 0 => ⟨fun _ _ _ _ r h => by simp [medlarlaw16_HeadLong.j0] at h, fun _ _ _ r h => by simp [medlarlaw16_HeadLong.j1] at h⟩
  | k + 1 => by
   obtain ⟨ih0, ih1⟩ := medlarlaw16_HeadLong.mono_l k
   refine ⟨?_, ?_⟩
   ·intro y0 y1 y2 y3
    unfold medlarlaw16_HeadLong.j0
    repeat' first
    | (with_reducible exact ih0 _ _ _ _)
    | (with_reducible exact ih1 _ _ _)
    | (with_reducible exact head_From.mono _ _)
    | (with_reducible exact medlarlaw16_live.mono _)
    | (with_reducible exact LeO.refl _)
    | (with_reducible exact LeO.none _)
    | (with_reducible refine LeO.ite ?_ ?_)
    | (with_reducible refine LeO.bind ?_ (fun _ => ?_))
    | exact ih0 _ _ _ _
    | exact ih1 _ _ _
    | exact head_From.mono _ _
    | exact medlarlaw16_live.mono _
    | exact LeO.none _
    | refine LeO.ite ?_ ?_
    | refine LeO.bind ?_ (fun _ => ?_)
   ·intro y0 y1 y2
    unfold medlarlaw16_HeadLong.j1
    repeat' first
    | (with_reducible exact ih0 _ _ _ _)
    | (with_reducible exact ih1 _ _ _)
    | (with_reducible exact head_From.mono _ _)
    | (with_reducible exact medlarlaw16_live.mono _)
    | (with_reducible exact LeO.refl _)
    | (with_reducible exact LeO.none _)
    | (with_reducible refine LeO.ite ?_ ?_)
    | (with_reducible refine LeO.bind ?_ (fun _ => ?_))
    | exact ih0 _ _ _ _
    | exact ih1 _ _ _
    | exact head_From.mono _ _
    | exact medlarlaw16_live.mono _
    | exact LeO.none _
    | refine LeO.ite ?_ ?_
    | refine LeO.bind ?_ (fun _ => ?_)
theorem medlarlaw16_HeadLong.mono : ∀ a0 a1 k, LeO (medlarlaw16_HeadLong.f k a0 a1) (medlarlaw16_HeadLong.f (k + 1) a0 a1) := by
  intro a0 a1 k
  obtain ⟨ih0, ih1⟩ := medlarlaw16_HeadLong.mono_l k
  unfold medlarlaw16_HeadLong.f
  repeat' first
    | (with_reducible exact ih0 _ _ _ _)
    | (with_reducible exact ih1 _ _ _)
    | (with_reducible exact head_From.mono _ _)
    | (with_reducible exact medlarlaw16_live.mono _)
    | (with_reducible exact LeO.refl _)
    | (with_reducible exact LeO.none _)
    | (with_reducible refine LeO.ite ?_ ?_)
    | (with_reducible refine LeO.bind ?_ (fun _ => ?_))
    | exact ih0 _ _ _ _
    | exact ih1 _ _ _
    | exact head_From.mono _ _
    | exact medlarlaw16_live.mono _
    | exact LeO.none _
    | refine LeO.ite ?_ ?_
    | refine LeO.bind ?_ (fun _ => ?_)
set_option maxHeartbeats 8000000 in
set_option maxRecDepth 100000 in
theorem medlarlaw16_HeadLong.calls (k : Nat) (A0 : Option Addr) (c0 : Nat) (l0 : List Int) (a1 : Int) (r : Bool) (w : World) (hr0 : Kd.C (Kd.int .u8) w A0 l0.length l0) (hc0 : l0.length ≤ c0) (h : medlarlaw16_HeadLong.f k l0 a1 = some r) (hT : Aside0 (r = true)) :
   Calls Try.prog 4 #[.slice A0 l0.length c0, .int .i64 a1] w fun e w' => e = .returned (.bool r) ∧ Below w.heap.size w w' := by
  have hu31 := Try.underlying31
  have HR0 := ak_ hr0
  have HC0 := ak_ hc0
  clear hr0 hc0
  have HB := ak_ (Below.refl w.heap.size w)
  have H : ((medlarlaw16_live.f k).bind fun t275 => (if (l0.length : Int) > 9000 then (medlarlaw16_HeadLong.j0 k l0 a1 t275 true) else (medlarlaw16_HeadLong.j0 k l0 a1 t275 (decide (a1 > 1048576))))) = some r := h
  clear h
  replace H := Option.bind_eq_some_iff.mp H
  obtain ⟨t275, A30, H⟩ := H
  replace H : (if (l0.length : Int) > 9000 then (medlarlaw16_HeadLong.j0 k l0 a1 t275 true) else (medlarlaw16_HeadLong.j0 k l0 a1 t275 (decide (a1 > 1048576)))) = some r := H
  have A3 := ak_ A30
  clear A30
  have HC4 := ak_ H
  clear H
  go_enter Try.func4, Try.ntmps4
  go_upto_region 2 with (first | ((with_reducible refine gate_callee (f := 15) rfl ?_); refine goesL_ (some 14) rfl rfl Try.func15 (by kernel_rfl) rfl #[] rfl (by (try simp only [map_toArray, map_cons, map_nil]); first | done | rfl | (simp only [length_drop, length_take]; rfl)) ?_; (with_reducible refine (medlarlaw16_live.calls k  t275 _ A3.out).mono ?_); rintro e w5 ⟨rfl, hb⟩; refine ⟨_, rfl, ?_⟩; have n0_ := ak_ (bt_ (by repeat (first | (with_reducible first | exact HB.out | apply ba_ | apply bn_ | apply bd_) | exact HB.out)) hb); clear HB; have HB := n0_; clear n0_; (try clear hb); (try clear hb2); (try clear hk); (try clear hi)))
  (try simp only [Act.put, setIfInBounds_toArray, set_cons_zero, set_cons_succ])
  go_cut [21] (fun v21 wc => ∃ (kq : Nat) (x21_3 : Bool), v21 = .bool x21_3 ∧ Aside0 (medlarlaw16_HeadLong.j0 kq l0 a1 t275 x21_3 = some r) ∧ Aside0 (kq ≤ k) ∧ Aside0 (Below w.heap.size w wc))
  case first =>
   have H := HC4.out
   clear HC4
   by_cases c6 : (l0.length : Int) > 9000
   ·rw [if_pos c6] at H
    have c6b0 : decide (9000 < (l0.length : Int)) = true := decide_eq_true c6
    have c6b1 : decide (9000 < l0.length) = true := decide_eq_true (by omega)
    clear c6
    (first | rw [c6b0] | (simp only [i64_w, i32_w]; rw [c6b0]) | skip)
    have H' := ak_ H
    clear H
    go_wp2
    go_meet
    case rel => exact ⟨_, (true), (by first | rfl | (simp; done) | (simp [*]; done)), H', ⟨by first | omega | exact Nat.le_refl _⟩, ⟨by repeat (first | (with_reducible first | exact HB.out | apply ba_ | apply bn_ | apply bd_) | exact HB.out)⟩⟩
   ·rw [if_neg c6] at H
    have c6b0 : decide (9000 < (l0.length : Int)) = false := decide_eq_false c6
    have c6b1 : decide (9000 < l0.length) = false := decide_eq_false (by omega)
    clear c6
    (first | rw [c6b0] | (simp only [i64_w, i32_w]; rw [c6b0]) | skip)
    have H' := ak_ H
    clear H
    go_wp2
    go_meet
    case rel => exact ⟨_, (decide (a1 > 1048576)), (by first | rfl | (simp; done) | (simp [*]; done)), H', ⟨by first | omega | exact Nat.le_refl _⟩, ⟨by repeat (first | (with_reducible first | exact HB.out | apply ba_ | apply bn_ | apply bd_) | exact HB.out)⟩⟩
  case rest =>
   clear HC4
   try clear c1
   try clear p2
   try clear c4
   try clear c6
   try clear c6b0
   try clear c6b1
   obtain ⟨kq, x21_3, rfl, HA, HJ3, HB⟩ := hcut
   cases kq with
   | zero => exact absurd HA.out (by simp [medlarlaw16_HeadLong.j0])
   | succ kj3 =>
    have H := HA.out
    clear HA
    simp only [medlarlaw16_HeadLong.j0] at H
    by_cases c7 : x21_3 = true
    ·subst c7
     have H1 : (some t275) = some r := by rw [if_pos rfl] at H; exact H
     clear H
     have H := H1
     clear H1
     obtain rfl := Option.some.inj H
     go_wp2
     go_ret
     exact ⟨by first | rfl | (simp <;> rfl) | (simp [*] <;> rfl), by repeat (first | (with_reducible first | exact HB.out | apply ba_ | apply bn_ | apply bd_) | exact HB.out)⟩
    ·replace c7 := Bool.eq_false_iff.mpr c7
     subst c7
     have H1 : ((head_Length.f a1).bind fun bt276 => ((head_Length.f (wrap64 (a1 + 1))).bind fun bt278 => (if bt276.2 = 0 then (if bt278.2 = 0 then (medlarlaw16_HeadLong.j1 kj3 l0 t275 (bt278.1 != (wrap64 (bt276.1 + 48)))) else (medlarlaw16_HeadLong.j1 kj3 l0 t275 false)) else (medlarlaw16_HeadLong.j1 kj3 l0 t275 false)))) = some r := by rw [if_neg (show ¬ (false = true) by decide)] at H; exact H
     clear H
     have H := H1
     clear H1
     replace H := Option.bind_eq_some_iff.mp H
     obtain ⟨⟨t276, t277⟩, A80, H⟩ := H
     replace H : ((head_Length.f (wrap64 (a1 + 1))).bind fun bt278 => (if t277 = 0 then (if bt278.2 = 0 then (medlarlaw16_HeadLong.j1 kj3 l0 t275 (bt278.1 != (wrap64 (t276 + 48)))) else (medlarlaw16_HeadLong.j1 kj3 l0 t275 false)) else (medlarlaw16_HeadLong.j1 kj3 l0 t275 false))) = some r := H
     have A8 := ak_ A80
     clear A80
     replace H := Option.bind_eq_some_iff.mp H
     obtain ⟨⟨t278, t279⟩, A90, H⟩ := H
     replace H : (if t277 = 0 then (if t279 = 0 then (medlarlaw16_HeadLong.j1 kj3 l0 t275 (t278 != (wrap64 (t276 + 48)))) else (medlarlaw16_HeadLong.j1 kj3 l0 t275 false)) else (medlarlaw16_HeadLong.j1 kj3 l0 t275 false)) = some r := H
     have A9 := ak_ A90
     clear A90
     have HC10 := ak_ H
     clear H
     go_upto_region 6 with (first | ((with_reducible refine gate_callee (f := 18) rfl ?_); refine goesL_ (some 25) rfl rfl Try.func18 (by kernel_rfl) rfl #[.int .i64 a1] rfl (by (try simp only [map_toArray, map_cons, map_nil]); first | done | rfl | (simp only [length_drop, length_take]; rfl)) ?_; (with_reducible refine (head_Length.calls a1 t276 t277 _ A8.out).mono ?_); rintro e w' ⟨rfl, ⟨nd, rfl⟩⟩; refine ⟨_, rfl, ?_⟩) | ((with_reducible refine gate_callee (f := 18) rfl ?_); refine goesL_ (some 31) rfl rfl Try.func18 (by kernel_rfl) rfl #[.int .i64 (wrap64 (a1 + 1))] rfl (by (try simp only [map_toArray, map_cons, map_nil]); first | done | rfl | (simp only [length_drop, length_take]; rfl)) ?_; (with_reducible refine (head_Length.calls (wrap64 (a1 + 1)) t278 t279 _ A9.out).mono ?_); rintro e w' ⟨rfl, ⟨nd, rfl⟩⟩; refine ⟨_, rfl, ?_⟩))
     (try simp only [Act.put, setIfInBounds_toArray, set_cons_zero, set_cons_succ])
     go_cut [45] (fun v45 wc => ∃ (kq : Nat) (x45_9 : Bool), v45 = .bool x45_9 ∧ Aside0 (medlarlaw16_HeadLong.j1 kq l0 t275 x45_9 = some r) ∧ Aside0 (kq ≤ kj3) ∧ Aside0 (Below w.heap.size w wc))
     case first =>
      have H := HC10.out
      clear HC10
      by_cases c11 : t277 = 0
      ·rw [if_pos c11] at H
       have c11b0 : (t277 == 0) = true := beq_iff_eq.mpr c11
       have c11b1 : (t277 != 0) = false := bne_eq_false_iff_eq.mpr c11
       clear c11
       (first | rw [c11b0] | (simp only [i64_w, i32_w]; rw [c11b0]) | skip)
       by_cases c12 : t279 = 0
       ·rw [if_pos c12] at H
        have c12b0 : (t279 == 0) = true := beq_iff_eq.mpr c12
        have c12b1 : (t279 != 0) = false := bne_eq_false_iff_eq.mpr c12
        clear c12
        have H' := ak_ H
        clear H
        go_wp2
        go_meet
        case rel => exact ⟨_, ((t278 != (wrap64 (t276 + 48)))), (by first | rfl | (simp; done) | (simp [*]; done)), H', ⟨by have := HJ3.out; first | omega | exact Nat.le_refl _⟩, ⟨by repeat (first | (with_reducible first | exact HB.out | apply ba_ | apply bn_ | apply bd_) | exact HB.out)⟩⟩
       ·rw [if_neg c12] at H
        have c12b0 : (t279 == 0) = false := beq_eq_false_iff_ne.mpr c12
        have c12b1 : (t279 != 0) = true := bne_iff_ne.mpr c12
        have H' := ak_ H
        clear H
        go_wp2
        go_meet
        case rel => exact ⟨_, (false), (by first | rfl | (simp; done) | (simp [*]; done)), H', ⟨by have := HJ3.out; first | omega | exact Nat.le_refl _⟩, ⟨by repeat (first | (with_reducible first | exact HB.out | apply ba_ | apply bn_ | apply bd_) | exact HB.out)⟩⟩
      ·rw [if_neg c11] at H
       have c11b0 : (t277 == 0) = false := beq_eq_false_iff_ne.mpr c11
       have c11b1 : (t277 != 0) = true := bne_iff_ne.mpr c11
       (first | rw [c11b0] | (simp only [i64_w, i32_w]; rw [c11b0]) | skip)
       have H' := ak_ H
       clear H
       go_wp2
       go_meet
       case rel => exact ⟨_, (false), (by first | rfl | (simp; done) | (simp [*]; done)), H', ⟨by have := HJ3.out; first | omega | exact Nat.le_refl _⟩, ⟨by repeat (first | (with_reducible first | exact HB.out | apply ba_ | apply bn_ | apply bd_) | exact HB.out)⟩⟩
     case rest =>
      clear HC10
      try clear c1
      try clear p2
      try clear c4
      try clear c6
      try clear c6b0
      try clear c6b1
      try clear p6
      try clear c7
      try clear c11
      try clear c11b0
      try clear c11b1
      try clear c12
      try clear c12b0
      try clear c12b1
      try clear p2
      obtain ⟨kq, x45_9, rfl, HA, HJ9, HB⟩ := hcut
      cases kq with
      | zero => exact absurd HA.out (by simp [medlarlaw16_HeadLong.j1])
      | succ kj9 =>
       have H := HA.out
       clear HA
       simp only [medlarlaw16_HeadLong.j1] at H
       by_cases c13 : x45_9 = true
       ·subst c13
        have H1 : (some false) = some r := by rw [if_pos rfl] at H; exact H
        clear H
        have H := H1
        clear H1
        exact absurd ((Option.some.inj H).trans hT.out) Bool.false_ne_true
       ·replace c13 := Bool.eq_false_iff.mpr c13
        subst c13
        have H1 : ((head_From.f kj9 l0).bind fun bt280 => (if bt280.2.2.2.2.2.2.2.2.2.2.2.2.2 = 0 then ((head_Length.f (bt280.2.2.2.1.length : Int)).bind fun bt297 => (if t275 = true then (if bt297.2 = 0 then (if bt297.1 = (l0.length : Int) then (some (((l0.length : Int) % 48) == 47)) else (some false)) else (some false)) else (some false))) else (if t275 = true then (some ((bt280.2.2.2.1.length : Int) == 0)) else (some false)))) = some r := by rw [if_neg (show ¬ (false = true) by decide)] at H; exact H
        clear H
        have H := H1
        clear H1
        replace H := Option.bind_eq_some_iff.mp H
        obtain ⟨⟨t280, t281, t282, t283, t286, t287, t288, t289, t290, t291, t292, t293, t294, t295⟩, A140, H⟩ := H
        replace H : (if t295 = 0 then ((head_Length.f (t283.length : Int)).bind fun bt297 => (if t275 = true then (if bt297.2 = 0 then (if bt297.1 = (l0.length : Int) then (some (((l0.length : Int) % 48) == 47)) else (some false)) else (some false)) else (some false))) else (if t275 = true then (some ((t283.length : Int) == 0)) else (some false))) = some r := H
        have A14 := ak_ A140
        clear A140
        by_cases c15 : t295 = 0
        ·rw [if_pos c15] at H
         have c15b0 : (t295 == 0) = true := beq_iff_eq.mpr c15
         have c15b1 : (t295 != 0) = false := bne_eq_false_iff_eq.mpr c15
         clear c15
         replace H := Option.bind_eq_some_iff.mp H
         obtain ⟨⟨t297, t298⟩, A160, H⟩ := H
         replace H : (if t275 = true then (if t298 = 0 then (if t297 = (l0.length : Int) then (some (((l0.length : Int) % 48) == 47)) else (some false)) else (some false)) else (some false)) = some r := H
         have A16 := ak_ A160
         clear A160
         by_cases c17 : t275 = true
         ·subst c17
          have H1 : (if t298 = 0 then (if t297 = (l0.length : Int) then (some (((l0.length : Int) % 48) == 47)) else (some false)) else (some false)) = some r := by rw [if_pos rfl] at H; exact H
          clear H
          have H := H1
          clear H1
          by_cases c18 : t298 = 0
          ·rw [if_pos c18] at H
           have c18b0 : (t298 == 0) = true := beq_iff_eq.mpr c18
           have c18b1 : (t298 != 0) = false := bne_eq_false_iff_eq.mpr c18
           clear c18
           by_cases c19 : t297 = (l0.length : Int)
           ·rw [if_pos c19] at H
            have c19b0 : (t297 == (l0.length : Int)) = true := beq_iff_eq.mpr c19
            have c19b1 : (t297 != (l0.length : Int)) = false := bne_eq_false_iff_eq.mpr c19
            clear c19
            obtain rfl := Option.some.inj H
            go_wp2_with (first | ((with_reducible refine gate_callee (f := 19) rfl ?_); refine goesL_ (some 48) rfl rfl Try.func19 (by kernel_rfl) rfl #[.slice A0 l0.length c0] rfl (by (try simp only [map_toArray, map_cons, map_nil]); first | done | rfl | (simp only [length_drop, length_take]; rfl)) ?_; (with_reducible refine (head_From.calls kj9 _ _ l0 t280 t281 t282 t283 t286 t287 t288 t289 t290 t291 t292 t293 t294 t295 _ ?side1 ?side2 A14.out).mono ?_); (case side1 => repeat (first | exact (Kd.C_below HR0.out HB.out) | (with_reducible refine Kd.C_alloc ?_ _) | (with_reducible refine Kd.C_drewN ?_ _) | (with_reducible refine Kd.C_drew ?_))); (case side2 => exact HC0.out); rintro e w20 ⟨v284, rfl, ho0, hb⟩; refine ⟨_, rfl, ?_⟩; have n0_ := ak_ (Kd.R_lower ho0 (bz_ (by repeat (first | (with_reducible first | exact HB.out | apply ba_ | apply bn_ | apply bd_) | exact HB.out)))); have n1_ := ak_ (bt_ (by repeat (first | (with_reducible first | exact HB.out | apply ba_ | apply bn_ | apply bd_) | exact HB.out)) hb); clear HB; have HO285 := n0_; have HB := n1_; clear n0_ n1_; (try clear hb); (try clear hb2); (try clear hk); (try clear hi); (try clear ho0)) | ((with_reducible refine gate_dst (N := 10) rfl ?_); (try (refine gate_guard (by rfl) ?_; dsimp only)); refine box_event ?hg (N := 10) ?hd (cs := #[.int .i64 0, .int .i64 0, .int .i64 0, .slice none 0 0, .bool false, .bool false, .int .u64 0, .int .u64 0, .int .u64 0, .int .u64 0, .int .u64 0, .int .u64 0, .int .i64 0]) (t := 31) ?hr ?_; (case hd => rfl); (case hg => rfl); (case hr => first | (go_simp; done) | (go_simp; rfl)); intro gb296 hg w21 hbox hb; have n0_ := ak_ (Kd.R_below (by (with_reducible repeat (first | apply Kd.R_alloc | apply Kd.R_drewN | apply Kd.R_drew)); exact HO285.out) hb); have n1_ := ak_ (bt_ (by repeat (first | (with_reducible first | exact HB.out | apply ba_ | apply bn_ | apply bd_) | exact HB.out)) hb); have n2_ := ak_ (hbox); have n3_ := ak_ ((by rw [hg]; exact (bz_ (by repeat (first | (with_reducible first | exact HB.out | apply ba_ | apply bn_ | apply bd_) | exact HB.out))) : w.heap.size ≤ gb296)); have n4_ := ak_ ((by rw [hg]; exact (bz_ (by repeat (first | (with_reducible first | exact HB.out | apply ba_ | apply bn_ | apply bd_) | exact HB.out))) : w.heap.size ≤ gb296)); clear HO285; clear HB; have HO285 := n0_; have HB := n1_; have BK296 := n2_; have GW296 := n3_; have GE296 := n4_; clear n0_ n1_ n2_ n3_ n4_; clear hb hbox hg; have hcz22_0 : w21.cell? ⟨gb296, 0, none⟩ = some (.int .i64 0) := (kc_ BK296.out 0).trans rfl; have hcz22_1 : w21.cell? ⟨gb296, 1, none⟩ = some (.int .i64 0) := (kc_ BK296.out 1).trans rfl; have hcz22_2 : w21.cell? ⟨gb296, 2, none⟩ = some (.int .i64 0) := (kc_ BK296.out 2).trans rfl; have hcz22_3 : w21.cell? ⟨gb296, 3, none⟩ = some (.slice none 0 0) := (kc_ BK296.out 3).trans rfl; have hcz22_4 : w21.cell? ⟨gb296, 4, none⟩ = some (.bool false) := (kc_ BK296.out 4).trans rfl; have hcz22_5 : w21.cell? ⟨gb296, 5, none⟩ = some (.bool false) := (kc_ BK296.out 5).trans rfl; have hcz22_6 : w21.cell? ⟨gb296, 6, none⟩ = some (.int .u64 0) := (kc_ BK296.out 6).trans rfl; have hcz22_7 : w21.cell? ⟨gb296, 7, none⟩ = some (.int .u64 0) := (kc_ BK296.out 7).trans rfl; have hcz22_8 : w21.cell? ⟨gb296, 8, none⟩ = some (.int .u64 0) := (kc_ BK296.out 8).trans rfl; have hcz22_9 : w21.cell? ⟨gb296, 9, none⟩ = some (.int .u64 0) := (kc_ BK296.out 9).trans rfl; have hcz22_10 : w21.cell? ⟨gb296, 10, none⟩ = some (.int .u64 0) := (kc_ BK296.out 10).trans rfl; have hcz22_11 : w21.cell? ⟨gb296, 11, none⟩ = some (.int .u64 0) := (kc_ BK296.out 11).trans rfl; have hcz22_12 : w21.cell? ⟨gb296, 12, none⟩ = some (.int .i64 0) := (kc_ BK296.out 12).trans rfl; have hfz22_0 := kf_ BK296.out 0; have hfz22_1 := kf_ BK296.out 1; have hfz22_2 := kf_ BK296.out 2; have hfz22_3 := kf_ BK296.out 3; have hfz22_4 := kf_ BK296.out 4; have hfz22_5 := kf_ BK296.out 5; have hfz22_6 := kf_ BK296.out 6; have hfz22_7 := kf_ BK296.out 7; have hfz22_8 := kf_ BK296.out 8; have hfz22_9 := kf_ BK296.out 9; have hfz22_10 := kf_ BK296.out 10; have hfz22_11 := kf_ BK296.out 11; have hfz22_12 := kf_ BK296.out 12; obtain ⟨Ao23, co23, eo23⟩ := Kd.R_slice HO285.out; subst eo23) | ((with_reducible refine gate_callee (f := 18) rfl ?_); refine goesL_ (some 64) rfl rfl Try.func18 (by kernel_rfl) rfl #[.int .i64 (t283.length : Int)] rfl (by (try simp only [map_toArray, map_cons, map_nil]); first | done | rfl | (simp only [length_drop, length_take]; rfl)) ?_; (with_reducible refine (head_Length.calls (t283.length : Int) t297 t298 _ A16.out).mono ?_); rintro e w' ⟨rfl, ⟨nd, rfl⟩⟩; refine ⟨_, rfl, ?_⟩))
            go_ret
            exact ⟨by first | rfl | (simp <;> rfl) | (simp [*] <;> rfl), by repeat (first | (with_reducible first | exact HB.out | apply ba_ | apply bn_ | apply bd_ | refine below_set ?_ GE296.out) | exact HB.out)⟩
           ·rw [if_neg c19] at H
            have c19b0 : (t297 == (l0.length : Int)) = false := beq_eq_false_iff_ne.mpr c19
            have c19b1 : (t297 != (l0.length : Int)) = true := bne_iff_ne.mpr c19
            exact absurd ((Option.some.inj H).trans hT.out) Bool.false_ne_true
          ·rw [if_neg c18] at H
           have c18b0 : (t298 == 0) = false := beq_eq_false_iff_ne.mpr c18
           have c18b1 : (t298 != 0) = true := bne_iff_ne.mpr c18
           exact absurd ((Option.some.inj H).trans hT.out) Bool.false_ne_true
         ·replace c17 := Bool.eq_false_iff.mpr c17
          subst c17
          have H1 : (some false) = some r := by rw [if_neg (show ¬ (false = true) by decide)] at H; exact H
          clear H
          have H := H1
          clear H1
          exact absurd ((Option.some.inj H).trans hT.out) Bool.false_ne_true
        ·rw [if_neg c15] at H
         have c15b0 : (t295 == 0) = false := beq_eq_false_iff_ne.mpr c15
         have c15b1 : (t295 != 0) = true := bne_iff_ne.mpr c15
         by_cases c24 : t275 = true
         ·subst c24
          have H1 : (some ((t283.length : Int) == 0)) = some r := by rw [if_pos rfl] at H; exact H
          clear H
          have H := H1
          clear H1
          obtain rfl := Option.some.inj H
          go_wp2_with (first | ((with_reducible refine gate_callee (f := 19) rfl ?_); refine goesL_ (some 48) rfl rfl Try.func19 (by kernel_rfl) rfl #[.slice A0 l0.length c0] rfl (by (try simp only [map_toArray, map_cons, map_nil]); first | done | rfl | (simp only [length_drop, length_take]; rfl)) ?_; (with_reducible refine (head_From.calls kj9 _ _ l0 t280 t281 t282 t283 t286 t287 t288 t289 t290 t291 t292 t293 t294 t295 _ ?side1 ?side2 A14.out).mono ?_); (case side1 => repeat (first | exact (Kd.C_below HR0.out HB.out) | (with_reducible refine Kd.C_alloc ?_ _) | (with_reducible refine Kd.C_drewN ?_ _) | (with_reducible refine Kd.C_drew ?_))); (case side2 => exact HC0.out); rintro e w25 ⟨v284, rfl, ho0, hb⟩; refine ⟨_, rfl, ?_⟩; have n0_ := ak_ (Kd.R_lower ho0 (bz_ (by repeat (first | (with_reducible first | exact HB.out | apply ba_ | apply bn_ | apply bd_) | exact HB.out)))); have n1_ := ak_ (bt_ (by repeat (first | (with_reducible first | exact HB.out | apply ba_ | apply bn_ | apply bd_) | exact HB.out)) hb); clear HB; have HO285 := n0_; have HB := n1_; clear n0_ n1_; (try clear hb); (try clear hb2); (try clear hk); (try clear hi); (try clear ho0)) | ((with_reducible refine gate_dst (N := 10) rfl ?_); (try (refine gate_guard (by rfl) ?_; dsimp only)); refine box_event ?hg (N := 10) ?hd (cs := #[.int .i64 0, .int .i64 0, .int .i64 0, .slice none 0 0, .bool false, .bool false, .int .u64 0, .int .u64 0, .int .u64 0, .int .u64 0, .int .u64 0, .int .u64 0, .int .i64 0]) (t := 31) ?hr ?_; (case hd => rfl); (case hg => rfl); (case hr => first | (go_simp; done) | (go_simp; rfl)); intro gb296 hg w26 hbox hb; have n0_ := ak_ (Kd.R_below (by (with_reducible repeat (first | apply Kd.R_alloc | apply Kd.R_drewN | apply Kd.R_drew)); exact HO285.out) hb); have n1_ := ak_ (bt_ (by repeat (first | (with_reducible first | exact HB.out | apply ba_ | apply bn_ | apply bd_) | exact HB.out)) hb); have n2_ := ak_ (hbox); have n3_ := ak_ ((by rw [hg]; exact (bz_ (by repeat (first | (with_reducible first | exact HB.out | apply ba_ | apply bn_ | apply bd_) | exact HB.out))) : w.heap.size ≤ gb296)); have n4_ := ak_ ((by rw [hg]; exact (bz_ (by repeat (first | (with_reducible first | exact HB.out | apply ba_ | apply bn_ | apply bd_) | exact HB.out))) : w.heap.size ≤ gb296)); clear HO285; clear HB; have HO285 := n0_; have HB := n1_; have BK296 := n2_; have GW296 := n3_; have GE296 := n4_; clear n0_ n1_ n2_ n3_ n4_; clear hb hbox hg; have hcz27_0 : w26.cell? ⟨gb296, 0, none⟩ = some (.int .i64 0) := (kc_ BK296.out 0).trans rfl; have hcz27_1 : w26.cell? ⟨gb296, 1, none⟩ = some (.int .i64 0) := (kc_ BK296.out 1).trans rfl; have hcz27_2 : w26.cell? ⟨gb296, 2, none⟩ = some (.int .i64 0) := (kc_ BK296.out 2).trans rfl; have hcz27_3 : w26.cell? ⟨gb296, 3, none⟩ = some (.slice none 0 0) := (kc_ BK296.out 3).trans rfl; have hcz27_4 : w26.cell? ⟨gb296, 4, none⟩ = some (.bool false) := (kc_ BK296.out 4).trans rfl; have hcz27_5 : w26.cell? ⟨gb296, 5, none⟩ = some (.bool false) := (kc_ BK296.out 5).trans rfl; have hcz27_6 : w26.cell? ⟨gb296, 6, none⟩ = some (.int .u64 0) := (kc_ BK296.out 6).trans rfl; have hcz27_7 : w26.cell? ⟨gb296, 7, none⟩ = some (.int .u64 0) := (kc_ BK296.out 7).trans rfl; have hcz27_8 : w26.cell? ⟨gb296, 8, none⟩ = some (.int .u64 0) := (kc_ BK296.out 8).trans rfl; have hcz27_9 : w26.cell? ⟨gb296, 9, none⟩ = some (.int .u64 0) := (kc_ BK296.out 9).trans rfl; have hcz27_10 : w26.cell? ⟨gb296, 10, none⟩ = some (.int .u64 0) := (kc_ BK296.out 10).trans rfl; have hcz27_11 : w26.cell? ⟨gb296, 11, none⟩ = some (.int .u64 0) := (kc_ BK296.out 11).trans rfl; have hcz27_12 : w26.cell? ⟨gb296, 12, none⟩ = some (.int .i64 0) := (kc_ BK296.out 12).trans rfl; have hfz27_0 := kf_ BK296.out 0; have hfz27_1 := kf_ BK296.out 1; have hfz27_2 := kf_ BK296.out 2; have hfz27_3 := kf_ BK296.out 3; have hfz27_4 := kf_ BK296.out 4; have hfz27_5 := kf_ BK296.out 5; have hfz27_6 := kf_ BK296.out 6; have hfz27_7 := kf_ BK296.out 7; have hfz27_8 := kf_ BK296.out 8; have hfz27_9 := kf_ BK296.out 9; have hfz27_10 := kf_ BK296.out 10; have hfz27_11 := kf_ BK296.out 11; have hfz27_12 := kf_ BK296.out 12; obtain ⟨Ao28, co28, eo28⟩ := Kd.R_slice HO285.out; subst eo28))
          go_ret
          exact ⟨by first | rfl | (simp <;> rfl) | (simp [*] <;> rfl), by repeat (first | (with_reducible first | exact HB.out | apply ba_ | apply bn_ | apply bd_ | refine below_set ?_ GE296.out) | exact HB.out)⟩
         ·replace c24 := Bool.eq_false_iff.mpr c24
          subst c24
          have H1 : (some false) = some r := by rw [if_neg (show ¬ (false = true) by decide)] at H; exact H
          clear H
          have H := H1
          clear H1
          exact absurd ((Option.some.inj H).trans hT.out) Bool.false_ne_true

/-- THE ONE PURE STATEMENT of medlarlaw16_HeadLong: yours. -/
def medlarlaw16_HeadLong.Pure : Prop := ∀ (l0 : List Int) (a1 : Int), l0.length ≤ maxLen → l0.length * 1 ≤ 140737488351232 → (∀ x ∈ l0, (Lit.int .u8 x).wf = true) → (Lit.int .i64 a1).wf = true → ∃ k, medlarlaw16_HeadLong.f k l0 a1 = some true
theorem medlarlaw16_HeadLong.walk (P : medlarlaw16_HeadLong.Pure) (a0 : Option Addr) (len0 cap0 : Nat) (z0 : List Int) (a1 : Int) (w : World) (w0 : (a0 = none ∧ len0 = 0 ∧ cap0 = 0 ∧ z0 = []) ∨ ∃ x, a0 = some x ∧ len0 ≤ cap0 ∧ cap0 ≤ maxLen ∧ z0.length = cap0 ∧ (∀ i, i < z0.length → w.cell? (x.add i) = some (.int .u8 (z0.getD i 0))) ∧ ∀ n ∈ z0, (Lit.int .u8 n).wf = true) (y0 : len0 * 1 ≤ 140737488351232) (w1 : (Lit.int .i64 a1).wf = true) :
   Calls Try.prog 4 #[.slice a0 len0 cap0, .int .i64 a1] w fun e w' => e = .returned (.bool true) ∧ Below w.heap.size w w' := by
  obtain ⟨l0, rfl, hr0, hm0, hw0, hc0⟩ := ReadsInt.ofRowC w0
  obtain ⟨k, h⟩ := P l0 a1 hm0 y0 hw0 w1
  refine (medlarlaw16_HeadLong.calls k _ _ l0 a1 true w (Kd.C_of_reads (d := (0 : Int)) (h1 := fun _ => rfl) hr0) hc0 h ⟨rfl⟩).mono ?_
  rintro e w' ⟨rfl, hd⟩
  exact ⟨rfl, hd⟩

end Go.Proofs.Ytoljdfgkkkpnbaa.MP
