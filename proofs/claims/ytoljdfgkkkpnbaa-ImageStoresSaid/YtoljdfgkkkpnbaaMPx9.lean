-- written by a program of this session (wip/tools/mprint.sh) for this seat
import Derived.Test.YtoljdfgkkkpnbaaMPx0
import Derived.Test.YtoljdfgkkkpnbaaMPx2
import Derived.Test.YtoljdfgkkkpnbaaMPx3
import Derived.Test.YtoljdfgkkkpnbaaMPx5
import Derived.Test.YtoljdfgkkkpnbaaMPx6
import Derived.Test.YtoljdfgkkkpnbaaMPx7
import Derived.Test.YtoljdfgkkkpnbaaMPx8
namespace Go.Proofs.Ytoljdfgkkkpnbaa.MP
open Go.RowKit Go.Proofs.YtoljdfgkkkpnbaaW.PrintWords Go.Proofs.YtoljdfgkkkpnbaaW.PrintLast Go.Proofs.YtoljdfgkkkpnbaaW.PrintMore
open Option (bind_eq_some_iff some.injEq)
open _root_.Go.Proofs.Try
open List (setIfInBounds_toArray set_cons_zero set_cons_succ map_toArray map_cons map_nil length_drop length_take)
attribute [local go_sem] max2_int min2_int max_two min_two max_three min_three max_four min_four
set_option linter.unusedVariables false
set_option linter.unusedSimpArgs false
mutual
def medlarlaw17_ImageStores.j0 : Nat → Int → Int → Int → List (S65) → List Int → Bool → Bool → Option (Bool)
  | 0, _, _, _, _, _, _, _ => none
  | k + 1, x0, x1, x2, x3, x4, x11, x47 => if x47 = true then (some x11) else ((image_Store.f k x0 x1 x2 x3).bind fun bt407 => ((medlarref17_Store.f k x0 x1 x2 x3).bind fun bt411 => ((image_Read.f k x4).bind fun bt415 => ((medlarref17_Read.f k x4).bind fun bt422 => ((medlarref16_SameBytes.f bt407.1 bt411.1).bind fun t429 => (if t429 = true then (if bt407.2 = bt411.2 then (if bt415.1 = bt422.1 then (if bt415.2.1 = bt422.2.1 then (if bt415.2.2.1 = bt422.2.2.1 then ((medlarref14_Same.f k bt415.2.2.2.1 bt422.2.2.2.1).bind fun t430 => (if t430 = true then (medlarlaw17_ImageStores.j1 k x4 x11 (strOfNums x4) bt415.2.2.2.1 (bt415.2.2.2.2 == bt422.2.2.2.2)) else (medlarlaw17_ImageStores.j1 k x4 x11 (strOfNums x4) bt415.2.2.2.1 false))) else (medlarlaw17_ImageStores.j1 k x4 x11 (strOfNums x4) bt415.2.2.2.1 false)) else (medlarlaw17_ImageStores.j1 k x4 x11 (strOfNums x4) bt415.2.2.2.1 false)) else (medlarlaw17_ImageStores.j1 k x4 x11 (strOfNums x4) bt415.2.2.2.1 false)) else (medlarlaw17_ImageStores.j1 k x4 x11 (strOfNums x4) bt415.2.2.2.1 false)) else (medlarlaw17_ImageStores.j1 k x4 x11 (strOfNums x4) bt415.2.2.2.1 false)))))))
def medlarlaw17_ImageStores.j1 : Nat → List Int → Bool → ByteArray → List (S65) → Bool → Option (Bool)
  | 0, _, _, _, _, _ => none
  | k + 1, x4, x11, x12, x20, x27 => medlarlaw17_ImageStores.l0 k x4 x11 x12 x20 x27 (x20.length : Int) 0
def medlarlaw17_ImageStores.l0 : Nat → List Int → Bool → ByteArray → List (S65) → Bool → Int → Int → Option (Bool)
  | 0, _, _, _, _, _, _, _ => none
  | k + 1, x4, x11, x12, x20, x27, x117, x118 => if x118 < x117 then (if 0 ≤ x118 then (if x118 < (x20.length : Int) then (medlarlaw17_ImageStores.l0 k x4 x11 x12 (x20.set (x118 : Int).toNat (⟨(⟨IntKind.u64.wrap (((rd_T65 x20 x118).f0.f0) + 1), (rd_T65 x20 x118).f0.f1⟩ : S39), (⟨(rd_T65 x20 x118).f1.f0, (rd_T65 x20 x118).f1.f1, (⟨(rd_T65 x20 x118).f1.f2.f0, (rd_T65 x20 x118).f1.f2.f1⟩ : S25), (⟨(⟨(rd_T65 x20 x118).f1.f3.f0.f0, (rd_T65 x20 x118).f1.f3.f0.f1⟩ : S25), (⟨(rd_T65 x20 x118).f1.f3.f1.f0, (rd_T65 x20 x118).f1.f3.f1.f1⟩ : S25)⟩ : S27), (rd_T65 x20 x118).f1.f4⟩ : S29)⟩ : S65)) x27 x117 (wrap64 (x118 + 1))) else (none)) else (none)) else (if x11 = true then (if x27 = true then (some ((strOfNums x4).toList == x12.toList)) else (some false)) else (some false))
end
def medlarlaw17_ImageStores.f (k : Nat) (a0 : Int) (a1 : Int) (a2 : Int) (l3 : List (S65)) (l4 : List Int) : Option (Bool) := (medlarlaw17_live.f k).bind fun t406 => (if (l3.length : Int) > 600 then (medlarlaw17_ImageStores.j0 k a0 a1 a2 l3 l4 t406 true) else (if (l4.length : Int) > 9000 then (if (l4.length : Int) ≤ 65536 then (medlarlaw17_ImageStores.j0 k a0 a1 a2 l3 l4 t406 true) else (medlarlaw17_ImageStores.j0 k a0 a1 a2 l3 l4 t406 (decide ((l4.length : Int) > 70000)))) else (medlarlaw17_ImageStores.j0 k a0 a1 a2 l3 l4 t406 (decide ((l4.length : Int) > 70000)))))
theorem medlarlaw17_ImageStores.mono_l : ∀ k, (∀ y0 y1 y2 y3 y4 y5 y6, LeO (medlarlaw17_ImageStores.j0 k y0 y1 y2 y3 y4 y5 y6) (medlarlaw17_ImageStores.j0 (k + 1) y0 y1 y2 y3 y4 y5 y6)) ∧ (∀ y0 y1 y2 y3 y4, LeO (medlarlaw17_ImageStores.j1 k y0 y1 y2 y3 y4) (medlarlaw17_ImageStores.j1 (k + 1) y0 y1 y2 y3 y4)) ∧ (∀ y0 y1 y2 y3 y4 y5 y6, LeO (medlarlaw17_ImageStores.l0 k y0 y1 y2 y3 y4 y5 y6) (medlarlaw17_ImageStores.l0 (k + 1) y0 y1 y2 y3 y4 y5 y6))
  | 0 => ⟨fun _ _ _ _ _ _ _ r h => by simp [medlarlaw17_ImageStores.j0] at h, fun _ _ _ _ _ r h => by simp [medlarlaw17_ImageStores.j1] at h, fun _ _ _ _ _ _ _ r h => by simp [medlarlaw17_ImageStores.l0] at h⟩
  | k + 1 => by
   obtain ⟨ih0, ih1, ih2⟩ := medlarlaw17_ImageStores.mono_l k
   refine ⟨?_, ?_, ?_⟩
   ·intro y0 y1 y2 y3 y4 y5 y6
    unfold medlarlaw17_ImageStores.j0
    repeat' first
    | (with_reducible exact ih0 _ _ _ _ _ _ _)
    | (with_reducible exact ih1 _ _ _ _ _)
    | (with_reducible exact ih2 _ _ _ _ _ _ _)
    | (with_reducible exact image_Read.mono _ _)
    | (with_reducible exact image_Store.mono _ _ _ _ _)
    | (with_reducible exact medlarlaw17_live.mono _)
    | (with_reducible exact medlarref14_Same.mono _ _ _)
    | (with_reducible exact medlarref17_Read.mono _ _)
    | (with_reducible exact medlarref17_Store.mono _ _ _ _ _)
    | (with_reducible exact LeO.refl _)
    | (with_reducible exact LeO.none _)
    | (with_reducible refine LeO.ite ?_ ?_)
    | (with_reducible refine LeO.bind ?_ (fun _ => ?_))
    | exact ih0 _ _ _ _ _ _ _
    | exact ih1 _ _ _ _ _
    | exact ih2 _ _ _ _ _ _ _
    | exact image_Read.mono _ _
    | exact image_Store.mono _ _ _ _ _
    | exact medlarlaw17_live.mono _
    | exact medlarref14_Same.mono _ _ _
    | exact medlarref17_Read.mono _ _
    | exact medlarref17_Store.mono _ _ _ _ _
    | exact LeO.none _
    | refine LeO.ite ?_ ?_
    | refine LeO.bind ?_ (fun _ => ?_)
   ·intro y0 y1 y2 y3 y4
    unfold medlarlaw17_ImageStores.j1
    repeat' first
    | (with_reducible exact ih0 _ _ _ _ _ _ _)
    | (with_reducible exact ih1 _ _ _ _ _)
    | (with_reducible exact ih2 _ _ _ _ _ _ _)
    | (with_reducible exact image_Read.mono _ _)
    | (with_reducible exact image_Store.mono _ _ _ _ _)
    | (with_reducible exact medlarlaw17_live.mono _)
    | (with_reducible exact medlarref14_Same.mono _ _ _)
    | (with_reducible exact medlarref17_Read.mono _ _)
    | (with_reducible exact medlarref17_Store.mono _ _ _ _ _)
    | (with_reducible exact LeO.refl _)
    | (with_reducible exact LeO.none _)
    | (with_reducible refine LeO.ite ?_ ?_)
    | (with_reducible refine LeO.bind ?_ (fun _ => ?_))
    | exact ih0 _ _ _ _ _ _ _
    | exact ih1 _ _ _ _ _
    | exact ih2 _ _ _ _ _ _ _
    | exact image_Read.mono _ _
    | exact image_Store.mono _ _ _ _ _
    | exact medlarlaw17_live.mono _
    | exact medlarref14_Same.mono _ _ _
    | exact medlarref17_Read.mono _ _
    | exact medlarref17_Store.mono _ _ _ _ _
    | exact LeO.none _
    | refine LeO.ite ?_ ?_
    | refine LeO.bind ?_ (fun _ => ?_)
   ·intro y0 y1 y2 y3 y4 y5 y6
    unfold medlarlaw17_ImageStores.l0
    repeat' first
    | (with_reducible exact ih0 _ _ _ _ _ _ _)
    | (with_reducible exact ih1 _ _ _ _ _)
    | (with_reducible exact ih2 _ _ _ _ _ _ _)
    | (with_reducible exact image_Read.mono _ _)
    | (with_reducible exact image_Store.mono _ _ _ _ _)
    | (with_reducible exact medlarlaw17_live.mono _)
    | (with_reducible exact medlarref14_Same.mono _ _ _)
    | (with_reducible exact medlarref17_Read.mono _ _)
    | (with_reducible exact medlarref17_Store.mono _ _ _ _ _)
    | (with_reducible exact LeO.refl _)
    | (with_reducible exact LeO.none _)
    | (with_reducible refine LeO.ite ?_ ?_)
    | (with_reducible refine LeO.bind ?_ (fun _ => ?_))
    | exact ih0 _ _ _ _ _ _ _
    | exact ih1 _ _ _ _ _
    | exact ih2 _ _ _ _ _ _ _
    | exact image_Read.mono _ _
    | exact image_Store.mono _ _ _ _ _
    | exact medlarlaw17_live.mono _
    | exact medlarref14_Same.mono _ _ _
    | exact medlarref17_Read.mono _ _
    | exact medlarref17_Store.mono _ _ _ _ _
    | exact LeO.none _
    | refine LeO.ite ?_ ?_
    | refine LeO.bind ?_ (fun _ => ?_)
theorem medlarlaw17_ImageStores.mono : ∀ a0 a1 a2 a3 a4 k, LeO (medlarlaw17_ImageStores.f k a0 a1 a2 a3 a4) (medlarlaw17_ImageStores.f (k + 1) a0 a1 a2 a3 a4) := by
  intro a0 a1 a2 a3 a4 k
  obtain ⟨ih0, ih1, ih2⟩ := medlarlaw17_ImageStores.mono_l k
  unfold medlarlaw17_ImageStores.f
  repeat' first
    | (with_reducible exact ih0 _ _ _ _ _ _ _)
    | (with_reducible exact ih1 _ _ _ _ _)
    | (with_reducible exact ih2 _ _ _ _ _ _ _)
    | (with_reducible exact image_Read.mono _ _)
    | (with_reducible exact image_Store.mono _ _ _ _ _)
    | (with_reducible exact medlarlaw17_live.mono _)
    | (with_reducible exact medlarref14_Same.mono _ _ _)
    | (with_reducible exact medlarref17_Read.mono _ _)
    | (with_reducible exact medlarref17_Store.mono _ _ _ _ _)
    | (with_reducible exact LeO.refl _)
    | (with_reducible exact LeO.none _)
    | (with_reducible refine LeO.ite ?_ ?_)
    | (with_reducible refine LeO.bind ?_ (fun _ => ?_))
    | exact ih0 _ _ _ _ _ _ _
    | exact ih1 _ _ _ _ _
    | exact ih2 _ _ _ _ _ _ _
    | exact image_Read.mono _ _
    | exact image_Store.mono _ _ _ _ _
    | exact medlarlaw17_live.mono _
    | exact medlarref14_Same.mono _ _ _
    | exact medlarref17_Read.mono _ _
    | exact medlarref17_Store.mono _ _ _ _ _
    | exact LeO.none _
    | refine LeO.ite ?_ ?_
    | refine LeO.bind ?_ (fun _ => ?_)
set_option maxHeartbeats 8000000 in
set_option maxRecDepth 100000 in
theorem medlarlaw17_ImageStores.calls (k : Nat) (a0 : Int) (a1 : Int) (a2 : Int) (A3 : Option Addr) (c3 : Nat) (l3 : List (S65)) (A4 : Option Addr) (c4 : Nat) (l4 : List Int) (r : Bool) (w : World) (hr3 : Kd.C k65 w A3 l3.length l3) (hc3 : l3.length ≤ c3) (hr4 : Kd.C (Kd.int .u8) w A4 l4.length l4) (hc4 : l4.length ≤ c4) (h : medlarlaw17_ImageStores.f k a0 a1 a2 l3 l4 = some r) (hT : Aside0 (r = true)) :
   Calls Try.prog 9 #[.int .i64 a0, .int .i64 a1, .int .u64 a2, .slice A3 l3.length c3, .slice A4 l4.length c4] w fun e w' => e = .returned (.bool r) ∧ Below w.heap.size w w' := by
  have HR3 := ak_ hr3
  have HC3 := ak_ hc3
  clear hr3 hc3
  have HR4 := ak_ hr4
  have HC4 := ak_ hc4
  clear hr4 hc4
  have HB := ak_ (Below.refl w.heap.size w)
  have H : ((medlarlaw17_live.f k).bind fun t406 => (if (l3.length : Int) > 600 then (medlarlaw17_ImageStores.j0 k a0 a1 a2 l3 l4 t406 true) else (if (l4.length : Int) > 9000 then (if (l4.length : Int) ≤ 65536 then (medlarlaw17_ImageStores.j0 k a0 a1 a2 l3 l4 t406 true) else (medlarlaw17_ImageStores.j0 k a0 a1 a2 l3 l4 t406 (decide ((l4.length : Int) > 70000)))) else (medlarlaw17_ImageStores.j0 k a0 a1 a2 l3 l4 t406 (decide ((l4.length : Int) > 70000)))))) = some r := h
  clear h
  replace H := bind_eq_some_iff.mp H
  obtain ⟨t406, A60, H⟩ := H
  replace H : (if (l3.length : Int) > 600 then (medlarlaw17_ImageStores.j0 k a0 a1 a2 l3 l4 t406 true) else (if (l4.length : Int) > 9000 then (if (l4.length : Int) ≤ 65536 then (medlarlaw17_ImageStores.j0 k a0 a1 a2 l3 l4 t406 true) else (medlarlaw17_ImageStores.j0 k a0 a1 a2 l3 l4 t406 (decide ((l4.length : Int) > 70000)))) else (medlarlaw17_ImageStores.j0 k a0 a1 a2 l3 l4 t406 (decide ((l4.length : Int) > 70000))))) = some r := H
  have A6 := ak_ A60
  clear A60
  have HC7 := ak_ H
  clear H
  go_enter func9, ntmps9
  go_upto_region 2 with (first | ((with_reducible refine gate_callee (f := 27) rfl ?_); refine gl_ (some 29) func27 #[] ?_; (with_reducible refine (medlarlaw17_live.calls k  t406 _ A6.out).mono ?_); rintro e w8 ⟨rfl, hb⟩; refine ⟨_, rfl, ?_⟩; replace HB := ak_ (bt_ (bl_ HB) hb); (try clear hb); (try clear hk)))
  (try simp only [Act.put, setIfInBounds_toArray, set_cons_zero, set_cons_succ])
  go_cut [47] (fun v47 wc => ∃ (kq : Nat) (x47_6 : Bool), v47 = .bool x47_6 ∧ Aside0 (medlarlaw17_ImageStores.j0 kq a0 a1 a2 l3 l4 t406 x47_6 = some r) ∧ Aside0 (kq ≤ k) ∧ Aside0 (Below w.heap.size w wc))
  case first =>
   have H := HC7.out
   clear HC7
   by_cases c9 : (l3.length : Int) > 600
   ·rw [if_pos c9] at H
    have c9b0 : decide (600 < (l3.length : Int)) = true := decide_eq_true c9
    have c9b1 : decide (600 < l3.length) = true := decide_eq_true (by omega)
    clear c9
    (first | rw [c9b0] | (simp only [i64_w, i32_w]; rw [c9b0]) | skip)
    have H' := ak_ H
    clear H
    go_wp2
    go_meet
    case rel => exact ⟨_, (true), rf_, H', ⟨by first | omega | exact Nat.le_refl _⟩, ⟨bl_ HB⟩⟩
   ·rw [if_neg c9] at H
    have c9b0 : decide (600 < (l3.length : Int)) = false := decide_eq_false c9
    have c9b1 : decide (600 < l3.length) = false := decide_eq_false (by omega)
    clear c9
    (first | rw [c9b0] | (simp only [i64_w, i32_w]; rw [c9b0]) | skip)
    by_cases c10 : (l4.length : Int) > 9000
    ·rw [if_pos c10] at H
     have c10b0 : decide (9000 < (l4.length : Int)) = true := decide_eq_true c10
     have c10b1 : decide (9000 < l4.length) = true := decide_eq_true (by omega)
     clear c10
     by_cases c11 : (l4.length : Int) ≤ 65536
     ·rw [if_pos c11] at H
      have c11b0 := decide_eq_true c11
      have c11b1 : decide (l4.length ≤ 65536) = true := decide_eq_true (by omega)
      clear c11
      have H' := ak_ H
      clear H
      go_wp2
      go_meet
      case rel => exact ⟨_, (true), rf_, H', ⟨by first | omega | exact Nat.le_refl _⟩, ⟨bl_ HB⟩⟩
     ·rw [if_neg c11] at H
      have c11b0 := decide_eq_false c11
      have c11b1 : decide (l4.length ≤ 65536) = false := decide_eq_false (by omega)
      clear c11
      have H' := ak_ H
      clear H
      go_wp2
      go_meet
      case rel => exact ⟨_, (decide ((l4.length : Int) > 70000)), rf_, H', ⟨by first | omega | exact Nat.le_refl _⟩, ⟨bl_ HB⟩⟩
    ·rw [if_neg c10] at H
     have c10b0 : decide (9000 < (l4.length : Int)) = false := decide_eq_false c10
     have c10b1 : decide (9000 < l4.length) = false := decide_eq_false (by omega)
     clear c10
     have H' := ak_ H
     clear H
     go_wp2
     go_meet
     case rel => exact ⟨_, (decide ((l4.length : Int) > 70000)), rf_, H', ⟨by first | omega | exact Nat.le_refl _⟩, ⟨bl_ HB⟩⟩
  case rest =>
   clear HC7
   try clear c1
   try clear c2
   try clear p2
   try clear c3
   try clear c4
   try clear c9
   try clear c9b0
   try clear c9b1
   try clear c10
   try clear c10b0
   try clear c10b1
   try clear c11
   try clear c11b0
   try clear c11b1
   obtain ⟨kq, x47_6, rfl, HA, HJ6, HB⟩ := hcut
   cases kq with
   | zero => exact absurd HA.out (by simp [medlarlaw17_ImageStores.j0])
   | succ kj6 =>
    have H := HA.out
    clear HA
    simp only [medlarlaw17_ImageStores.j0] at H
    by_cases c12 : x47_6 = true
    ·subst c12
     have H1 : (some t406) = some r := by rw [if_pos rfl] at H; exact H
     clear H
     have H := H1
     clear H1
     obtain rfl := Option.some.inj H
     go_wp2
     go_ret
     exact ea_ (bl_ HB)
    ·replace c12 := Bool.eq_false_iff.mpr c12
     subst c12
     have H1 : ((image_Store.f kj6 a0 a1 a2 l3).bind fun bt407 => ((medlarref17_Store.f kj6 a0 a1 a2 l3).bind fun bt411 => ((image_Read.f kj6 l4).bind fun bt415 => ((medlarref17_Read.f kj6 l4).bind fun bt422 => ((medlarref16_SameBytes.f bt407.1 bt411.1).bind fun t429 => (if t429 = true then (if bt407.2 = bt411.2 then (if bt415.1 = bt422.1 then (if bt415.2.1 = bt422.2.1 then (if bt415.2.2.1 = bt422.2.2.1 then ((medlarref14_Same.f kj6 bt415.2.2.2.1 bt422.2.2.2.1).bind fun t430 => (if t430 = true then (medlarlaw17_ImageStores.j1 kj6 l4 t406 (strOfNums l4) bt415.2.2.2.1 (bt415.2.2.2.2 == bt422.2.2.2.2)) else (medlarlaw17_ImageStores.j1 kj6 l4 t406 (strOfNums l4) bt415.2.2.2.1 false))) else (medlarlaw17_ImageStores.j1 kj6 l4 t406 (strOfNums l4) bt415.2.2.2.1 false)) else (medlarlaw17_ImageStores.j1 kj6 l4 t406 (strOfNums l4) bt415.2.2.2.1 false)) else (medlarlaw17_ImageStores.j1 kj6 l4 t406 (strOfNums l4) bt415.2.2.2.1 false)) else (medlarlaw17_ImageStores.j1 kj6 l4 t406 (strOfNums l4) bt415.2.2.2.1 false)) else (medlarlaw17_ImageStores.j1 kj6 l4 t406 (strOfNums l4) bt415.2.2.2.1 false))))))) = some r := by rw [if_neg (show ¬ (false = true) by decide)] at H; exact H
     clear H
     have H := H1
     clear H1
     replace H := bind_eq_some_iff.mp H
     obtain ⟨⟨t407, t408⟩, A130, H⟩ := H
     replace H : ((medlarref17_Store.f kj6 a0 a1 a2 l3).bind fun bt411 => ((image_Read.f kj6 l4).bind fun bt415 => ((medlarref17_Read.f kj6 l4).bind fun bt422 => ((medlarref16_SameBytes.f t407 bt411.1).bind fun t429 => (if t429 = true then (if t408 = bt411.2 then (if bt415.1 = bt422.1 then (if bt415.2.1 = bt422.2.1 then (if bt415.2.2.1 = bt422.2.2.1 then ((medlarref14_Same.f kj6 bt415.2.2.2.1 bt422.2.2.2.1).bind fun t430 => (if t430 = true then (medlarlaw17_ImageStores.j1 kj6 l4 t406 (strOfNums l4) bt415.2.2.2.1 (bt415.2.2.2.2 == bt422.2.2.2.2)) else (medlarlaw17_ImageStores.j1 kj6 l4 t406 (strOfNums l4) bt415.2.2.2.1 false))) else (medlarlaw17_ImageStores.j1 kj6 l4 t406 (strOfNums l4) bt415.2.2.2.1 false)) else (medlarlaw17_ImageStores.j1 kj6 l4 t406 (strOfNums l4) bt415.2.2.2.1 false)) else (medlarlaw17_ImageStores.j1 kj6 l4 t406 (strOfNums l4) bt415.2.2.2.1 false)) else (medlarlaw17_ImageStores.j1 kj6 l4 t406 (strOfNums l4) bt415.2.2.2.1 false)) else (medlarlaw17_ImageStores.j1 kj6 l4 t406 (strOfNums l4) bt415.2.2.2.1 false)))))) = some r := H
     have A13 := ak_ A130
     clear A130
     replace H := bind_eq_some_iff.mp H
     obtain ⟨⟨t411, t412⟩, A140, H⟩ := H
     replace H : ((image_Read.f kj6 l4).bind fun bt415 => ((medlarref17_Read.f kj6 l4).bind fun bt422 => ((medlarref16_SameBytes.f t407 t411).bind fun t429 => (if t429 = true then (if t408 = t412 then (if bt415.1 = bt422.1 then (if bt415.2.1 = bt422.2.1 then (if bt415.2.2.1 = bt422.2.2.1 then ((medlarref14_Same.f kj6 bt415.2.2.2.1 bt422.2.2.2.1).bind fun t430 => (if t430 = true then (medlarlaw17_ImageStores.j1 kj6 l4 t406 (strOfNums l4) bt415.2.2.2.1 (bt415.2.2.2.2 == bt422.2.2.2.2)) else (medlarlaw17_ImageStores.j1 kj6 l4 t406 (strOfNums l4) bt415.2.2.2.1 false))) else (medlarlaw17_ImageStores.j1 kj6 l4 t406 (strOfNums l4) bt415.2.2.2.1 false)) else (medlarlaw17_ImageStores.j1 kj6 l4 t406 (strOfNums l4) bt415.2.2.2.1 false)) else (medlarlaw17_ImageStores.j1 kj6 l4 t406 (strOfNums l4) bt415.2.2.2.1 false)) else (medlarlaw17_ImageStores.j1 kj6 l4 t406 (strOfNums l4) bt415.2.2.2.1 false)) else (medlarlaw17_ImageStores.j1 kj6 l4 t406 (strOfNums l4) bt415.2.2.2.1 false))))) = some r := H
     have A14 := ak_ A140
     clear A140
     replace H := bind_eq_some_iff.mp H
     obtain ⟨⟨t415, t416, t417, t418, t419⟩, A150, H⟩ := H
     replace H : ((medlarref17_Read.f kj6 l4).bind fun bt422 => ((medlarref16_SameBytes.f t407 t411).bind fun t429 => (if t429 = true then (if t408 = t412 then (if t415 = bt422.1 then (if t416 = bt422.2.1 then (if t417 = bt422.2.2.1 then ((medlarref14_Same.f kj6 t418 bt422.2.2.2.1).bind fun t430 => (if t430 = true then (medlarlaw17_ImageStores.j1 kj6 l4 t406 (strOfNums l4) t418 (t419 == bt422.2.2.2.2)) else (medlarlaw17_ImageStores.j1 kj6 l4 t406 (strOfNums l4) t418 false))) else (medlarlaw17_ImageStores.j1 kj6 l4 t406 (strOfNums l4) t418 false)) else (medlarlaw17_ImageStores.j1 kj6 l4 t406 (strOfNums l4) t418 false)) else (medlarlaw17_ImageStores.j1 kj6 l4 t406 (strOfNums l4) t418 false)) else (medlarlaw17_ImageStores.j1 kj6 l4 t406 (strOfNums l4) t418 false)) else (medlarlaw17_ImageStores.j1 kj6 l4 t406 (strOfNums l4) t418 false)))) = some r := H
     have A15 := ak_ A150
     clear A150
     replace H := bind_eq_some_iff.mp H
     obtain ⟨⟨t422, t423, t424, t425, t426⟩, A160, H⟩ := H
     replace H : ((medlarref16_SameBytes.f t407 t411).bind fun t429 => (if t429 = true then (if t408 = t412 then (if t415 = t422 then (if t416 = t423 then (if t417 = t424 then ((medlarref14_Same.f kj6 t418 t425).bind fun t430 => (if t430 = true then (medlarlaw17_ImageStores.j1 kj6 l4 t406 (strOfNums l4) t418 (t419 == t426)) else (medlarlaw17_ImageStores.j1 kj6 l4 t406 (strOfNums l4) t418 false))) else (medlarlaw17_ImageStores.j1 kj6 l4 t406 (strOfNums l4) t418 false)) else (medlarlaw17_ImageStores.j1 kj6 l4 t406 (strOfNums l4) t418 false)) else (medlarlaw17_ImageStores.j1 kj6 l4 t406 (strOfNums l4) t418 false)) else (medlarlaw17_ImageStores.j1 kj6 l4 t406 (strOfNums l4) t418 false)) else (medlarlaw17_ImageStores.j1 kj6 l4 t406 (strOfNums l4) t418 false))) = some r := H
     have A16 := ak_ A160
     clear A160
     have HC17 := ak_ H
     clear H
     have hcv18 := Kd.C_string (P := Try.prog) (A := A4) (c := c4) underlying35 underlying5 underlying9 (Kd.C_below HR4.out HB.out)
     go_upto_region 9 with (first | ((with_reducible refine gate_callee (f := 33) rfl ?_); refine gl_ (some 56) func33 #[.int .i64 a0, .int .i64 a1, .int .u64 a2, .slice A3 l3.length c3] ?_; (with_reducible refine (image_Store.calls kj6 a0 a1 a2 _ _ l3 t407 t408 _ ?side1 ?side2 A13.out).mono ?_); (case side1 => repeat (first | exact (Kd.C_below HR3.out HB.out) | (with_reducible refine Kd.C_alloc ?_ _) | (with_reducible refine Kd.C_drewN ?_ _) | (with_reducible refine Kd.C_drew ?_))); (case side2 => exact HC3.out); rintro e w19 ⟨v409, rfl, ho0, hb⟩; refine ⟨_, rfl, ?_⟩; have HO410 := ak_ (Kd.R_lower ho0 (bz_ (bl_ HB))); replace HB := ak_ (bt_ (bl_ HB) hb); (try clear hb); (try clear hk); (try clear ho0)) | ((with_reducible refine gate_callee (f := 34) rfl ?_); refine gl_ (some 64) func34 #[.int .i64 a0, .int .i64 a1, .int .u64 a2, .slice A3 l3.length c3] ?_; (with_reducible refine (medlarref17_Store.calls kj6 a0 a1 a2 _ _ l3 t411 t412 _ ?side1 ?side2 A14.out).mono ?_); (case side1 => repeat (first | exact (Kd.C_below HR3.out HB.out) | (with_reducible refine Kd.C_alloc ?_ _) | (with_reducible refine Kd.C_drewN ?_ _) | (with_reducible refine Kd.C_drew ?_))); (case side2 => exact HC3.out); rintro e w20 ⟨v413, rfl, ho0, hb⟩; refine ⟨_, rfl, ?_⟩; have HO414 := ak_ (Kd.R_lower (Kd.R_new' ho0 (Kd.R_lt (rl_ HO410))) (bz_ (bl_ HB))); replace HO410 := ak_ (Kd.R_elder' (rl_ HO410) (Kd.R_base ho0) hb); replace HB := ak_ (bt_ (bl_ HB) hb); (try clear hb); (try clear hk); (try clear ho0)) | ((with_reducible refine gate_callee (f := 35) rfl ?_); refine gl_ (some 69) func35 #[.slice A4 l4.length c4] ?_; (with_reducible refine (image_Read.calls kj6 _ _ l4 t415 t416 t417 t418 t419 _ ?side1 ?side2 A15.out).mono ?_); (case side1 => repeat (first | exact (Kd.C_below HR4.out HB.out) | (with_reducible refine Kd.C_alloc ?_ _) | (with_reducible refine Kd.C_drewN ?_ _) | (with_reducible refine Kd.C_drew ?_))); (case side2 => exact HC4.out); rintro e w21 ⟨v420, rfl, ho0, hb⟩; refine ⟨_, rfl, ?_⟩; replace HO410 := ak_ (Kd.R_below (rl_ HO410) hb); replace HO414 := ak_ (Kd.R_below (rl_ HO414) hb); have HO421 := ak_ (Kd.R_lower ho0 (bz_ (bl_ HB))); replace HB := ak_ (bt_ (bl_ HB) hb); (try clear hb); (try clear hk); (try clear ho0)) | ((with_reducible refine gate_callee (f := 36) rfl ?_); refine gl_ (some 77) func36 #[.slice A4 l4.length c4] ?_; (with_reducible refine (medlarref17_Read.calls kj6 _ _ l4 t422 t423 t424 t425 t426 _ ?side1 ?side2 A16.out).mono ?_); (case side1 => repeat (first | exact (Kd.C_below HR4.out HB.out) | (with_reducible refine Kd.C_alloc ?_ _) | (with_reducible refine Kd.C_drewN ?_ _) | (with_reducible refine Kd.C_drew ?_))); (case side2 => exact HC4.out); rintro e w22 ⟨v427, rfl, ho0, hb⟩; refine ⟨_, rfl, ?_⟩; replace HO410 := ak_ (Kd.R_below (rl_ HO410) hb); replace HO414 := ak_ (Kd.R_below (rl_ HO414) hb); have HO428 := ak_ (Kd.R_lower (Kd.R_new' ho0 (Kd.R_lt (rl_ HO421))) (bz_ (bl_ HB))); replace HO421 := ak_ (Kd.R_elder' (rl_ HO421) (Kd.R_base ho0) hb); replace HB := ak_ (bt_ (bl_ HB) hb); (try clear hb); (try clear hk); (try clear ho0)))
     (try simp only [Act.put, setIfInBounds_toArray, set_cons_zero, set_cons_succ])
     go_cut [27] (fun v27 wc => ∃ (kq : Nat) (x27_16 : Bool), v27 = .bool x27_16 ∧ Aside0 (medlarlaw17_ImageStores.j1 kq l4 t406 (strOfNums l4) t418 x27_16 = some r) ∧ Aside0 (kq ≤ kj6) ∧ Aside0 (Kd.R k65 65 wc w.heap.size (fun _ => True) v420 t418) ∧ Aside0 (Below w.heap.size w wc))
     case first =>
      have H := HC17.out
      clear HC17
      replace H := bind_eq_some_iff.mp H
      obtain ⟨t429, A230, H⟩ := H
      replace H : (if t429 = true then (if t408 = t412 then (if t415 = t422 then (if t416 = t423 then (if t417 = t424 then ((medlarref14_Same.f kj6 t418 t425).bind fun t430 => (if t430 = true then (medlarlaw17_ImageStores.j1 kj6 l4 t406 (strOfNums l4) t418 (t419 == t426)) else (medlarlaw17_ImageStores.j1 kj6 l4 t406 (strOfNums l4) t418 false))) else (medlarlaw17_ImageStores.j1 kj6 l4 t406 (strOfNums l4) t418 false)) else (medlarlaw17_ImageStores.j1 kj6 l4 t406 (strOfNums l4) t418 false)) else (medlarlaw17_ImageStores.j1 kj6 l4 t406 (strOfNums l4) t418 false)) else (medlarlaw17_ImageStores.j1 kj6 l4 t406 (strOfNums l4) t418 false)) else (medlarlaw17_ImageStores.j1 kj6 l4 t406 (strOfNums l4) t418 false)) = some r := H
      have A23 := ak_ A230
      clear A230
      by_cases c24 : t429 = true
      ·subst c24
       have H1 : (if t408 = t412 then (if t415 = t422 then (if t416 = t423 then (if t417 = t424 then ((medlarref14_Same.f kj6 t418 t425).bind fun t430 => (if t430 = true then (medlarlaw17_ImageStores.j1 kj6 l4 t406 (strOfNums l4) t418 (t419 == t426)) else (medlarlaw17_ImageStores.j1 kj6 l4 t406 (strOfNums l4) t418 false))) else (medlarlaw17_ImageStores.j1 kj6 l4 t406 (strOfNums l4) t418 false)) else (medlarlaw17_ImageStores.j1 kj6 l4 t406 (strOfNums l4) t418 false)) else (medlarlaw17_ImageStores.j1 kj6 l4 t406 (strOfNums l4) t418 false)) else (medlarlaw17_ImageStores.j1 kj6 l4 t406 (strOfNums l4) t418 false)) = some r := by rw [if_pos rfl] at H; exact H
       clear H
       have H := H1
       clear H1
       by_cases c25 : t408 = t412
       ·rw [if_pos c25] at H
        have c25b0 : (t408 == t412) = true := beq_iff_eq.mpr c25
        have c25b1 : (t408 != t412) = false := bne_eq_false_iff_eq.mpr c25
        clear c25
        (first | rw [c25b0] | (simp only [i64_w, i32_w]; rw [c25b0]) | skip)
        by_cases c26 : t415 = t422
        ·rw [if_pos c26] at H
         have c26b0 : (t415 == t422) = true := beq_iff_eq.mpr c26
         have c26b1 : (t415 != t422) = false := bne_eq_false_iff_eq.mpr c26
         clear c26
         by_cases c27 : t416 = t423
         ·rw [if_pos c27] at H
          have c27b0 : (t416 == t423) = true := beq_iff_eq.mpr c27
          have c27b1 : (t416 != t423) = false := bne_eq_false_iff_eq.mpr c27
          clear c27
          by_cases c28 : t417 = t424
          ·rw [if_pos c28] at H
           have c28b0 : (t417 == t424) = true := beq_iff_eq.mpr c28
           have c28b1 : (t417 != t424) = false := bne_eq_false_iff_eq.mpr c28
           clear c28
           replace H := bind_eq_some_iff.mp H
           obtain ⟨t430, A290, H⟩ := H
           replace H : (if t430 = true then (medlarlaw17_ImageStores.j1 kj6 l4 t406 (strOfNums l4) t418 (t419 == t426)) else (medlarlaw17_ImageStores.j1 kj6 l4 t406 (strOfNums l4) t418 false)) = some r := H
           have A29 := ak_ A290
           clear A290
           by_cases c30 : t430 = true
           ·subst c30
            have H1 : (medlarlaw17_ImageStores.j1 kj6 l4 t406 (strOfNums l4) t418 (t419 == t426)) = some r := by rw [if_pos rfl] at H; exact H
            clear H
            have H := H1
            clear H1
            have H' := ak_ H
            clear H
            obtain ⟨Ao31, co31, eo31⟩ := Kd.R_slice HO410.out
            subst eo31
            obtain ⟨Ao32, co32, eo32⟩ := Kd.R_slice HO414.out
            subst eo32
            go_wp2_with (first | ((with_reducible refine gate_callee (f := 23) rfl ?_); refine gl_ (some 85) func23 #[.slice Ao31 t407.length co31, .slice Ao32 t411.length co32] ?_; (with_reducible refine (medlarref16_SameBytes.calls _ _ t407 _ _ t411 true _ ?side1 ?side2 ?side3 ?side4 A23.out).mono ?_); (case side1 => repeat (first | exact (Kd.R_reads' HO410.out).2.2 | (with_reducible refine Kd.C_alloc ?_ _) | (with_reducible refine Kd.C_drewN ?_ _) | (with_reducible refine Kd.C_drew ?_))); (case side2 => exact (Kd.R_reads' HO410.out).2.1); (case side3 => repeat (first | exact (Kd.R_reads' HO414.out).2.2 | (with_reducible refine Kd.C_alloc ?_ _) | (with_reducible refine Kd.C_drewN ?_ _) | (with_reducible refine Kd.C_drew ?_))); (case side4 => exact (Kd.R_reads' HO414.out).2.1); rintro e w' ⟨rfl, ⟨nd, rfl⟩⟩; refine ⟨_, rfl, ?_⟩; obtain ⟨Ao33, co33, eo33⟩ := Kd.R_slice HO421.out; subst eo33; obtain ⟨Ao34, co34, eo34⟩ := Kd.R_slice HO428.out; subst eo34) | (go_at_call 37; (with_reducible refine (medlarref14_Same.calls kj6 _ _ t418 _ _ t425 true _ ?side1 ?side2 ?side3 ?side4 A29.out).mono ?_); (case side1 => repeat (first | exact (Kd.R_reads' HO421.out).2.2 | (with_reducible refine Kd.C_alloc ?_ _) | (with_reducible refine Kd.C_drewN ?_ _) | (with_reducible refine Kd.C_drew ?_))); (case side2 => exact (Kd.R_reads' HO421.out).2.1); (case side3 => repeat (first | exact (Kd.R_reads' HO428.out).2.2 | (with_reducible refine Kd.C_alloc ?_ _) | (with_reducible refine Kd.C_drewN ?_ _) | (with_reducible refine Kd.C_drew ?_))); (case side4 => exact (Kd.R_reads' HO428.out).2.1); rintro e w' ⟨rfl, ⟨nd, rfl⟩⟩))
            go_meet
            case rel => exact ⟨_, ((t419 == t426)), rf_, H', ⟨by have := HJ6.out; first | omega | exact Nat.le_refl _⟩, ⟨by (with_reducible repeat (first | apply Kd.R_alloc | apply Kd.R_drewN | apply Kd.R_drew)); exact Kd.R_mono HO421.out (fun _ hk => trivial)⟩, ⟨bl_ HB⟩⟩
           ·replace c30 := Bool.eq_false_iff.mpr c30
            subst c30
            have H1 : (medlarlaw17_ImageStores.j1 kj6 l4 t406 (strOfNums l4) t418 false) = some r := by rw [if_neg (show ¬ (false = true) by decide)] at H; exact H
            clear H
            have H := H1
            clear H1
            have H' := ak_ H
            clear H
            obtain ⟨Ao35, co35, eo35⟩ := Kd.R_slice HO410.out
            subst eo35
            obtain ⟨Ao36, co36, eo36⟩ := Kd.R_slice HO414.out
            subst eo36
            go_wp2_with (first | ((with_reducible refine gate_callee (f := 23) rfl ?_); refine gl_ (some 85) func23 #[.slice Ao35 t407.length co35, .slice Ao36 t411.length co36] ?_; (with_reducible refine (medlarref16_SameBytes.calls _ _ t407 _ _ t411 true _ ?side1 ?side2 ?side3 ?side4 A23.out).mono ?_); (case side1 => repeat (first | exact (Kd.R_reads' HO410.out).2.2 | (with_reducible refine Kd.C_alloc ?_ _) | (with_reducible refine Kd.C_drewN ?_ _) | (with_reducible refine Kd.C_drew ?_))); (case side2 => exact (Kd.R_reads' HO410.out).2.1); (case side3 => repeat (first | exact (Kd.R_reads' HO414.out).2.2 | (with_reducible refine Kd.C_alloc ?_ _) | (with_reducible refine Kd.C_drewN ?_ _) | (with_reducible refine Kd.C_drew ?_))); (case side4 => exact (Kd.R_reads' HO414.out).2.1); rintro e w' ⟨rfl, ⟨nd, rfl⟩⟩; refine ⟨_, rfl, ?_⟩; obtain ⟨Ao37, co37, eo37⟩ := Kd.R_slice HO421.out; subst eo37; obtain ⟨Ao38, co38, eo38⟩ := Kd.R_slice HO428.out; subst eo38) | (go_at_call 37; (with_reducible refine (medlarref14_Same.calls kj6 _ _ t418 _ _ t425 false _ ?side1 ?side2 ?side3 ?side4 A29.out).mono ?_); (case side1 => repeat (first | exact (Kd.R_reads' HO421.out).2.2 | (with_reducible refine Kd.C_alloc ?_ _) | (with_reducible refine Kd.C_drewN ?_ _) | (with_reducible refine Kd.C_drew ?_))); (case side2 => exact (Kd.R_reads' HO421.out).2.1); (case side3 => repeat (first | exact (Kd.R_reads' HO428.out).2.2 | (with_reducible refine Kd.C_alloc ?_ _) | (with_reducible refine Kd.C_drewN ?_ _) | (with_reducible refine Kd.C_drew ?_))); (case side4 => exact (Kd.R_reads' HO428.out).2.1); rintro e w' ⟨rfl, ⟨nd, rfl⟩⟩))
            go_meet
            case rel => exact ⟨_, (false), rf_, H', ⟨by have := HJ6.out; first | omega | exact Nat.le_refl _⟩, ⟨by (with_reducible repeat (first | apply Kd.R_alloc | apply Kd.R_drewN | apply Kd.R_drew)); exact Kd.R_mono HO421.out (fun _ hk => trivial)⟩, ⟨bl_ HB⟩⟩
          ·rw [if_neg c28] at H
           have c28b0 : (t417 == t424) = false := beq_eq_false_iff_ne.mpr c28
           have c28b1 : (t417 != t424) = true := bne_iff_ne.mpr c28
           have H' := ak_ H
           clear H
           obtain ⟨Ao39, co39, eo39⟩ := Kd.R_slice HO410.out
           subst eo39
           obtain ⟨Ao40, co40, eo40⟩ := Kd.R_slice HO414.out
           subst eo40
           go_wp2_with (first | ((with_reducible refine gate_callee (f := 23) rfl ?_); refine gl_ (some 85) func23 #[.slice Ao39 t407.length co39, .slice Ao40 t411.length co40] ?_; (with_reducible refine (medlarref16_SameBytes.calls _ _ t407 _ _ t411 true _ ?side1 ?side2 ?side3 ?side4 A23.out).mono ?_); (case side1 => repeat (first | exact (Kd.R_reads' HO410.out).2.2 | (with_reducible refine Kd.C_alloc ?_ _) | (with_reducible refine Kd.C_drewN ?_ _) | (with_reducible refine Kd.C_drew ?_))); (case side2 => exact (Kd.R_reads' HO410.out).2.1); (case side3 => repeat (first | exact (Kd.R_reads' HO414.out).2.2 | (with_reducible refine Kd.C_alloc ?_ _) | (with_reducible refine Kd.C_drewN ?_ _) | (with_reducible refine Kd.C_drew ?_))); (case side4 => exact (Kd.R_reads' HO414.out).2.1); rintro e w' ⟨rfl, ⟨nd, rfl⟩⟩; refine ⟨_, rfl, ?_⟩))
           go_meet
           case rel => exact ⟨_, (false), rf_, H', ⟨by have := HJ6.out; first | omega | exact Nat.le_refl _⟩, ⟨by (with_reducible repeat (first | apply Kd.R_alloc | apply Kd.R_drewN | apply Kd.R_drew)); exact Kd.R_mono HO421.out (fun _ hk => trivial)⟩, ⟨bl_ HB⟩⟩
         ·rw [if_neg c27] at H
          have c27b0 : (t416 == t423) = false := beq_eq_false_iff_ne.mpr c27
          have c27b1 : (t416 != t423) = true := bne_iff_ne.mpr c27
          have H' := ak_ H
          clear H
          obtain ⟨Ao41, co41, eo41⟩ := Kd.R_slice HO410.out
          subst eo41
          obtain ⟨Ao42, co42, eo42⟩ := Kd.R_slice HO414.out
          subst eo42
          go_wp2_with (first | ((with_reducible refine gate_callee (f := 23) rfl ?_); refine gl_ (some 85) func23 #[.slice Ao41 t407.length co41, .slice Ao42 t411.length co42] ?_; (with_reducible refine (medlarref16_SameBytes.calls _ _ t407 _ _ t411 true _ ?side1 ?side2 ?side3 ?side4 A23.out).mono ?_); (case side1 => repeat (first | exact (Kd.R_reads' HO410.out).2.2 | (with_reducible refine Kd.C_alloc ?_ _) | (with_reducible refine Kd.C_drewN ?_ _) | (with_reducible refine Kd.C_drew ?_))); (case side2 => exact (Kd.R_reads' HO410.out).2.1); (case side3 => repeat (first | exact (Kd.R_reads' HO414.out).2.2 | (with_reducible refine Kd.C_alloc ?_ _) | (with_reducible refine Kd.C_drewN ?_ _) | (with_reducible refine Kd.C_drew ?_))); (case side4 => exact (Kd.R_reads' HO414.out).2.1); rintro e w' ⟨rfl, ⟨nd, rfl⟩⟩; refine ⟨_, rfl, ?_⟩))
          go_meet
          case rel => exact ⟨_, (false), rf_, H', ⟨by have := HJ6.out; first | omega | exact Nat.le_refl _⟩, ⟨by (with_reducible repeat (first | apply Kd.R_alloc | apply Kd.R_drewN | apply Kd.R_drew)); exact Kd.R_mono HO421.out (fun _ hk => trivial)⟩, ⟨bl_ HB⟩⟩
        ·rw [if_neg c26] at H
         have c26b0 : (t415 == t422) = false := beq_eq_false_iff_ne.mpr c26
         have c26b1 : (t415 != t422) = true := bne_iff_ne.mpr c26
         have H' := ak_ H
         clear H
         obtain ⟨Ao43, co43, eo43⟩ := Kd.R_slice HO410.out
         subst eo43
         obtain ⟨Ao44, co44, eo44⟩ := Kd.R_slice HO414.out
         subst eo44
         go_wp2_with (first | ((with_reducible refine gate_callee (f := 23) rfl ?_); refine gl_ (some 85) func23 #[.slice Ao43 t407.length co43, .slice Ao44 t411.length co44] ?_; (with_reducible refine (medlarref16_SameBytes.calls _ _ t407 _ _ t411 true _ ?side1 ?side2 ?side3 ?side4 A23.out).mono ?_); (case side1 => repeat (first | exact (Kd.R_reads' HO410.out).2.2 | (with_reducible refine Kd.C_alloc ?_ _) | (with_reducible refine Kd.C_drewN ?_ _) | (with_reducible refine Kd.C_drew ?_))); (case side2 => exact (Kd.R_reads' HO410.out).2.1); (case side3 => repeat (first | exact (Kd.R_reads' HO414.out).2.2 | (with_reducible refine Kd.C_alloc ?_ _) | (with_reducible refine Kd.C_drewN ?_ _) | (with_reducible refine Kd.C_drew ?_))); (case side4 => exact (Kd.R_reads' HO414.out).2.1); rintro e w' ⟨rfl, ⟨nd, rfl⟩⟩; refine ⟨_, rfl, ?_⟩))
         go_meet
         case rel => exact ⟨_, (false), rf_, H', ⟨by have := HJ6.out; first | omega | exact Nat.le_refl _⟩, ⟨by (with_reducible repeat (first | apply Kd.R_alloc | apply Kd.R_drewN | apply Kd.R_drew)); exact Kd.R_mono HO421.out (fun _ hk => trivial)⟩, ⟨bl_ HB⟩⟩
       ·rw [if_neg c25] at H
        have c25b0 : (t408 == t412) = false := beq_eq_false_iff_ne.mpr c25
        have c25b1 : (t408 != t412) = true := bne_iff_ne.mpr c25
        (first | rw [c25b0] | (simp only [i64_w, i32_w]; rw [c25b0]) | skip)
        have H' := ak_ H
        clear H
        obtain ⟨Ao45, co45, eo45⟩ := Kd.R_slice HO410.out
        subst eo45
        obtain ⟨Ao46, co46, eo46⟩ := Kd.R_slice HO414.out
        subst eo46
        go_wp2_with (first | ((with_reducible refine gate_callee (f := 23) rfl ?_); refine gl_ (some 85) func23 #[.slice Ao45 t407.length co45, .slice Ao46 t411.length co46] ?_; (with_reducible refine (medlarref16_SameBytes.calls _ _ t407 _ _ t411 true _ ?side1 ?side2 ?side3 ?side4 A23.out).mono ?_); (case side1 => repeat (first | exact (Kd.R_reads' HO410.out).2.2 | (with_reducible refine Kd.C_alloc ?_ _) | (with_reducible refine Kd.C_drewN ?_ _) | (with_reducible refine Kd.C_drew ?_))); (case side2 => exact (Kd.R_reads' HO410.out).2.1); (case side3 => repeat (first | exact (Kd.R_reads' HO414.out).2.2 | (with_reducible refine Kd.C_alloc ?_ _) | (with_reducible refine Kd.C_drewN ?_ _) | (with_reducible refine Kd.C_drew ?_))); (case side4 => exact (Kd.R_reads' HO414.out).2.1); rintro e w' ⟨rfl, ⟨nd, rfl⟩⟩; refine ⟨_, rfl, ?_⟩))
        go_meet
        case rel => exact ⟨_, (false), rf_, H', ⟨by have := HJ6.out; first | omega | exact Nat.le_refl _⟩, ⟨by (with_reducible repeat (first | apply Kd.R_alloc | apply Kd.R_drewN | apply Kd.R_drew)); exact Kd.R_mono HO421.out (fun _ hk => trivial)⟩, ⟨bl_ HB⟩⟩
      ·replace c24 := Bool.eq_false_iff.mpr c24
       subst c24
       have H1 : (medlarlaw17_ImageStores.j1 kj6 l4 t406 (strOfNums l4) t418 false) = some r := by rw [if_neg (show ¬ (false = true) by decide)] at H; exact H
       clear H
       have H := H1
       clear H1
       have H' := ak_ H
       clear H
       obtain ⟨Ao47, co47, eo47⟩ := Kd.R_slice HO410.out
       subst eo47
       obtain ⟨Ao48, co48, eo48⟩ := Kd.R_slice HO414.out
       subst eo48
       go_wp2_with (first | ((with_reducible refine gate_callee (f := 23) rfl ?_); refine gl_ (some 85) func23 #[.slice Ao47 t407.length co47, .slice Ao48 t411.length co48] ?_; (with_reducible refine (medlarref16_SameBytes.calls _ _ t407 _ _ t411 false _ ?side1 ?side2 ?side3 ?side4 A23.out).mono ?_); (case side1 => repeat (first | exact (Kd.R_reads' HO410.out).2.2 | (with_reducible refine Kd.C_alloc ?_ _) | (with_reducible refine Kd.C_drewN ?_ _) | (with_reducible refine Kd.C_drew ?_))); (case side2 => exact (Kd.R_reads' HO410.out).2.1); (case side3 => repeat (first | exact (Kd.R_reads' HO414.out).2.2 | (with_reducible refine Kd.C_alloc ?_ _) | (with_reducible refine Kd.C_drewN ?_ _) | (with_reducible refine Kd.C_drew ?_))); (case side4 => exact (Kd.R_reads' HO414.out).2.1); rintro e w' ⟨rfl, ⟨nd, rfl⟩⟩; refine ⟨_, rfl, ?_⟩))
       go_meet
       case rel => exact ⟨_, (false), rf_, H', ⟨by have := HJ6.out; first | omega | exact Nat.le_refl _⟩, ⟨by (with_reducible repeat (first | apply Kd.R_alloc | apply Kd.R_drewN | apply Kd.R_drew)); exact Kd.R_mono HO421.out (fun _ hk => trivial)⟩, ⟨bl_ HB⟩⟩
     case rest =>
      clear HC17
      try clear c1
      try clear hcv1
      try clear c2
      try clear p2
      try clear c3
      try clear c4
      try clear c9
      try clear c9b0
      try clear c9b1
      try clear c10
      try clear c10b0
      try clear c10b1
      try clear c11
      try clear c11b0
      try clear c11b1
      try clear c12
      try clear hcv18
      try clear c23
      try clear c24
      try clear c25
      try clear c25b0
      try clear c25b1
      try clear c26
      try clear c26b0
      try clear c26b1
      try clear c27
      try clear c27b0
      try clear c27b1
      try clear c28
      try clear c28b0
      try clear c28b1
      try clear c30
      try clear c33
      try clear c34
      try clear c35
      try clear c36
      try clear p2
      obtain ⟨kq, x27_16, rfl, HA, HJ16, HO_20, HB⟩ := hcut
      cases kq with
      | zero => exact absurd HA.out (by simp [medlarlaw17_ImageStores.j1])
      | succ kj16 =>
       have H := HA.out
       clear HA
       simp only [medlarlaw17_ImageStores.j1] at H
       have H' := ak_ H
       clear H
       obtain ⟨Ao49, co49, eo49⟩ := Kd.R_slice HO_20.out
       subst eo49
       go_wp2
       go_loopg [118] kj16 (fun kq v118 w' => ∃ (x20_3 : List (S65)) (x118_3 : Int), v118 = .int .i64 x118_3 ∧ Aside0 (medlarlaw17_ImageStores.l0 kq l4 t406 (strOfNums l4) x20_3 x27_16 (t418.length : Int) x118_3 = some r) ∧ Aside0 (kq ≤ kj16) ∧ Aside0 (Kd.R k65 65 w' w.heap.size (fun _ => True) (.slice Ao49 t418.length co49) x20_3) ∧ Aside0 (Below w.heap.size w w'))
       case atStart => exact ⟨(t418), (0), rf_, H', ⟨Nat.le_refl _⟩, ⟨rl_ HO_20⟩, ⟨bl_ HB⟩⟩
       case round =>
        clear H'
        try clear c1
        try clear hcv1
        try clear c2
        try clear p2
        try clear c3
        try clear c4
        try clear c9
        try clear c9b0
        try clear c9b1
        try clear c10
        try clear c10b0
        try clear c10b1
        try clear c11
        try clear c11b0
        try clear c11b1
        try clear c12
        try clear hcv18
        try clear c23
        try clear c24
        try clear c25
        try clear c25b0
        try clear c25b1
        try clear c26
        try clear c26b0
        try clear c26b1
        try clear c27
        try clear c27b0
        try clear c27b1
        try clear c28
        try clear c28b0
        try clear c28b1
        try clear c30
        try clear c33
        try clear c34
        try clear c35
        try clear c36
        try clear p2
        obtain ⟨x20_3, x118_3, rfl, HA, HK3, HO_20, HB⟩ := hrel
        have hl20_3 := (Kd.R_reads' HO_20.out).1
        rw [hl20_3] at HO_20
        (try simp only [hl20_3])
        cases gk with
        | zero => exact absurd HA.out (by simp [medlarlaw17_ImageStores.l0])
        | succ k3 =>
         have H := HA.out
         clear HA
         simp only [medlarlaw17_ImageStores.l0] at H
         by_cases c50 : x118_3 < (t418.length : Int)
         ·rw [if_pos c50] at H
          have c50b0 := decide_eq_true c50
          clear c50
          by_cases c51 : 0 ≤ x118_3
          ·rw [if_pos c51] at H
           have c51b0 := decide_eq_true c51
           clear c51
           by_cases c52 : x118_3 < (x20_3.length : Int)
           ·rw [if_pos c52] at H
            have c52b0 := decide_eq_true c52
            clear c52
            obtain ⟨y432, hy432⟩ : ∃ y_ : List (S65), y_ = (x20_3.set (x118_3 : Int).toNat (⟨(⟨IntKind.u64.wrap (((rd_T65 x20_3 x118_3).f0.f0) + 1), (rd_T65 x20_3 x118_3).f0.f1⟩ : S39), (⟨(rd_T65 x20_3 x118_3).f1.f0, (rd_T65 x20_3 x118_3).f1.f1, (⟨(rd_T65 x20_3 x118_3).f1.f2.f0, (rd_T65 x20_3 x118_3).f1.f2.f1⟩ : S25), (⟨(⟨(rd_T65 x20_3 x118_3).f1.f3.f0.f0, (rd_T65 x20_3 x118_3).f1.f3.f0.f1⟩ : S25), (⟨(rd_T65 x20_3 x118_3).f1.f3.f1.f0, (rd_T65 x20_3 x118_3).f1.f3.f1.f1⟩ : S25)⟩ : S27), (rd_T65 x20_3 x118_3).f1.f4⟩ : S29)⟩ : S65)) := ⟨_, rfl⟩
            replace H : (medlarlaw17_ImageStores.l0 k3 l4 t406 (strOfNums l4) y432 x27_16 (t418.length : Int) (wrap64 (x118_3 + 1))) = some r := by first | (rw [hy432]; with_reducible exact H) | (have H2_ := (Option.bind_some _ _).symm.trans H; rw [hy432]; with_reducible exact H2_) | (have H2_ := (Option.bind_some _ _).symm.trans H; with_reducible exact H2_) | with_reducible exact H | (rw [hy432]; exact H) | exact H
            have Ny432 := ak_ hy432
            clear hy432
            have H' := ak_ H
            clear H
            have p431 : 0 ≤ (x118_3 : Int) := od_ (by first | (with_reducible assumption) | assumption)
            have q431 : x118_3 < (x20_3.length : Int) := od_ (by first | (with_reducible assumption) | assumption)
            obtain ⟨ad431, e431, hx431_0, hx431_1, hx431_2, hx431_3, hx431_4, hx431_5, hx431_6, hx431_7, hx431_8, hx431_9, hx431_10⟩ := at_T65 (Kd.R_reads' HO_20.out).2.2 x118_3 p431 q431
            cases e431
            replace p431 := eq_true p431
            replace q431 := eq_true q431
            have p53 : 0 ≤ (x118_3 : Int) := od_ (by first | (with_reducible assumption) | assumption)
            have q53 : (x118_3 : Int) < ((x20_3.length : Int) : Int) := od_ (by first | (with_reducible assumption) | assumption)
            obtain ⟨go53, co53, eo53, gb53, gl53, cl53, HG53⟩ := Kd.R_form HO_20.out (by omega)
            (first | cases eo53 | (injection eo53 with ea_ en_ ec_; (first | subst ea_ | (injection ea_ with ea_; subst ea_)); subst ec_; clear en_))
            have GB53 := ak_ gb53
            have GG53 := ak_ HG53
            clear gb53 gl53 HG53
            (first | simp only [add_plain] at hx431_0 | skip)
            (first | simp only [add_plain] at hx431_1 | skip)
            (first | simp only [add_plain] at hx431_2 | skip)
            (first | simp only [add_plain] at hx431_3 | skip)
            (first | simp only [add_plain] at hx431_4 | skip)
            (first | simp only [add_plain] at hx431_5 | skip)
            (first | simp only [add_plain] at hx431_6 | skip)
            (first | simp only [add_plain] at hx431_7 | skip)
            (first | simp only [add_plain] at hx431_8 | skip)
            (first | simp only [add_plain] at hx431_9 | skip)
            (first | simp only [add_plain] at hx431_10 | skip)
            obtain ⟨ce53, hcl53, hM53, hcc53, hfr53⟩ := Kd.R_elem HO_20.out z65 (x118_3 : Int) p53 q53
            obtain rfl := k65_openM hM53
            have hx53_0 : wr.cell? ⟨go53, (x118_3 : Int).toNat * 11, none⟩ = some (.int .u64 ((rd_T65 x20_3 x118_3).f0.f0)) := hcc53 0 _ rfl
            have hx53_1 : wr.cell? ⟨go53, (x118_3 : Int).toNat * 11 + 1, none⟩ = some (.int .u64 ((rd_T65 x20_3 x118_3).f0.f1)) := hcc53 1 _ rfl
            have hx53_2 : wr.cell? ⟨go53, (x118_3 : Int).toNat * 11 + 2, none⟩ = some (.bool ((rd_T65 x20_3 x118_3).f1.f0)) := hcc53 2 _ rfl
            have hx53_3 : wr.cell? ⟨go53, (x118_3 : Int).toNat * 11 + 3, none⟩ = some (.bool ((rd_T65 x20_3 x118_3).f1.f1)) := hcc53 3 _ rfl
            have hx53_4 : wr.cell? ⟨go53, (x118_3 : Int).toNat * 11 + 4, none⟩ = some (.int .u64 ((rd_T65 x20_3 x118_3).f1.f2.f0)) := hcc53 4 _ rfl
            have hx53_5 : wr.cell? ⟨go53, (x118_3 : Int).toNat * 11 + 5, none⟩ = some (.int .u64 ((rd_T65 x20_3 x118_3).f1.f2.f1)) := hcc53 5 _ rfl
            have hx53_6 : wr.cell? ⟨go53, (x118_3 : Int).toNat * 11 + 6, none⟩ = some (.int .u64 ((rd_T65 x20_3 x118_3).f1.f3.f0.f0)) := hcc53 6 _ rfl
            have hx53_7 : wr.cell? ⟨go53, (x118_3 : Int).toNat * 11 + 7, none⟩ = some (.int .u64 ((rd_T65 x20_3 x118_3).f1.f3.f0.f1)) := hcc53 7 _ rfl
            have hx53_8 : wr.cell? ⟨go53, (x118_3 : Int).toNat * 11 + 8, none⟩ = some (.int .u64 ((rd_T65 x20_3 x118_3).f1.f3.f1.f0)) := hcc53 8 _ rfl
            have hx53_9 : wr.cell? ⟨go53, (x118_3 : Int).toNat * 11 + 9, none⟩ = some (.int .u64 ((rd_T65 x20_3 x118_3).f1.f3.f1.f1)) := hcc53 9 _ rfl
            have hx53_10 : wr.cell? ⟨go53, (x118_3 : Int).toNat * 11 + 10, none⟩ = some (.int .i64 ((rd_T65 x20_3 x118_3).f1.f4)) := hcc53 10 _ rfl
            have hf53_0 : wr.frozen? ⟨go53, (x118_3 : Int).toNat * 11, none⟩ = false := hfr53 0
            have hf53_1 : wr.frozen? ⟨go53, (x118_3 : Int).toNat * 11 + 1, none⟩ = false := hfr53 1
            have hf53_2 : wr.frozen? ⟨go53, (x118_3 : Int).toNat * 11 + 2, none⟩ = false := hfr53 2
            have hf53_3 : wr.frozen? ⟨go53, (x118_3 : Int).toNat * 11 + 3, none⟩ = false := hfr53 3
            have hf53_4 : wr.frozen? ⟨go53, (x118_3 : Int).toNat * 11 + 4, none⟩ = false := hfr53 4
            have hf53_5 : wr.frozen? ⟨go53, (x118_3 : Int).toNat * 11 + 5, none⟩ = false := hfr53 5
            have hf53_6 : wr.frozen? ⟨go53, (x118_3 : Int).toNat * 11 + 6, none⟩ = false := hfr53 6
            have hf53_7 : wr.frozen? ⟨go53, (x118_3 : Int).toNat * 11 + 7, none⟩ = false := hfr53 7
            have hf53_8 : wr.frozen? ⟨go53, (x118_3 : Int).toNat * 11 + 8, none⟩ = false := hfr53 8
            have hf53_9 : wr.frozen? ⟨go53, (x118_3 : Int).toNat * 11 + 9, none⟩ = false := hfr53 9
            have hf53_10 : wr.frozen? ⟨go53, (x118_3 : Int).toNat * 11 + 10, none⟩ = false := hfr53 10
            clear hcl53 hcc53 hfr53 hM53
            replace p53 := eq_true p53
            replace q53 := eq_true q53
            have HX54 := ak_ (show Kd.R k65 65 wr w.heap.size (fun _ => True) (.slice (some ⟨go53, 0, none⟩) x20_3.length co49) x20_3 from (rl_ HO_20))
            obtain ⟨ce54, hcl54, hM54, hcc54, hfr54⟩ := Kd.R_elem HX54.out z65 (x118_3 : Int) (od_ (by first | (with_reducible assumption) | assumption)) (by have h_ : (x118_3 : Int) < ((x20_3.length : Int) : Int) := od_ (by first | (with_reducible assumption) | assumption); first | exact h_ | (have e_ := (Kd.R_reads' HO_20.out).1; omega) | simpa using h_)
            obtain rfl := k65_openM hM54
            have HP54 := Kd.R_seg HX54.out (x118_3 : Int) (od_ (by first | (with_reducible assumption) | assumption)) (by have h_ : (x118_3 : Int) < ((x20_3.length : Int) : Int) := od_ (by first | (with_reducible assumption) | assumption); first | exact h_ | (have e_ := (Kd.R_reads' HO_20.out).1; omega) | simpa using h_) (seg := [.int .u64 (IntKind.u64.wrap (((rd_T65 x20_3 x118_3).f0.f0) + 1))]) (j := 0) hcl54 hcc54 (show 1 ≤ 11 from by decide) (x' := (⟨(⟨IntKind.u64.wrap (((rd_T65 x20_3 x118_3).f0.f0) + 1), (rd_T65 x20_3 x118_3).f0.f1⟩ : S39), (⟨(rd_T65 x20_3 x118_3).f1.f0, (rd_T65 x20_3 x118_3).f1.f1, (⟨(rd_T65 x20_3 x118_3).f1.f2.f0, (rd_T65 x20_3 x118_3).f1.f2.f1⟩ : S25), (⟨(⟨(rd_T65 x20_3 x118_3).f1.f3.f0.f0, (rd_T65 x20_3 x118_3).f1.f3.f0.f1⟩ : S25), (⟨(rd_T65 x20_3 x118_3).f1.f3.f1.f0, (rd_T65 x20_3 x118_3).f1.f3.f1.f1⟩ : S25)⟩ : S27), (rd_T65 x20_3 x118_3).f1.f4⟩ : S29)⟩ : S65)) (k65_mkM _ _ _ (⟨(⟨IntKind.u64.wrap (((rd_T65 x20_3 x118_3).f0.f0) + 1), (rd_T65 x20_3 x118_3).f0.f1⟩ : S39), (⟨(rd_T65 x20_3 x118_3).f1.f0, (rd_T65 x20_3 x118_3).f1.f1, (⟨(rd_T65 x20_3 x118_3).f1.f2.f0, (rd_T65 x20_3 x118_3).f1.f2.f1⟩ : S25), (⟨(⟨(rd_T65 x20_3 x118_3).f1.f3.f0.f0, (rd_T65 x20_3 x118_3).f1.f3.f0.f1⟩ : S25), (⟨(rd_T65 x20_3 x118_3).f1.f3.f1.f0, (rd_T65 x20_3 x118_3).f1.f3.f1.f1⟩ : S25)⟩ : S27), (rd_T65 x20_3 x118_3).f1.f4⟩ : S29)⟩ : S65) ) (fun _ hk => hk)
            have hx54_0 := hcc54 0 _ rfl
            (try simp only [show (k65).sz = 11 from rfl, Nat.mul_one, Nat.add_zero] at hx54_0)
            have hf54_0 := hfr54 0
            (try simp only [show (k65).sz = 11 from rfl, Nat.mul_one, Nat.add_zero] at hf54_0)
            clear hcl54 hcc54 hfr54 hM54
            go_wp2_with (first | ((with_reducible refine gate_store (t := 23) (p := 130) rfl ?_); refine store_event (t := 23) (p := 130) (v := ?vo_w55) (w1 := (wr.setCell ⟨go53, (x118_3 : Int).toNat * 11, none⟩ (.int .u64 (IntKind.u64.wrap (((rd_T65 x20_3 x118_3).f0.f0) + 1))))) ?hg ?ho ?hn ?hr ?_; (case ho => rfl); (case hg => rfl); (case hn => rfl); (case hr => first | (go_simp; done) | (go_simp; rfl)); intro w55 hw; have hg : wr.grownBy w55 (some go53) := (by rw [hw]; exact HP54.2); have hp_ : Kd.R k65 65 w55 w.heap.size (fun _ => True) (.slice (some ⟨go53, 0, none⟩) x20_3.length co49) y432 := (by rw [hw, Ny432.out]; exact HP54.1); clear HP54; replace HO_20 := ak_ hp_; replace HB := ak_ (by rw [hw]; exact below_set (HB.out) GB53.out : Below w.heap.size w w55); clear hg hw hp_))
            (try simp only [← hl20_3])
            go_roundg k3
            case measure => have := HJ6.out; have := HJ16.out; have := HK3.out; omega
            case rel => exact ⟨(y432), (wrap64 (x118_3 + 1)), rf_, H', ⟨by have := HJ6.out; have := HJ16.out; have := HK3.out; omega⟩, ⟨by (try simp only [hl20_3]); (with_reducible repeat (first | apply Kd.R_alloc | apply Kd.R_drewN | apply Kd.R_drew)); exact HO_20.out⟩, ⟨bl_ HB⟩⟩
           ·rw [if_neg c52] at H
            exact absurd H (by simp)
          ·rw [if_neg c51] at H
           exact absurd H (by simp)
         ·rw [if_neg c50] at H
          have c50b0 := decide_eq_false c50
          have c50b9 := c50b0
          rw [hl20_3] at c50b9
          clear c50
          by_cases c56 : t406 = true
          ·subst c56
           have H1 : (if x27_16 = true then (some ((strOfNums l4).toList == (strOfNums l4).toList)) else (some false)) = some r := by rw [if_pos rfl] at H; exact H
           clear H
           have H := H1
           clear H1
           by_cases c57 : x27_16 = true
           ·subst c57
            have H1 : (some ((strOfNums l4).toList == (strOfNums l4).toList)) = some r := by rw [if_pos rfl] at H; exact H
            clear H
            have H := H1
            clear H1
            obtain rfl := Option.some.inj H
            have hcv58 := Kd.C_string (P := Try.prog) (A := A4) (c := c4) underlying35 underlying5 underlying9 (Kd.C_below HR4.out HB.out)
            go_wp2
            go_ret
            exact ea_ (bl_ HB)
           ·replace c57 := Bool.eq_false_iff.mpr c57
            subst c57
            have H1 : (some false) = some r := by rw [if_neg (show ¬ (false = true) by decide)] at H; exact H
            clear H
            have H := H1
            clear H1
            exact absurd ((Option.some.inj H).trans hT.out) Bool.false_ne_true
          ·replace c56 := Bool.eq_false_iff.mpr c56
           subst c56
           have H1 : (some false) = some r := by rw [if_neg (show ¬ (false = true) by decide)] at H; exact H
           clear H
           have H := H1
           clear H1
           exact absurd ((Option.some.inj H).trans hT.out) Bool.false_ne_true
end Go.Proofs.Ytoljdfgkkkpnbaa.MP
