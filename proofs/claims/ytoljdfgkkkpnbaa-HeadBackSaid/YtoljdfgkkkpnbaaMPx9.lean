-- written by a program of this session (wip/tools/mprint.sh) for this seat
import Derived.Test.YtoljdfgkkkpnbaaMPx0
import Derived.Test.YtoljdfgkkkpnbaaMPx3
import Derived.Test.YtoljdfgkkkpnbaaMPx4
import Derived.Test.YtoljdfgkkkpnbaaMPx6
import Derived.Test.YtoljdfgkkkpnbaaMPx8
namespace Go.Proofs.Ytoljdfgkkkpnbaa.MP
open Go.RowKit Go.Proofs.YtoljdfgkkkpnbaaW.PrintWords Go.Proofs.YtoljdfgkkkpnbaaW.PrintLast Go.Proofs.YtoljdfgkkkpnbaaW.PrintMore
open List (setIfInBounds_toArray set_cons_zero set_cons_succ map_toArray map_cons map_nil length_drop length_take)
attribute [local go_sem] max2_int min2_int max_two min_two max_three min_three max_four min_four   -- for this text's walks alone
set_option linter.unusedVariables false
set_option linter.unusedSimpArgs false

/-! ### medlarlaw16_HeadBack: function 6 -/
mutual
def medlarlaw16_HeadBack.j0 : Nat → List Int → Bool → Bool → Int → Int → Int → List (S41) → Bool → Bool → Int → Int → Int → Int → Int → Int → Int → Option (Bool)
  | 0, _, _, _, _, _, _, _, _, _, _, _, _, _, _, _, _ => none
  | k + 1, x1, x5, x27, x305000, x305001, x305002, x305003, x305004, x305005, x305006, x305007, x305008, x305009, x305010, x305011, x305012 => if x27 = true then (some x5) else ((head_From.f k x1).bind fun bt306 => (if bt306.2.2.2.2.2.2.2.2.2.2.2.2.2 = 0 then ((head_Bytes.f k bt306.1 bt306.2.1 bt306.2.2.1 bt306.2.2.2.1 bt306.2.2.2.2.1 bt306.2.2.2.2.2.1 bt306.2.2.2.2.2.2.1 bt306.2.2.2.2.2.2.2.1 bt306.2.2.2.2.2.2.2.2.1 bt306.2.2.2.2.2.2.2.2.2.1 bt306.2.2.2.2.2.2.2.2.2.2.1 bt306.2.2.2.2.2.2.2.2.2.2.2.1 bt306.2.2.2.2.2.2.2.2.2.2.2.2.1).bind fun bt323 => ((head_Length.f (bt306.2.2.2.1.length : Int)).bind fun bt327 => (if bt323.2 = 0 then (if bt327.2 = 0 then (if (strOfNums bt323.1).toList = (strOfNums x1).toList then (if (x1.length : Int) = bt327.1 then ((head_Check.f k bt306.1 bt306.2.1 bt306.2.2.1 bt306.2.2.2.1 bt306.2.2.2.2.1 bt306.2.2.2.2.2.1 bt306.2.2.2.2.2.2.1 bt306.2.2.2.2.2.2.2.1 bt306.2.2.2.2.2.2.2.2.1 bt306.2.2.2.2.2.2.2.2.2.1 bt306.2.2.2.2.2.2.2.2.2.2.1 bt306.2.2.2.2.2.2.2.2.2.2.2.1 bt306.2.2.2.2.2.2.2.2.2.2.2.2.1).bind fun t329 => (if t329 = 0 then (medlarlaw16_HeadBack.j1 k x5 x305000 x305001 x305002 x305003 x305004 x305005 x305006 x305007 x305008 x305009 x305010 x305011 x305012) else (some false))) else (some false)) else (some false)) else (some false)) else (some false)))) else (medlarlaw16_HeadBack.j1 k x5 x305000 x305001 x305002 x305003 x305004 x305005 x305006 x305007 x305008 x305009 x305010 x305011 x305012)))
def medlarlaw16_HeadBack.j1 : Nat → Bool → Int → Int → Int → List (S41) → Bool → Bool → Int → Int → Int → Int → Int → Int → Int → Option (Bool)
  | 0, _, _, _, _, _, _, _, _, _, _, _, _, _, _ => none
  | k + 1, x5, x305000, x305001, x305002, x305003, x305004, x305005, x305006, x305007, x305008, x305009, x305010, x305011, x305012 => (head_Bytes.f k x305000 x305001 x305002 x305003 x305004 x305005 x305006 x305007 x305008 x305009 x305010 x305011 x305012).bind fun bt330 => (if bt330.2 = 0 then ((head_From.f k bt330.1).bind fun bt334 => ((head_Length.f (x305003.length : Int)).bind fun bt351 => (if x5 = true then (if bt334.2.2.2.2.2.2.2.2.2.2.2.2.2 = 0 then (if bt351.2 = 0 then ((head_Same.f k bt334.1 bt334.2.1 bt334.2.2.1 bt334.2.2.2.1 bt334.2.2.2.2.1 bt334.2.2.2.2.2.1 bt334.2.2.2.2.2.2.1 bt334.2.2.2.2.2.2.2.1 bt334.2.2.2.2.2.2.2.2.1 bt334.2.2.2.2.2.2.2.2.2.1 bt334.2.2.2.2.2.2.2.2.2.2.1 bt334.2.2.2.2.2.2.2.2.2.2.2.1 bt334.2.2.2.2.2.2.2.2.2.2.2.2.1 x305000 x305001 x305002 x305003 x305004 x305005 x305006 x305007 x305008 x305009 x305010 x305011 x305012).bind fun t353 => (if t353 = true then (some ((bt330.1.length : Int) == bt351.1)) else (some false))) else (some false)) else (some false)) else (some false)))) else (if x5 = true then ((head_Check.f k x305000 x305001 x305002 x305003 x305004 x305005 x305006 x305007 x305008 x305009 x305010 x305011 x305012).bind fun t354 => (if t354 = bt330.2 then (some ((bt330.1.length : Int) == 0)) else (some false))) else (some false)))
end
def medlarlaw16_HeadBack.f (k : Nat) (a0_0 : Int) (a0_1 : Int) (a0_2 : Int) (l0_3 : List (S41)) (a0_4 : Bool) (a0_5 : Bool) (a0_6 : Int) (a0_7 : Int) (a0_8 : Int) (a0_9 : Int) (a0_10 : Int) (a0_11 : Int) (a0_12 : Int) (l1 : List Int) : Option (Bool) := (medlarlaw16_live.f k).bind fun t305 => (if (l0_3.length : Int) > 200 then (medlarlaw16_HeadBack.j0 k l1 t305 true a0_0 a0_1 a0_2 l0_3 a0_4 a0_5 a0_6 a0_7 a0_8 a0_9 a0_10 a0_11 a0_12) else (medlarlaw16_HeadBack.j0 k l1 t305 (decide ((l1.length : Int) > 9000)) a0_0 a0_1 a0_2 l0_3 a0_4 a0_5 a0_6 a0_7 a0_8 a0_9 a0_10 a0_11 a0_12))
theorem medlarlaw16_HeadBack.mono_l : ∀ k, (∀ y0 y1 y2 y3 y4 y5 y6 y7 y8 y9 y10 y11 y12 y13 y14 y15, LeO (medlarlaw16_HeadBack.j0 k y0 y1 y2 y3 y4 y5 y6 y7 y8 y9 y10 y11 y12 y13 y14 y15) (medlarlaw16_HeadBack.j0 (k + 1) y0 y1 y2 y3 y4 y5 y6 y7 y8 y9 y10 y11 y12 y13 y14 y15)) ∧ (∀ y0 y1 y2 y3 y4 y5 y6 y7 y8 y9 y10 y11 y12 y13, LeO (medlarlaw16_HeadBack.j1 k y0 y1 y2 y3 y4 y5 y6 y7 y8 y9 y10 y11 y12 y13) (medlarlaw16_HeadBack.j1 (k + 1) y0 y1 y2 y3 y4 y5 y6 y7 y8 y9 y10 y11 y12 y13))
  | 0 => ⟨fun _ _ _ _ _ _ _ _ _ _ _ _ _ _ _ _ r h => by simp [medlarlaw16_HeadBack.j0] at h, fun _ _ _ _ _ _ _ _ _ _ _ _ _ _ r h => by simp [medlarlaw16_HeadBack.j1] at h⟩
  | k + 1 => by
   obtain ⟨ih0, ih1⟩ := medlarlaw16_HeadBack.mono_l k
   refine ⟨?_, ?_⟩
   ·intro y0 y1 y2 y3 y4 y5 y6 y7 y8 y9 y10 y11 y12 y13 y14 y15
    unfold medlarlaw16_HeadBack.j0
    repeat' first
    | (with_reducible exact ih0 _ _ _ _ _ _ _ _ _ _ _ _ _ _ _ _)
    | (with_reducible exact ih1 _ _ _ _ _ _ _ _ _ _ _ _ _ _)
    | (with_reducible exact head_Bytes.mono _ _ _ _ _ _ _ _ _ _ _ _ _ _)
    | (with_reducible exact head_Check.mono _ _ _ _ _ _ _ _ _ _ _ _ _ _)
    | (with_reducible exact head_From.mono _ _)
    | (with_reducible exact head_Same.mono _ _ _ _ _ _ _ _ _ _ _ _ _ _ _ _ _ _ _ _ _ _ _ _ _ _ _)
    | (with_reducible exact medlarlaw16_live.mono _)
    | (with_reducible exact LeO.refl _)
    | (with_reducible exact LeO.none _)
    | (with_reducible refine LeO.ite ?_ ?_)
    | (with_reducible refine LeO.bind ?_ (fun _ => ?_))
    | exact ih0 _ _ _ _ _ _ _ _ _ _ _ _ _ _ _ _
    | exact ih1 _ _ _ _ _ _ _ _ _ _ _ _ _ _
    | exact head_Bytes.mono _ _ _ _ _ _ _ _ _ _ _ _ _ _
    | exact head_Check.mono _ _ _ _ _ _ _ _ _ _ _ _ _ _
    | exact head_From.mono _ _
    | exact head_Same.mono _ _ _ _ _ _ _ _ _ _ _ _ _ _ _ _ _ _ _ _ _ _ _ _ _ _ _
    | exact medlarlaw16_live.mono _
    | exact LeO.none _
    | refine LeO.ite ?_ ?_
    | refine LeO.bind ?_ (fun _ => ?_)
   ·intro y0 y1 y2 y3 y4 y5 y6 y7 y8 y9 y10 y11 y12 y13
    unfold medlarlaw16_HeadBack.j1
    repeat' first
    | (with_reducible exact ih0 _ _ _ _ _ _ _ _ _ _ _ _ _ _ _ _)
    | (with_reducible exact ih1 _ _ _ _ _ _ _ _ _ _ _ _ _ _)
    | (with_reducible exact head_Bytes.mono _ _ _ _ _ _ _ _ _ _ _ _ _ _)
    | (with_reducible exact head_Check.mono _ _ _ _ _ _ _ _ _ _ _ _ _ _)
    | (with_reducible exact head_From.mono _ _)
    | (with_reducible exact head_Same.mono _ _ _ _ _ _ _ _ _ _ _ _ _ _ _ _ _ _ _ _ _ _ _ _ _ _ _)
    | (with_reducible exact medlarlaw16_live.mono _)
    | (with_reducible exact LeO.refl _)
    | (with_reducible exact LeO.none _)
    | (with_reducible refine LeO.ite ?_ ?_)
    | (with_reducible refine LeO.bind ?_ (fun _ => ?_))
    | exact ih0 _ _ _ _ _ _ _ _ _ _ _ _ _ _ _ _
    | exact ih1 _ _ _ _ _ _ _ _ _ _ _ _ _ _
    | exact head_Bytes.mono _ _ _ _ _ _ _ _ _ _ _ _ _ _
    | exact head_Check.mono _ _ _ _ _ _ _ _ _ _ _ _ _ _
    | exact head_From.mono _ _
    | exact head_Same.mono _ _ _ _ _ _ _ _ _ _ _ _ _ _ _ _ _ _ _ _ _ _ _ _ _ _ _
    | exact medlarlaw16_live.mono _
    | exact LeO.none _
    | refine LeO.ite ?_ ?_
    | refine LeO.bind ?_ (fun _ => ?_)
theorem medlarlaw16_HeadBack.mono : ∀ a0 a1 a2 a3 a4 a5 a6 a7 a8 a9 a10 a11 a12 a13 k, LeO (medlarlaw16_HeadBack.f k a0 a1 a2 a3 a4 a5 a6 a7 a8 a9 a10 a11 a12 a13) (medlarlaw16_HeadBack.f (k + 1) a0 a1 a2 a3 a4 a5 a6 a7 a8 a9 a10 a11 a12 a13) := by
  intro a0 a1 a2 a3 a4 a5 a6 a7 a8 a9 a10 a11 a12 a13 k
  obtain ⟨ih0, ih1⟩ := medlarlaw16_HeadBack.mono_l k
  unfold medlarlaw16_HeadBack.f
  repeat' first
    | (with_reducible exact ih0 _ _ _ _ _ _ _ _ _ _ _ _ _ _ _ _)
    | (with_reducible exact ih1 _ _ _ _ _ _ _ _ _ _ _ _ _ _)
    | (with_reducible exact head_Bytes.mono _ _ _ _ _ _ _ _ _ _ _ _ _ _)
    | (with_reducible exact head_Check.mono _ _ _ _ _ _ _ _ _ _ _ _ _ _)
    | (with_reducible exact head_From.mono _ _)
    | (with_reducible exact head_Same.mono _ _ _ _ _ _ _ _ _ _ _ _ _ _ _ _ _ _ _ _ _ _ _ _ _ _ _)
    | (with_reducible exact medlarlaw16_live.mono _)
    | (with_reducible exact LeO.refl _)
    | (with_reducible exact LeO.none _)
    | (with_reducible refine LeO.ite ?_ ?_)
    | (with_reducible refine LeO.bind ?_ (fun _ => ?_))
    | exact ih0 _ _ _ _ _ _ _ _ _ _ _ _ _ _ _ _
    | exact ih1 _ _ _ _ _ _ _ _ _ _ _ _ _ _
    | exact head_Bytes.mono _ _ _ _ _ _ _ _ _ _ _ _ _ _
    | exact head_Check.mono _ _ _ _ _ _ _ _ _ _ _ _ _ _
    | exact head_From.mono _ _
    | exact head_Same.mono _ _ _ _ _ _ _ _ _ _ _ _ _ _ _ _ _ _ _ _ _ _ _ _ _ _ _
    | exact medlarlaw16_live.mono _
    | exact LeO.none _
    | refine LeO.ite ?_ ?_
    | refine LeO.bind ?_ (fun _ => ?_)
set_option maxHeartbeats 8000000 in
set_option maxRecDepth 100000 in
theorem medlarlaw16_HeadBack.calls (k : Nat) (a0_0 : Int) (a0_1 : Int) (a0_2 : Int) (A0_3 : Option Addr) (c0_3 : Nat) (l0_3 : List (S41)) (a0_4 : Bool) (a0_5 : Bool) (a0_6 : Int) (a0_7 : Int) (a0_8 : Int) (a0_9 : Int) (a0_10 : Int) (a0_11 : Int) (a0_12 : Int) (A1 : Option Addr) (c1 : Nat) (l1 : List Int) (r : Bool) (w : World) (hr0_3 : Kd.C k41 w A0_3 l0_3.length l0_3) (hc0_3 : l0_3.length ≤ c0_3) (hr1 : Kd.C (Kd.int .u8) w A1 l1.length l1) (hc1 : l1.length ≤ c1) (h : medlarlaw16_HeadBack.f k a0_0 a0_1 a0_2 l0_3 a0_4 a0_5 a0_6 a0_7 a0_8 a0_9 a0_10 a0_11 a0_12 l1 = some r) (hT : Aside0 (r = true)) :
   Calls Try.prog 6 #[.agg #[.int .i64 a0_0, .int .i64 a0_1, .int .i64 a0_2, .slice A0_3 l0_3.length c0_3, .bool a0_4, .bool a0_5, .int .u64 a0_6, .int .u64 a0_7, .int .u64 a0_8, .int .u64 a0_9, .int .u64 a0_10, .int .u64 a0_11, .int .i64 a0_12], .slice A1 l1.length c1] w fun e w' => e = .returned (.bool r) ∧ Below w.heap.size w w' := by
  have hu31 := Try.underlying31
  have HR0_3 := ak_ hr0_3
  have HC0_3 := ak_ hc0_3
  clear hr0_3 hc0_3
  have HR1 := ak_ hr1
  have HC1 := ak_ hc1
  clear hr1 hc1
  have HB := ak_ (Below.refl w.heap.size w)
  have H : ((medlarlaw16_live.f k).bind fun t305 => (if (l0_3.length : Int) > 200 then (medlarlaw16_HeadBack.j0 k l1 t305 true a0_0 a0_1 a0_2 l0_3 a0_4 a0_5 a0_6 a0_7 a0_8 a0_9 a0_10 a0_11 a0_12) else (medlarlaw16_HeadBack.j0 k l1 t305 (decide ((l1.length : Int) > 9000)) a0_0 a0_1 a0_2 l0_3 a0_4 a0_5 a0_6 a0_7 a0_8 a0_9 a0_10 a0_11 a0_12))) = some r := h
  clear h
  replace H := Option.bind_eq_some_iff.mp H
  obtain ⟨t305, A30, H⟩ := H
  replace H : (if (l0_3.length : Int) > 200 then (medlarlaw16_HeadBack.j0 k l1 t305 true a0_0 a0_1 a0_2 l0_3 a0_4 a0_5 a0_6 a0_7 a0_8 a0_9 a0_10 a0_11 a0_12) else (medlarlaw16_HeadBack.j0 k l1 t305 (decide ((l1.length : Int) > 9000)) a0_0 a0_1 a0_2 l0_3 a0_4 a0_5 a0_6 a0_7 a0_8 a0_9 a0_10 a0_11 a0_12)) = some r := H
  have A3 := ak_ A30
  clear A30
  have HC4 := ak_ H
  clear H
  go_enter Try.func6, Try.ntmps6
  go_upto_region 2 with (first | ((with_reducible refine gate_dst (N := 2) rfl ?_); (try (refine gate_guard (by rfl) ?_; dsimp only)); refine box_event ?hg (N := 2) ?hd (cs := #[.int .i64 a0_0, .int .i64 a0_1, .int .i64 a0_2, .slice A0_3 l0_3.length c0_3, .bool a0_4, .bool a0_5, .int .u64 a0_6, .int .u64 a0_7, .int .u64 a0_8, .int .u64 a0_9, .int .u64 a0_10, .int .u64 a0_11, .int .i64 a0_12]) (t := 31) ?hr ?_; (case hd => rfl); (case hg => rfl); (case hr => first | (go_simp; done) | (go_simp; rfl)); intro gb304 hg w5 hbox hb; have n0_ := ak_ (bt_ (by repeat (first | (with_reducible first | exact HB.out | apply ba_ | apply bn_ | apply bd_) | exact HB.out)) hb); have n1_ := ak_ (hbox); have n2_ := ak_ ((by rw [hg]; exact (bz_ (by repeat (first | (with_reducible first | exact HB.out | apply ba_ | apply bn_ | apply bd_) | exact HB.out))) : w.heap.size ≤ gb304)); have n3_ := ak_ ((by rw [hg]; exact (bz_ (by repeat (first | (with_reducible first | exact HB.out | apply ba_ | apply bn_ | apply bd_) | exact HB.out))) : w.heap.size ≤ gb304)); clear HB; have HB := n0_; have BK304 := n1_; have GW304 := n2_; have GE304 := n3_; clear n0_ n1_ n2_ n3_; clear hb hbox hg) | ((with_reducible refine gate_callee (f := 15) rfl ?_); refine goesL_ (some 18) rfl rfl Try.func15 (by kernel_rfl) rfl #[] rfl (by (try simp only [map_toArray, map_cons, map_nil]); first | done | rfl | (simp only [length_drop, length_take]; rfl)) ?_; (with_reducible refine (medlarlaw16_live.calls k  t305 _ A3.out).mono ?_); rintro e w6 ⟨rfl, hb⟩; refine ⟨_, rfl, ?_⟩; have n0_ := ak_ (kb_ (g := gb304) (o := .cells #[.int .i64 a0_0, .int .i64 a0_1, .int .i64 a0_2, .slice A0_3 l0_3.length c0_3, .bool a0_4, .bool a0_5, .int .u64 a0_6, .int .u64 a0_7, .int .u64 a0_8, .int .u64 a0_9, .int .u64 a0_10, .int .u64 a0_11, .int .i64 a0_12] 31 (0, 0)) (by (with_reducible repeat (first | refine kn_ ?_ _ | refine kd_ ?_ | refine ka_ ?_ _)); exact BK304.out) hb); have n1_ := ak_ (bt_ (by repeat (first | (with_reducible first | exact HB.out | apply ba_ | apply bn_ | apply bd_ | refine below_set ?_ GE304.out) | exact HB.out)) hb); clear BK304; clear HB; have BK304 := n0_; have HB := n1_; clear n0_ n1_; (try clear hb); (try clear hb2); (try clear hk); (try clear hi)))
  (try simp only [Act.put, setIfInBounds_toArray, set_cons_zero, set_cons_succ])
  go_cut [27] (fun v27 wc => ∃ (kq : Nat) (x27_3 : Bool), v27 = .bool x27_3 ∧ Aside0 (medlarlaw16_HeadBack.j0 kq l1 t305 x27_3 a0_0 a0_1 a0_2 l0_3 a0_4 a0_5 a0_6 a0_7 a0_8 a0_9 a0_10 a0_11 a0_12 = some r) ∧ Aside0 (kq ≤ k) ∧ Aside0 (wc.heap[gb304]? = some (.cells #[.int .i64 a0_0, .int .i64 a0_1, .int .i64 a0_2, (.slice A0_3 l0_3.length c0_3), .bool a0_4, .bool a0_5, .int .u64 a0_6, .int .u64 a0_7, .int .u64 a0_8, .int .u64 a0_9, .int .u64 a0_10, .int .u64 a0_11, .int .i64 a0_12] 31 (0, 0))) ∧ Aside0 (Below w.heap.size w wc))
  case first =>
   have H := HC4.out
   clear HC4
   by_cases c7 : (l0_3.length : Int) > 200
   ·rw [if_pos c7] at H
    have c7b0 : decide (200 < (l0_3.length : Int)) = true := decide_eq_true c7
    have c7b1 : decide (200 < l0_3.length) = true := decide_eq_true (by omega)
    clear c7
    (first | rw [c7b0] | (simp only [i64_w, i32_w]; rw [c7b0]) | skip)
    have H' := ak_ H
    clear H
    have hcz8_0 : w6.cell? ⟨gb304, 0, none⟩ = some (.int .i64 a0_0) := (kc_ BK304.out 0).trans rfl
    have hcz8_1 : w6.cell? ⟨gb304, 1, none⟩ = some (.int .i64 a0_1) := (kc_ BK304.out 1).trans rfl
    have hcz8_2 : w6.cell? ⟨gb304, 2, none⟩ = some (.int .i64 a0_2) := (kc_ BK304.out 2).trans rfl
    have hcz8_3 : w6.cell? ⟨gb304, 3, none⟩ = some (.slice A0_3 l0_3.length c0_3) := (kc_ BK304.out 3).trans rfl
    have hcz8_4 : w6.cell? ⟨gb304, 4, none⟩ = some (.bool a0_4) := (kc_ BK304.out 4).trans rfl
    have hcz8_5 : w6.cell? ⟨gb304, 5, none⟩ = some (.bool a0_5) := (kc_ BK304.out 5).trans rfl
    have hcz8_6 : w6.cell? ⟨gb304, 6, none⟩ = some (.int .u64 a0_6) := (kc_ BK304.out 6).trans rfl
    have hcz8_7 : w6.cell? ⟨gb304, 7, none⟩ = some (.int .u64 a0_7) := (kc_ BK304.out 7).trans rfl
    have hcz8_8 : w6.cell? ⟨gb304, 8, none⟩ = some (.int .u64 a0_8) := (kc_ BK304.out 8).trans rfl
    have hcz8_9 : w6.cell? ⟨gb304, 9, none⟩ = some (.int .u64 a0_9) := (kc_ BK304.out 9).trans rfl
    have hcz8_10 : w6.cell? ⟨gb304, 10, none⟩ = some (.int .u64 a0_10) := (kc_ BK304.out 10).trans rfl
    have hcz8_11 : w6.cell? ⟨gb304, 11, none⟩ = some (.int .u64 a0_11) := (kc_ BK304.out 11).trans rfl
    have hcz8_12 : w6.cell? ⟨gb304, 12, none⟩ = some (.int .i64 a0_12) := (kc_ BK304.out 12).trans rfl
    have hfz8_0 := kf_ BK304.out 0
    have hfz8_1 := kf_ BK304.out 1
    have hfz8_2 := kf_ BK304.out 2
    have hfz8_3 := kf_ BK304.out 3
    have hfz8_4 := kf_ BK304.out 4
    have hfz8_5 := kf_ BK304.out 5
    have hfz8_6 := kf_ BK304.out 6
    have hfz8_7 := kf_ BK304.out 7
    have hfz8_8 := kf_ BK304.out 8
    have hfz8_9 := kf_ BK304.out 9
    have hfz8_10 := kf_ BK304.out 10
    have hfz8_11 := kf_ BK304.out 11
    have hfz8_12 := kf_ BK304.out 12
    go_wp2
    go_meet
    case rel => exact ⟨_, (true), (by first | rfl | (simp; done) | (simp [*]; done)), H', ⟨by first | omega | exact Nat.le_refl _⟩, ⟨by (with_reducible repeat (first | refine kn_ ?_ _ | refine kd_ ?_ | refine ka_ ?_ _)); exact BK304.out⟩, ⟨by repeat (first | (with_reducible first | exact HB.out | apply ba_ | apply bn_ | apply bd_ | refine below_set ?_ GE304.out) | exact HB.out)⟩⟩
   ·rw [if_neg c7] at H
    have c7b0 : decide (200 < (l0_3.length : Int)) = false := decide_eq_false c7
    have c7b1 : decide (200 < l0_3.length) = false := decide_eq_false (by omega)
    clear c7
    (first | rw [c7b0] | (simp only [i64_w, i32_w]; rw [c7b0]) | skip)
    have H' := ak_ H
    clear H
    have hcz9_0 : w6.cell? ⟨gb304, 0, none⟩ = some (.int .i64 a0_0) := (kc_ BK304.out 0).trans rfl
    have hcz9_1 : w6.cell? ⟨gb304, 1, none⟩ = some (.int .i64 a0_1) := (kc_ BK304.out 1).trans rfl
    have hcz9_2 : w6.cell? ⟨gb304, 2, none⟩ = some (.int .i64 a0_2) := (kc_ BK304.out 2).trans rfl
    have hcz9_3 : w6.cell? ⟨gb304, 3, none⟩ = some (.slice A0_3 l0_3.length c0_3) := (kc_ BK304.out 3).trans rfl
    have hcz9_4 : w6.cell? ⟨gb304, 4, none⟩ = some (.bool a0_4) := (kc_ BK304.out 4).trans rfl
    have hcz9_5 : w6.cell? ⟨gb304, 5, none⟩ = some (.bool a0_5) := (kc_ BK304.out 5).trans rfl
    have hcz9_6 : w6.cell? ⟨gb304, 6, none⟩ = some (.int .u64 a0_6) := (kc_ BK304.out 6).trans rfl
    have hcz9_7 : w6.cell? ⟨gb304, 7, none⟩ = some (.int .u64 a0_7) := (kc_ BK304.out 7).trans rfl
    have hcz9_8 : w6.cell? ⟨gb304, 8, none⟩ = some (.int .u64 a0_8) := (kc_ BK304.out 8).trans rfl
    have hcz9_9 : w6.cell? ⟨gb304, 9, none⟩ = some (.int .u64 a0_9) := (kc_ BK304.out 9).trans rfl
    have hcz9_10 : w6.cell? ⟨gb304, 10, none⟩ = some (.int .u64 a0_10) := (kc_ BK304.out 10).trans rfl
    have hcz9_11 : w6.cell? ⟨gb304, 11, none⟩ = some (.int .u64 a0_11) := (kc_ BK304.out 11).trans rfl
    have hcz9_12 : w6.cell? ⟨gb304, 12, none⟩ = some (.int .i64 a0_12) := (kc_ BK304.out 12).trans rfl
    have hfz9_0 := kf_ BK304.out 0
    have hfz9_1 := kf_ BK304.out 1
    have hfz9_2 := kf_ BK304.out 2
    have hfz9_3 := kf_ BK304.out 3
    have hfz9_4 := kf_ BK304.out 4
    have hfz9_5 := kf_ BK304.out 5
    have hfz9_6 := kf_ BK304.out 6
    have hfz9_7 := kf_ BK304.out 7
    have hfz9_8 := kf_ BK304.out 8
    have hfz9_9 := kf_ BK304.out 9
    have hfz9_10 := kf_ BK304.out 10
    have hfz9_11 := kf_ BK304.out 11
    have hfz9_12 := kf_ BK304.out 12
    go_wp2
    go_meet
    case rel => exact ⟨_, (decide ((l1.length : Int) > 9000)), (by first | rfl | (simp; done) | (simp [*]; done)), H', ⟨by first | omega | exact Nat.le_refl _⟩, ⟨by (with_reducible repeat (first | refine kn_ ?_ _ | refine kd_ ?_ | refine ka_ ?_ _)); exact BK304.out⟩, ⟨by repeat (first | (with_reducible first | exact HB.out | apply ba_ | apply bn_ | apply bd_ | refine below_set ?_ GE304.out) | exact HB.out)⟩⟩
  case rest =>
   clear HC4
   try clear c1
   try clear p2
   try clear c6
   try clear c7
   try clear c7b0
   try clear c7b1
   try clear hcz8_0
   try clear hcz8_1
   try clear hcz8_10
   try clear hcz8_11
   try clear hcz8_12
   try clear hcz8_2
   try clear hcz8_3
   try clear hcz8_4
   try clear hcz8_5
   try clear hcz8_6
   try clear hcz8_7
   try clear hcz8_8
   try clear hcz8_9
   try clear hcz9_0
   try clear hcz9_1
   try clear hcz9_10
   try clear hcz9_11
   try clear hcz9_12
   try clear hcz9_2
   try clear hcz9_3
   try clear hcz9_4
   try clear hcz9_5
   try clear hcz9_6
   try clear hcz9_7
   try clear hcz9_8
   try clear hcz9_9
   try clear hfz8_0
   try clear hfz8_1
   try clear hfz8_10
   try clear hfz8_11
   try clear hfz8_12
   try clear hfz8_2
   try clear hfz8_3
   try clear hfz8_4
   try clear hfz8_5
   try clear hfz8_6
   try clear hfz8_7
   try clear hfz8_8
   try clear hfz8_9
   try clear hfz9_0
   try clear hfz9_1
   try clear hfz9_10
   try clear hfz9_11
   try clear hfz9_12
   try clear hfz9_2
   try clear hfz9_3
   try clear hfz9_4
   try clear hfz9_5
   try clear hfz9_6
   try clear hfz9_7
   try clear hfz9_8
   try clear hfz9_9
   obtain ⟨kq, x27_3, rfl, HA, HJ3, BK304, HB⟩ := hcut
   cases kq with
   | zero => exact absurd HA.out (by simp [medlarlaw16_HeadBack.j0])
   | succ kj3 =>
    have H := HA.out
    clear HA
    simp only [medlarlaw16_HeadBack.j0] at H
    by_cases c10 : x27_3 = true
    ·subst c10
     have H1 : (some t305) = some r := by rw [if_pos rfl] at H; exact H
     clear H
     have H := H1
     clear H1
     obtain rfl := Option.some.inj H
     go_wp2
     go_ret
     exact ⟨by first | rfl | (simp <;> rfl) | (simp [*] <;> rfl), by repeat (first | (with_reducible first | exact HB.out | apply ba_ | apply bn_ | apply bd_ | refine below_set ?_ GE304.out) | exact HB.out)⟩
    ·replace c10 := Bool.eq_false_iff.mpr c10
     subst c10
     have H1 : ((head_From.f kj3 l1).bind fun bt306 => (if bt306.2.2.2.2.2.2.2.2.2.2.2.2.2 = 0 then ((head_Bytes.f kj3 bt306.1 bt306.2.1 bt306.2.2.1 bt306.2.2.2.1 bt306.2.2.2.2.1 bt306.2.2.2.2.2.1 bt306.2.2.2.2.2.2.1 bt306.2.2.2.2.2.2.2.1 bt306.2.2.2.2.2.2.2.2.1 bt306.2.2.2.2.2.2.2.2.2.1 bt306.2.2.2.2.2.2.2.2.2.2.1 bt306.2.2.2.2.2.2.2.2.2.2.2.1 bt306.2.2.2.2.2.2.2.2.2.2.2.2.1).bind fun bt323 => ((head_Length.f (bt306.2.2.2.1.length : Int)).bind fun bt327 => (if bt323.2 = 0 then (if bt327.2 = 0 then (if (strOfNums bt323.1).toList = (strOfNums l1).toList then (if (l1.length : Int) = bt327.1 then ((head_Check.f kj3 bt306.1 bt306.2.1 bt306.2.2.1 bt306.2.2.2.1 bt306.2.2.2.2.1 bt306.2.2.2.2.2.1 bt306.2.2.2.2.2.2.1 bt306.2.2.2.2.2.2.2.1 bt306.2.2.2.2.2.2.2.2.1 bt306.2.2.2.2.2.2.2.2.2.1 bt306.2.2.2.2.2.2.2.2.2.2.1 bt306.2.2.2.2.2.2.2.2.2.2.2.1 bt306.2.2.2.2.2.2.2.2.2.2.2.2.1).bind fun t329 => (if t329 = 0 then (medlarlaw16_HeadBack.j1 kj3 t305 a0_0 a0_1 a0_2 l0_3 a0_4 a0_5 a0_6 a0_7 a0_8 a0_9 a0_10 a0_11 a0_12) else (some false))) else (some false)) else (some false)) else (some false)) else (some false)))) else (medlarlaw16_HeadBack.j1 kj3 t305 a0_0 a0_1 a0_2 l0_3 a0_4 a0_5 a0_6 a0_7 a0_8 a0_9 a0_10 a0_11 a0_12))) = some r := by rw [if_neg (show ¬ (false = true) by decide)] at H; exact H
     clear H
     have H := H1
     clear H1
     replace H := Option.bind_eq_some_iff.mp H
     obtain ⟨⟨t306, t307, t308, t309, t312, t313, t314, t315, t316, t317, t318, t319, t320, t321⟩, A110, H⟩ := H
     replace H : (if t321 = 0 then ((head_Bytes.f kj3 t306 t307 t308 t309 t312 t313 t314 t315 t316 t317 t318 t319 t320).bind fun bt323 => ((head_Length.f (t309.length : Int)).bind fun bt327 => (if bt323.2 = 0 then (if bt327.2 = 0 then (if (strOfNums bt323.1).toList = (strOfNums l1).toList then (if (l1.length : Int) = bt327.1 then ((head_Check.f kj3 t306 t307 t308 t309 t312 t313 t314 t315 t316 t317 t318 t319 t320).bind fun t329 => (if t329 = 0 then (medlarlaw16_HeadBack.j1 kj3 t305 a0_0 a0_1 a0_2 l0_3 a0_4 a0_5 a0_6 a0_7 a0_8 a0_9 a0_10 a0_11 a0_12) else (some false))) else (some false)) else (some false)) else (some false)) else (some false)))) else (medlarlaw16_HeadBack.j1 kj3 t305 a0_0 a0_1 a0_2 l0_3 a0_4 a0_5 a0_6 a0_7 a0_8 a0_9 a0_10 a0_11 a0_12)) = some r := H
     have A11 := ak_ A110
     clear A110
     have HC12 := ak_ H
     clear H
     go_upto_if 35 with (first | ((with_reducible refine gate_callee (f := 19) rfl ?_); refine goesL_ (some 31) rfl rfl Try.func19 (by kernel_rfl) rfl #[.slice A1 l1.length c1] rfl (by (try simp only [map_toArray, map_cons, map_nil]); first | done | rfl | (simp only [length_drop, length_take]; rfl)) ?_; (with_reducible refine (head_From.calls kj3 _ _ l1 t306 t307 t308 t309 t312 t313 t314 t315 t316 t317 t318 t319 t320 t321 _ ?side1 ?side2 A11.out).mono ?_); (case side1 => repeat (first | exact (Kd.C_below HR1.out HB.out) | (with_reducible refine Kd.C_alloc ?_ _) | (with_reducible refine Kd.C_drewN ?_ _) | (with_reducible refine Kd.C_drew ?_))); (case side2 => exact HC1.out); rintro e w13 ⟨v310, rfl, ho0, hb⟩; refine ⟨_, rfl, ?_⟩; have n0_ := ak_ (Kd.R_lower ho0 (bz_ (by repeat (first | (with_reducible first | exact HB.out | apply ba_ | apply bn_ | apply bd_ | refine below_set ?_ GE304.out) | exact HB.out)))); have n1_ := ak_ (kb_ (g := gb304) (o := .cells #[.int .i64 a0_0, .int .i64 a0_1, .int .i64 a0_2, .slice A0_3 l0_3.length c0_3, .bool a0_4, .bool a0_5, .int .u64 a0_6, .int .u64 a0_7, .int .u64 a0_8, .int .u64 a0_9, .int .u64 a0_10, .int .u64 a0_11, .int .i64 a0_12] 31 (0, 0)) (by (with_reducible repeat (first | refine kn_ ?_ _ | refine kd_ ?_ | refine ka_ ?_ _)); exact BK304.out) hb); have n2_ := ak_ (bt_ (by repeat (first | (with_reducible first | exact HB.out | apply ba_ | apply bn_ | apply bd_ | refine below_set ?_ GE304.out) | exact HB.out)) hb); clear BK304; clear HB; have HO311 := n0_; have BK304 := n1_; have HB := n2_; clear n0_ n1_ n2_; (try clear hb); (try clear hb2); (try clear hk); (try clear hi); (try clear ho0)) | ((with_reducible refine gate_dst (N := 6) rfl ?_); (try (refine gate_guard (by rfl) ?_; dsimp only)); refine box_event ?hg (N := 6) ?hd (cs := #[.int .i64 0, .int .i64 0, .int .i64 0, .slice none 0 0, .bool false, .bool false, .int .u64 0, .int .u64 0, .int .u64 0, .int .u64 0, .int .u64 0, .int .u64 0, .int .i64 0]) (t := 31) ?hr ?_; (case hd => rfl); (case hg => rfl); (case hr => first | (go_simp; done) | (go_simp; rfl)); intro gb322 hg w14 hbox hb; have n0_ := ak_ (Kd.R_below (by (with_reducible repeat (first | apply Kd.R_alloc | apply Kd.R_drewN | apply Kd.R_drew)); exact HO311.out) hb); have n1_ := ak_ (kb_ (g := gb304) (o := .cells #[.int .i64 a0_0, .int .i64 a0_1, .int .i64 a0_2, .slice A0_3 l0_3.length c0_3, .bool a0_4, .bool a0_5, .int .u64 a0_6, .int .u64 a0_7, .int .u64 a0_8, .int .u64 a0_9, .int .u64 a0_10, .int .u64 a0_11, .int .i64 a0_12] 31 (0, 0)) (by (with_reducible repeat (first | refine kn_ ?_ _ | refine kd_ ?_ | refine ka_ ?_ _)); exact BK304.out) hb); have n2_ := ak_ (bt_ (by repeat (first | (with_reducible first | exact HB.out | apply ba_ | apply bn_ | apply bd_ | refine below_set ?_ GE304.out) | exact HB.out)) hb); have n3_ := ak_ (hbox); have n4_ := ak_ ((by rw [hg]; exact (bz_ (by repeat (first | (with_reducible first | exact HB.out | apply ba_ | apply bn_ | apply bd_ | refine below_set ?_ GE304.out) | exact HB.out))) : w.heap.size ≤ gb322)); have n5_ := ak_ ((by rw [hg]; exact (bz_ (by repeat (first | (with_reducible first | exact HB.out | apply ba_ | apply bn_ | apply bd_ | refine below_set ?_ GE304.out) | exact HB.out))) : w.heap.size ≤ gb322)); have n6_ := ak_ ((by rw [hg]; exact Nat.ne_of_lt (blk_lt (g := gb304) (o := .cells #[.int .i64 a0_0, .int .i64 a0_1, .int .i64 a0_2, .slice A0_3 l0_3.length c0_3, .bool a0_4, .bool a0_5, .int .u64 a0_6, .int .u64 a0_7, .int .u64 a0_8, .int .u64 a0_9, .int .u64 a0_10, .int .u64 a0_11, .int .i64 a0_12] 31 (0, 0)) (by (with_reducible repeat (first | refine kn_ ?_ _ | refine kd_ ?_ | refine ka_ ?_ _)); exact BK304.out)) : gb304 ≠ gb322)); have n7_ := ak_ ((by rw [hg]; exact Nat.ne_of_gt (blk_lt (g := gb304) (o := .cells #[.int .i64 a0_0, .int .i64 a0_1, .int .i64 a0_2, .slice A0_3 l0_3.length c0_3, .bool a0_4, .bool a0_5, .int .u64 a0_6, .int .u64 a0_7, .int .u64 a0_8, .int .u64 a0_9, .int .u64 a0_10, .int .u64 a0_11, .int .i64 a0_12] 31 (0, 0)) (by (with_reducible repeat (first | refine kn_ ?_ _ | refine kd_ ?_ | refine ka_ ?_ _)); exact BK304.out)) : gb322 ≠ gb304)); clear HO311; clear BK304; clear HB; have HO311 := n0_; have BK304 := n1_; have HB := n2_; have BK322 := n3_; have GW322 := n4_; have GE322 := n5_; have NB304_322 := n6_; have NB322_304 := n7_; clear n0_ n1_ n2_ n3_ n4_ n5_ n6_ n7_; clear hb hbox hg; have hnb15 := NB322_304.out; have hnc15 := NB304_322.out; have hcz16_0 : w14.cell? ⟨gb322, 0, none⟩ = some (.int .i64 0) := (kc_ BK322.out 0).trans rfl; have hcz16_1 : w14.cell? ⟨gb322, 1, none⟩ = some (.int .i64 0) := (kc_ BK322.out 1).trans rfl; have hcz16_2 : w14.cell? ⟨gb322, 2, none⟩ = some (.int .i64 0) := (kc_ BK322.out 2).trans rfl; have hcz16_3 : w14.cell? ⟨gb322, 3, none⟩ = some (.slice none 0 0) := (kc_ BK322.out 3).trans rfl; have hcz16_4 : w14.cell? ⟨gb322, 4, none⟩ = some (.bool false) := (kc_ BK322.out 4).trans rfl; have hcz16_5 : w14.cell? ⟨gb322, 5, none⟩ = some (.bool false) := (kc_ BK322.out 5).trans rfl; have hcz16_6 : w14.cell? ⟨gb322, 6, none⟩ = some (.int .u64 0) := (kc_ BK322.out 6).trans rfl; have hcz16_7 : w14.cell? ⟨gb322, 7, none⟩ = some (.int .u64 0) := (kc_ BK322.out 7).trans rfl; have hcz16_8 : w14.cell? ⟨gb322, 8, none⟩ = some (.int .u64 0) := (kc_ BK322.out 8).trans rfl; have hcz16_9 : w14.cell? ⟨gb322, 9, none⟩ = some (.int .u64 0) := (kc_ BK322.out 9).trans rfl; have hcz16_10 : w14.cell? ⟨gb322, 10, none⟩ = some (.int .u64 0) := (kc_ BK322.out 10).trans rfl; have hcz16_11 : w14.cell? ⟨gb322, 11, none⟩ = some (.int .u64 0) := (kc_ BK322.out 11).trans rfl; have hcz16_12 : w14.cell? ⟨gb322, 12, none⟩ = some (.int .i64 0) := (kc_ BK322.out 12).trans rfl; have hfz16_0 := kf_ BK322.out 0; have hfz16_1 := kf_ BK322.out 1; have hfz16_2 := kf_ BK322.out 2; have hfz16_3 := kf_ BK322.out 3; have hfz16_4 := kf_ BK322.out 4; have hfz16_5 := kf_ BK322.out 5; have hfz16_6 := kf_ BK322.out 6; have hfz16_7 := kf_ BK322.out 7; have hfz16_8 := kf_ BK322.out 8; have hfz16_9 := kf_ BK322.out 9; have hfz16_10 := kf_ BK322.out 10; have hfz16_11 := kf_ BK322.out 11; have hfz16_12 := kf_ BK322.out 12; obtain ⟨Ao17, co17, eo17⟩ := Kd.R_slice HO311.out; subst eo17))
     (try simp only [Act.put, setIfInBounds_toArray, set_cons_zero, set_cons_succ])
     go_cut [] (fun wc => ∃ (kq : Nat), Aside0 (medlarlaw16_HeadBack.j1 kq t305 a0_0 a0_1 a0_2 l0_3 a0_4 a0_5 a0_6 a0_7 a0_8 a0_9 a0_10 a0_11 a0_12 = some r) ∧ Aside0 (kq ≤ kj3) ∧ Aside0 (Kd.R k41 41 wc w.heap.size (fun _ => True) (.slice Ao17 t309.length co17) t309) ∧ Aside0 (wc.heap[gb304]? = some (.cells #[.int .i64 a0_0, .int .i64 a0_1, .int .i64 a0_2, (.slice A0_3 l0_3.length c0_3), .bool a0_4, .bool a0_5, .int .u64 a0_6, .int .u64 a0_7, .int .u64 a0_8, .int .u64 a0_9, .int .u64 a0_10, .int .u64 a0_11, .int .i64 a0_12] 31 (0, 0))) ∧ Aside0 (wc.heap[gb322]? = some (.cells #[.int .i64 t306, .int .i64 t307, .int .i64 t308, (.slice Ao17 t309.length co17), .bool t312, .bool t313, .int .u64 t314, .int .u64 t315, .int .u64 t316, .int .u64 t317, .int .u64 t318, .int .u64 t319, .int .i64 t320] 31 (0, 0))) ∧ Aside0 (Below w.heap.size w wc))
     case first =>
      have H := HC12.out
      clear HC12
      by_cases c18 : t321 = 0
      ·rw [if_pos c18] at H
       have c18b0 : (t321 == 0) = true := beq_iff_eq.mpr c18
       have c18b1 : (t321 != 0) = false := bne_eq_false_iff_eq.mpr c18
       clear c18
       (first | rw [c18b0] | (simp only [i64_w, i32_w]; rw [c18b0]) | skip)
       replace H := Option.bind_eq_some_iff.mp H
       obtain ⟨⟨t323, t326⟩, A190, H⟩ := H
       replace H : ((head_Length.f (t309.length : Int)).bind fun bt327 => (if t326 = 0 then (if bt327.2 = 0 then (if (strOfNums t323).toList = (strOfNums l1).toList then (if (l1.length : Int) = bt327.1 then ((head_Check.f kj3 t306 t307 t308 t309 t312 t313 t314 t315 t316 t317 t318 t319 t320).bind fun t329 => (if t329 = 0 then (medlarlaw16_HeadBack.j1 kj3 t305 a0_0 a0_1 a0_2 l0_3 a0_4 a0_5 a0_6 a0_7 a0_8 a0_9 a0_10 a0_11 a0_12) else (some false))) else (some false)) else (some false)) else (some false)) else (some false))) = some r := H
       have A19 := ak_ A190
       clear A190
       replace H := Option.bind_eq_some_iff.mp H
       obtain ⟨⟨t327, t328⟩, A200, H⟩ := H
       replace H : (if t326 = 0 then (if t328 = 0 then (if (strOfNums t323).toList = (strOfNums l1).toList then (if (l1.length : Int) = t327 then ((head_Check.f kj3 t306 t307 t308 t309 t312 t313 t314 t315 t316 t317 t318 t319 t320).bind fun t329 => (if t329 = 0 then (medlarlaw16_HeadBack.j1 kj3 t305 a0_0 a0_1 a0_2 l0_3 a0_4 a0_5 a0_6 a0_7 a0_8 a0_9 a0_10 a0_11 a0_12) else (some false))) else (some false)) else (some false)) else (some false)) else (some false)) = some r := H
       have A20 := ak_ A200
       clear A200
       by_cases c21 : t326 = 0
       ·rw [if_pos c21] at H
        have c21b0 : (t326 == 0) = true := beq_iff_eq.mpr c21
        have c21b1 : (t326 != 0) = false := bne_eq_false_iff_eq.mpr c21
        clear c21
        by_cases c22 : t328 = 0
        ·rw [if_pos c22] at H
         have c22b0 : (t328 == 0) = true := beq_iff_eq.mpr c22
         have c22b1 : (t328 != 0) = false := bne_eq_false_iff_eq.mpr c22
         clear c22
         by_cases c23 : (strOfNums t323).toList = (strOfNums l1).toList
         ·rw [if_pos c23] at H
          have c23b0 : ((strOfNums t323).toList == (strOfNums l1).toList) = true := beq_iff_eq.mpr c23
          have c23b1 : ((strOfNums t323).toList != (strOfNums l1).toList) = false := bne_eq_false_iff_eq.mpr c23
          clear c23
          by_cases c24 : (l1.length : Int) = t327
          ·rw [if_pos c24] at H
           have c24b0 : ((l1.length : Int) == t327) = true := beq_iff_eq.mpr c24
           have c24b1 : ((l1.length : Int) != t327) = false := bne_eq_false_iff_eq.mpr c24
           clear c24
           replace H := Option.bind_eq_some_iff.mp H
           obtain ⟨t329, A250, H⟩ := H
           replace H : (if t329 = 0 then (medlarlaw16_HeadBack.j1 kj3 t305 a0_0 a0_1 a0_2 l0_3 a0_4 a0_5 a0_6 a0_7 a0_8 a0_9 a0_10 a0_11 a0_12) else (some false)) = some r := H
           have A25 := ak_ A250
           clear A250
           by_cases c26 : t329 = 0
           ·rw [if_pos c26] at H
            have c26b0 : (t329 == 0) = true := beq_iff_eq.mpr c26
            have c26b1 : (t329 != 0) = false := bne_eq_false_iff_eq.mpr c26
            clear c26
            have H' := ak_ H
            clear H
            have hnb27 := NB322_304.out
            have hnc27 := NB304_322.out
            have hcz28_0 : w14.cell? ⟨gb322, 0, none⟩ = some (.int .i64 0) := (kc_ BK322.out 0).trans rfl
            have hcz28_1 : w14.cell? ⟨gb322, 1, none⟩ = some (.int .i64 0) := (kc_ BK322.out 1).trans rfl
            have hcz28_2 : w14.cell? ⟨gb322, 2, none⟩ = some (.int .i64 0) := (kc_ BK322.out 2).trans rfl
            have hcz28_3 : w14.cell? ⟨gb322, 3, none⟩ = some (.slice none 0 0) := (kc_ BK322.out 3).trans rfl
            have hcz28_4 : w14.cell? ⟨gb322, 4, none⟩ = some (.bool false) := (kc_ BK322.out 4).trans rfl
            have hcz28_5 : w14.cell? ⟨gb322, 5, none⟩ = some (.bool false) := (kc_ BK322.out 5).trans rfl
            have hcz28_6 : w14.cell? ⟨gb322, 6, none⟩ = some (.int .u64 0) := (kc_ BK322.out 6).trans rfl
            have hcz28_7 : w14.cell? ⟨gb322, 7, none⟩ = some (.int .u64 0) := (kc_ BK322.out 7).trans rfl
            have hcz28_8 : w14.cell? ⟨gb322, 8, none⟩ = some (.int .u64 0) := (kc_ BK322.out 8).trans rfl
            have hcz28_9 : w14.cell? ⟨gb322, 9, none⟩ = some (.int .u64 0) := (kc_ BK322.out 9).trans rfl
            have hcz28_10 : w14.cell? ⟨gb322, 10, none⟩ = some (.int .u64 0) := (kc_ BK322.out 10).trans rfl
            have hcz28_11 : w14.cell? ⟨gb322, 11, none⟩ = some (.int .u64 0) := (kc_ BK322.out 11).trans rfl
            have hcz28_12 : w14.cell? ⟨gb322, 12, none⟩ = some (.int .i64 0) := (kc_ BK322.out 12).trans rfl
            have hfz28_0 := kf_ BK322.out 0
            have hfz28_1 := kf_ BK322.out 1
            have hfz28_2 := kf_ BK322.out 2
            have hfz28_3 := kf_ BK322.out 3
            have hfz28_4 := kf_ BK322.out 4
            have hfz28_5 := kf_ BK322.out 5
            have hfz28_6 := kf_ BK322.out 6
            have hfz28_7 := kf_ BK322.out 7
            have hfz28_8 := kf_ BK322.out 8
            have hfz28_9 := kf_ BK322.out 9
            have hfz28_10 := kf_ BK322.out 10
            have hfz28_11 := kf_ BK322.out 11
            have hfz28_12 := kf_ BK322.out 12
            go_wp2_with (first | ((with_reducible refine gate_callee (f := 17) rfl ?_); refine goesL_ (some 38) rfl rfl Try.func17 (by kernel_rfl) rfl #[.agg #[.int .i64 t306, .int .i64 t307, .int .i64 t308, .slice Ao17 t309.length co17, .bool t312, .bool t313, .int .u64 t314, .int .u64 t315, .int .u64 t316, .int .u64 t317, .int .u64 t318, .int .u64 t319, .int .i64 t320]] rfl (by (try simp only [map_toArray, map_cons, map_nil]); first | done | rfl | (simp only [length_drop, length_take]; rfl)) ?_; (with_reducible refine (head_Bytes.calls kj3 t306 t307 t308 _ _ t309 t312 t313 t314 t315 t316 t317 t318 t319 t320 t323 t326 _ ?side1 ?side2 A19.out).mono ?_); (case side1 => refine (Kd.R_reads' (e := 41) (base := w.heap.size) (ok := fun k_ => True) (n := t309.length) (c := co17) ?_).2.2; exact (by (with_reducible repeat (first | apply Kd.R_alloc | apply Kd.R_drewN | apply Kd.R_drew)); exact (Kd.R_mono (Kd.R_far (p := ⟨gb322, 12, none⟩) (Kd.R_far (p := ⟨gb322, 11, none⟩) (Kd.R_far (p := ⟨gb322, 10, none⟩) (Kd.R_far (p := ⟨gb322, 9, none⟩) (Kd.R_far (p := ⟨gb322, 8, none⟩) (Kd.R_far (p := ⟨gb322, 7, none⟩) (Kd.R_far (p := ⟨gb322, 6, none⟩) (Kd.R_far (p := ⟨gb322, 5, none⟩) (Kd.R_far (p := ⟨gb322, 4, none⟩) (Kd.R_far (p := ⟨gb322, 3, none⟩) (Kd.R_far (p := ⟨gb322, 2, none⟩) (Kd.R_far (p := ⟨gb322, 1, none⟩) (Kd.R_far (p := ⟨gb322, 0, none⟩) (Kd.R_types HO311.out BK322.out (by decide)) (fun _ hk => hk.2) (.int .i64 t306)) (fun _ hk => hk.2) (.int .i64 t307)) (fun _ hk => hk.2) (.int .i64 t308)) (fun _ hk => hk.2) (.slice Ao17 t309.length co17)) (fun _ hk => hk.2) (.bool t312)) (fun _ hk => hk.2) (.bool t313)) (fun _ hk => hk.2) (.int .u64 t314)) (fun _ hk => hk.2) (.int .u64 t315)) (fun _ hk => hk.2) (.int .u64 t316)) (fun _ hk => hk.2) (.int .u64 t317)) (fun _ hk => hk.2) (.int .u64 t318)) (fun _ hk => hk.2) (.int .u64 t319)) (fun _ hk => hk.2) (.int .i64 t320)) (fun _ h_ => h_.1)))); (case side2 => exact (Kd.R_reads' HO311.out).2.1); rintro e w29 ⟨v324, rfl, ho0, hb⟩; refine ⟨_, rfl, ?_⟩; have n0_ := ak_ (Kd.R_below (by (with_reducible repeat (first | apply Kd.R_alloc | apply Kd.R_drewN | apply Kd.R_drew)); exact (Kd.R_mono (Kd.R_far (p := ⟨gb322, 12, none⟩) (Kd.R_far (p := ⟨gb322, 11, none⟩) (Kd.R_far (p := ⟨gb322, 10, none⟩) (Kd.R_far (p := ⟨gb322, 9, none⟩) (Kd.R_far (p := ⟨gb322, 8, none⟩) (Kd.R_far (p := ⟨gb322, 7, none⟩) (Kd.R_far (p := ⟨gb322, 6, none⟩) (Kd.R_far (p := ⟨gb322, 5, none⟩) (Kd.R_far (p := ⟨gb322, 4, none⟩) (Kd.R_far (p := ⟨gb322, 3, none⟩) (Kd.R_far (p := ⟨gb322, 2, none⟩) (Kd.R_far (p := ⟨gb322, 1, none⟩) (Kd.R_far (p := ⟨gb322, 0, none⟩) (Kd.R_types HO311.out BK322.out (by decide)) (fun _ hk => hk.2) (.int .i64 t306)) (fun _ hk => hk.2) (.int .i64 t307)) (fun _ hk => hk.2) (.int .i64 t308)) (fun _ hk => hk.2) (.slice Ao17 t309.length co17)) (fun _ hk => hk.2) (.bool t312)) (fun _ hk => hk.2) (.bool t313)) (fun _ hk => hk.2) (.int .u64 t314)) (fun _ hk => hk.2) (.int .u64 t315)) (fun _ hk => hk.2) (.int .u64 t316)) (fun _ hk => hk.2) (.int .u64 t317)) (fun _ hk => hk.2) (.int .u64 t318)) (fun _ hk => hk.2) (.int .u64 t319)) (fun _ hk => hk.2) (.int .i64 t320)) (fun _ h_ => h_.1))) hb); have n1_ := ak_ (Kd.R_lower ho0 (bz_ (by repeat (first | (with_reducible first | exact HB.out | apply ba_ | apply bn_ | apply bd_ | refine below_set ?_ GE304.out | refine below_set ?_ GE322.out) | exact HB.out)))); have n2_ := ak_ (kb_ (g := gb304) (o := .cells #[.int .i64 a0_0, .int .i64 a0_1, .int .i64 a0_2, .slice A0_3 l0_3.length c0_3, .bool a0_4, .bool a0_5, .int .u64 a0_6, .int .u64 a0_7, .int .u64 a0_8, .int .u64 a0_9, .int .u64 a0_10, .int .u64 a0_11, .int .i64 a0_12] 31 (0, 0)) (by (with_reducible repeat (first | refine kn_ ?_ _ | refine kd_ ?_ | refine ka_ ?_ _)); refine blk_far ?_ NB304_322.out _; (with_reducible repeat (first | refine kn_ ?_ _ | refine kd_ ?_ | refine ka_ ?_ _)); refine blk_far ?_ NB304_322.out _; (with_reducible repeat (first | refine kn_ ?_ _ | refine kd_ ?_ | refine ka_ ?_ _)); refine blk_far ?_ NB304_322.out _; (with_reducible repeat (first | refine kn_ ?_ _ | refine kd_ ?_ | refine ka_ ?_ _)); refine blk_far ?_ NB304_322.out _; (with_reducible repeat (first | refine kn_ ?_ _ | refine kd_ ?_ | refine ka_ ?_ _)); refine blk_far ?_ NB304_322.out _; (with_reducible repeat (first | refine kn_ ?_ _ | refine kd_ ?_ | refine ka_ ?_ _)); refine blk_far ?_ NB304_322.out _; (with_reducible repeat (first | refine kn_ ?_ _ | refine kd_ ?_ | refine ka_ ?_ _)); refine blk_far ?_ NB304_322.out _; (with_reducible repeat (first | refine kn_ ?_ _ | refine kd_ ?_ | refine ka_ ?_ _)); refine blk_far ?_ NB304_322.out _; (with_reducible repeat (first | refine kn_ ?_ _ | refine kd_ ?_ | refine ka_ ?_ _)); refine blk_far ?_ NB304_322.out _; (with_reducible repeat (first | refine kn_ ?_ _ | refine kd_ ?_ | refine ka_ ?_ _)); refine blk_far ?_ NB304_322.out _; (with_reducible repeat (first | refine kn_ ?_ _ | refine kd_ ?_ | refine ka_ ?_ _)); refine blk_far ?_ NB304_322.out _; (with_reducible repeat (first | refine kn_ ?_ _ | refine kd_ ?_ | refine ka_ ?_ _)); refine blk_far ?_ NB304_322.out _; (with_reducible repeat (first | refine kn_ ?_ _ | refine kd_ ?_ | refine ka_ ?_ _)); refine blk_far ?_ NB304_322.out _; (with_reducible repeat (first | refine kn_ ?_ _ | refine kd_ ?_ | refine ka_ ?_ _)); exact BK304.out) hb); have n3_ := ak_ (kb_ (g := gb322) (o := .cells #[.int .i64 t306, .int .i64 t307, .int .i64 t308, .slice Ao17 t309.length co17, .bool t312, .bool t313, .int .u64 t314, .int .u64 t315, .int .u64 t316, .int .u64 t317, .int .u64 t318, .int .u64 t319, .int .i64 t320] 31 (0, 0)) (by (with_reducible repeat (first | refine kn_ ?_ _ | refine kd_ ?_ | refine ka_ ?_ _)); refine blk_put (cs := #[.int .i64 t306, .int .i64 t307, .int .i64 t308, .slice Ao17 t309.length co17, .bool t312, .bool t313, .int .u64 t314, .int .u64 t315, .int .u64 t316, .int .u64 t317, .int .u64 t318, .int .u64 t319, .int .i64 0]) ?_ 12 _ rfl; (with_reducible repeat (first | refine kn_ ?_ _ | refine kd_ ?_ | refine ka_ ?_ _)); refine blk_put (cs := #[.int .i64 t306, .int .i64 t307, .int .i64 t308, .slice Ao17 t309.length co17, .bool t312, .bool t313, .int .u64 t314, .int .u64 t315, .int .u64 t316, .int .u64 t317, .int .u64 t318, .int .u64 0, .int .i64 0]) ?_ 11 _ rfl; (with_reducible repeat (first | refine kn_ ?_ _ | refine kd_ ?_ | refine ka_ ?_ _)); refine blk_put (cs := #[.int .i64 t306, .int .i64 t307, .int .i64 t308, .slice Ao17 t309.length co17, .bool t312, .bool t313, .int .u64 t314, .int .u64 t315, .int .u64 t316, .int .u64 t317, .int .u64 0, .int .u64 0, .int .i64 0]) ?_ 10 _ rfl; (with_reducible repeat (first | refine kn_ ?_ _ | refine kd_ ?_ | refine ka_ ?_ _)); refine blk_put (cs := #[.int .i64 t306, .int .i64 t307, .int .i64 t308, .slice Ao17 t309.length co17, .bool t312, .bool t313, .int .u64 t314, .int .u64 t315, .int .u64 t316, .int .u64 0, .int .u64 0, .int .u64 0, .int .i64 0]) ?_ 9 _ rfl; (with_reducible repeat (first | refine kn_ ?_ _ | refine kd_ ?_ | refine ka_ ?_ _)); refine blk_put (cs := #[.int .i64 t306, .int .i64 t307, .int .i64 t308, .slice Ao17 t309.length co17, .bool t312, .bool t313, .int .u64 t314, .int .u64 t315, .int .u64 0, .int .u64 0, .int .u64 0, .int .u64 0, .int .i64 0]) ?_ 8 _ rfl; (with_reducible repeat (first | refine kn_ ?_ _ | refine kd_ ?_ | refine ka_ ?_ _)); refine blk_put (cs := #[.int .i64 t306, .int .i64 t307, .int .i64 t308, .slice Ao17 t309.length co17, .bool t312, .bool t313, .int .u64 t314, .int .u64 0, .int .u64 0, .int .u64 0, .int .u64 0, .int .u64 0, .int .i64 0]) ?_ 7 _ rfl; (with_reducible repeat (first | refine kn_ ?_ _ | refine kd_ ?_ | refine ka_ ?_ _)); refine blk_put (cs := #[.int .i64 t306, .int .i64 t307, .int .i64 t308, .slice Ao17 t309.length co17, .bool t312, .bool t313, .int .u64 0, .int .u64 0, .int .u64 0, .int .u64 0, .int .u64 0, .int .u64 0, .int .i64 0]) ?_ 6 _ rfl; (with_reducible repeat (first | refine kn_ ?_ _ | refine kd_ ?_ | refine ka_ ?_ _)); refine blk_put (cs := #[.int .i64 t306, .int .i64 t307, .int .i64 t308, .slice Ao17 t309.length co17, .bool t312, .bool false, .int .u64 0, .int .u64 0, .int .u64 0, .int .u64 0, .int .u64 0, .int .u64 0, .int .i64 0]) ?_ 5 _ rfl; (with_reducible repeat (first | refine kn_ ?_ _ | refine kd_ ?_ | refine ka_ ?_ _)); refine blk_put (cs := #[.int .i64 t306, .int .i64 t307, .int .i64 t308, .slice Ao17 t309.length co17, .bool false, .bool false, .int .u64 0, .int .u64 0, .int .u64 0, .int .u64 0, .int .u64 0, .int .u64 0, .int .i64 0]) ?_ 4 _ rfl; (with_reducible repeat (first | refine kn_ ?_ _ | refine kd_ ?_ | refine ka_ ?_ _)); refine blk_put (cs := #[.int .i64 t306, .int .i64 t307, .int .i64 t308, .slice none 0 0, .bool false, .bool false, .int .u64 0, .int .u64 0, .int .u64 0, .int .u64 0, .int .u64 0, .int .u64 0, .int .i64 0]) ?_ 3 _ rfl; (with_reducible repeat (first | refine kn_ ?_ _ | refine kd_ ?_ | refine ka_ ?_ _)); refine blk_put (cs := #[.int .i64 t306, .int .i64 t307, .int .i64 0, .slice none 0 0, .bool false, .bool false, .int .u64 0, .int .u64 0, .int .u64 0, .int .u64 0, .int .u64 0, .int .u64 0, .int .i64 0]) ?_ 2 _ rfl; (with_reducible repeat (first | refine kn_ ?_ _ | refine kd_ ?_ | refine ka_ ?_ _)); refine blk_put (cs := #[.int .i64 t306, .int .i64 0, .int .i64 0, .slice none 0 0, .bool false, .bool false, .int .u64 0, .int .u64 0, .int .u64 0, .int .u64 0, .int .u64 0, .int .u64 0, .int .i64 0]) ?_ 1 _ rfl; (with_reducible repeat (first | refine kn_ ?_ _ | refine kd_ ?_ | refine ka_ ?_ _)); refine blk_put (cs := #[.int .i64 0, .int .i64 0, .int .i64 0, .slice none 0 0, .bool false, .bool false, .int .u64 0, .int .u64 0, .int .u64 0, .int .u64 0, .int .u64 0, .int .u64 0, .int .i64 0]) ?_ 0 _ rfl; (with_reducible repeat (first | refine kn_ ?_ _ | refine kd_ ?_ | refine ka_ ?_ _)); exact BK322.out) hb); have n4_ := ak_ (bt_ (by repeat (first | (with_reducible first | exact HB.out | apply ba_ | apply bn_ | apply bd_ | refine below_set ?_ GE304.out | refine below_set ?_ GE322.out) | exact HB.out)) hb); clear HO311; clear BK304; clear BK322; clear HB; have HO311 := n0_; have HO325 := n1_; have BK304 := n2_; have BK322 := n3_; have HB := n4_; clear n0_ n1_ n2_ n3_ n4_; (try clear hb); (try clear hb2); (try clear hk); (try clear hi); (try clear ho0); have hcz30_0 : w29.cell? ⟨gb322, 0, none⟩ = some (.int .i64 t306) := (kc_ BK322.out 0).trans rfl; have hcz30_1 : w29.cell? ⟨gb322, 1, none⟩ = some (.int .i64 t307) := (kc_ BK322.out 1).trans rfl; have hcz30_2 : w29.cell? ⟨gb322, 2, none⟩ = some (.int .i64 t308) := (kc_ BK322.out 2).trans rfl; have hcz30_3 : w29.cell? ⟨gb322, 3, none⟩ = some (.slice Ao17 t309.length co17) := (kc_ BK322.out 3).trans rfl; have hcz30_4 : w29.cell? ⟨gb322, 4, none⟩ = some (.bool t312) := (kc_ BK322.out 4).trans rfl; have hcz30_5 : w29.cell? ⟨gb322, 5, none⟩ = some (.bool t313) := (kc_ BK322.out 5).trans rfl; have hcz30_6 : w29.cell? ⟨gb322, 6, none⟩ = some (.int .u64 t314) := (kc_ BK322.out 6).trans rfl; have hcz30_7 : w29.cell? ⟨gb322, 7, none⟩ = some (.int .u64 t315) := (kc_ BK322.out 7).trans rfl; have hcz30_8 : w29.cell? ⟨gb322, 8, none⟩ = some (.int .u64 t316) := (kc_ BK322.out 8).trans rfl; have hcz30_9 : w29.cell? ⟨gb322, 9, none⟩ = some (.int .u64 t317) := (kc_ BK322.out 9).trans rfl; have hcz30_10 : w29.cell? ⟨gb322, 10, none⟩ = some (.int .u64 t318) := (kc_ BK322.out 10).trans rfl; have hcz30_11 : w29.cell? ⟨gb322, 11, none⟩ = some (.int .u64 t319) := (kc_ BK322.out 11).trans rfl; have hcz30_12 : w29.cell? ⟨gb322, 12, none⟩ = some (.int .i64 t320) := (kc_ BK322.out 12).trans rfl; have hfz30_0 := kf_ BK322.out 0; have hfz30_1 := kf_ BK322.out 1; have hfz30_2 := kf_ BK322.out 2; have hfz30_3 := kf_ BK322.out 3; have hfz30_4 := kf_ BK322.out 4; have hfz30_5 := kf_ BK322.out 5; have hfz30_6 := kf_ BK322.out 6; have hfz30_7 := kf_ BK322.out 7; have hfz30_8 := kf_ BK322.out 8; have hfz30_9 := kf_ BK322.out 9; have hfz30_10 := kf_ BK322.out 10; have hfz30_11 := kf_ BK322.out 11; have hfz30_12 := kf_ BK322.out 12) | ((with_reducible refine gate_callee (f := 18) rfl ?_); refine goesL_ (some 45) rfl rfl Try.func18 (by kernel_rfl) rfl #[.int .i64 (t309.length : Int)] rfl (by (try simp only [map_toArray, map_cons, map_nil]); first | done | rfl | (simp only [length_drop, length_take]; rfl)) ?_; (with_reducible refine (head_Length.calls (t309.length : Int) t327 t328 _ A20.out).mono ?_); rintro e w' ⟨rfl, ⟨nd, rfl⟩⟩; refine ⟨_, rfl, ?_⟩; have hcv31 := own_string (P := Try.prog) Try.underlying35 Try.underlying5 Try.underlying9 (Kd.own_of_R (Kd.R_drewN HO325.out nd)); have hcv32 := Kd.C_string (P := Try.prog) (A := A1) (c := c1) Try.underlying35 Try.underlying5 Try.underlying9 (Kd.C_drewN (Kd.C_below HR1.out HB.out) nd)) | (go_at_call 16; (with_reducible refine (head_Check.calls kj3 t306 t307 t308 _ _ t309 t312 t313 t314 t315 t316 t317 t318 t319 t320 t329 _ ?side1 ?side2 A25.out).mono ?_); (case side1 => repeat (first | exact (Kd.R_reads' HO311.out).2.2 | (with_reducible refine Kd.C_alloc ?_ _) | (with_reducible refine Kd.C_drewN ?_ _) | (with_reducible refine Kd.C_drew ?_))); (case side2 => exact (Kd.R_reads' HO311.out).2.1); rintro e w33 ⟨rfl, hb⟩; have n0_ := ak_ (Kd.R_below (by (with_reducible repeat (first | apply Kd.R_alloc | apply Kd.R_drewN | apply Kd.R_drew)); exact HO311.out) hb); have n1_ := ak_ (Kd.R_below (by (with_reducible repeat (first | apply Kd.R_alloc | apply Kd.R_drewN | apply Kd.R_drew)); exact HO325.out) hb); have n2_ := ak_ (kb_ (g := gb304) (o := .cells #[.int .i64 a0_0, .int .i64 a0_1, .int .i64 a0_2, .slice A0_3 l0_3.length c0_3, .bool a0_4, .bool a0_5, .int .u64 a0_6, .int .u64 a0_7, .int .u64 a0_8, .int .u64 a0_9, .int .u64 a0_10, .int .u64 a0_11, .int .i64 a0_12] 31 (0, 0)) (by (with_reducible repeat (first | refine kn_ ?_ _ | refine kd_ ?_ | refine ka_ ?_ _)); exact BK304.out) hb); have n3_ := ak_ (kb_ (g := gb322) (o := .cells #[.int .i64 t306, .int .i64 t307, .int .i64 t308, .slice Ao17 t309.length co17, .bool t312, .bool t313, .int .u64 t314, .int .u64 t315, .int .u64 t316, .int .u64 t317, .int .u64 t318, .int .u64 t319, .int .i64 t320] 31 (0, 0)) (by (with_reducible repeat (first | refine kn_ ?_ _ | refine kd_ ?_ | refine ka_ ?_ _)); exact BK322.out) hb); have n4_ := ak_ (bt_ (by repeat (first | (with_reducible first | exact HB.out | apply ba_ | apply bn_ | apply bd_ | refine below_set ?_ GE304.out | refine below_set ?_ GE322.out) | exact HB.out)) hb); clear HO311; clear HO325; clear BK304; clear BK322; clear HB; have HO311 := n0_; have HO325 := n1_; have BK304 := n2_; have BK322 := n3_; have HB := n4_; clear n0_ n1_ n2_ n3_ n4_; (try clear hb); (try clear hb2); (try clear hk); (try clear hi)))
            go_meet
            case rel => exact ⟨_, H', ⟨by have := HJ3.out; first | omega | exact Nat.le_refl _⟩, ⟨by (with_reducible repeat (first | apply Kd.R_alloc | apply Kd.R_drewN | apply Kd.R_drew)); exact HO311.out⟩, ⟨by (with_reducible repeat (first | refine kn_ ?_ _ | refine kd_ ?_ | refine ka_ ?_ _)); exact BK304.out⟩, ⟨by (with_reducible repeat (first | refine kn_ ?_ _ | refine kd_ ?_ | refine ka_ ?_ _)); exact BK322.out⟩, ⟨by repeat (first | (with_reducible first | exact HB.out | apply ba_ | apply bn_ | apply bd_ | refine below_set ?_ GE304.out | refine below_set ?_ GE322.out) | exact HB.out)⟩⟩
           ·rw [if_neg c26] at H
            have c26b0 : (t329 == 0) = false := beq_eq_false_iff_ne.mpr c26
            have c26b1 : (t329 != 0) = true := bne_iff_ne.mpr c26
            exact absurd ((Option.some.inj H).trans hT.out) Bool.false_ne_true
          ·rw [if_neg c24] at H
           have c24b0 : ((l1.length : Int) == t327) = false := beq_eq_false_iff_ne.mpr c24
           have c24b1 : ((l1.length : Int) != t327) = true := bne_iff_ne.mpr c24
           exact absurd ((Option.some.inj H).trans hT.out) Bool.false_ne_true
         ·rw [if_neg c23] at H
          have c23b0 : ((strOfNums t323).toList == (strOfNums l1).toList) = false := beq_eq_false_iff_ne.mpr c23
          have c23b1 : ((strOfNums t323).toList != (strOfNums l1).toList) = true := bne_iff_ne.mpr c23
          exact absurd ((Option.some.inj H).trans hT.out) Bool.false_ne_true
        ·rw [if_neg c22] at H
         have c22b0 : (t328 == 0) = false := beq_eq_false_iff_ne.mpr c22
         have c22b1 : (t328 != 0) = true := bne_iff_ne.mpr c22
         exact absurd ((Option.some.inj H).trans hT.out) Bool.false_ne_true
       ·rw [if_neg c21] at H
        have c21b0 : (t326 == 0) = false := beq_eq_false_iff_ne.mpr c21
        have c21b1 : (t326 != 0) = true := bne_iff_ne.mpr c21
        exact absurd ((Option.some.inj H).trans hT.out) Bool.false_ne_true
      ·rw [if_neg c18] at H
       have c18b0 : (t321 == 0) = false := beq_eq_false_iff_ne.mpr c18
       have c18b1 : (t321 != 0) = true := bne_iff_ne.mpr c18
       (first | rw [c18b0] | (simp only [i64_w, i32_w]; rw [c18b0]) | skip)
       have H' := ak_ H
       clear H
       go_wp2
       go_meet
       case rel => exact ⟨_, H', ⟨by have := HJ3.out; first | omega | exact Nat.le_refl _⟩, ⟨by (with_reducible repeat (first | apply Kd.R_alloc | apply Kd.R_drewN | apply Kd.R_drew)); exact Kd.R_mono (Kd.R_far (p := ⟨gb322, 12, none⟩) (Kd.R_far (p := ⟨gb322, 11, none⟩) (Kd.R_far (p := ⟨gb322, 10, none⟩) (Kd.R_far (p := ⟨gb322, 9, none⟩) (Kd.R_far (p := ⟨gb322, 8, none⟩) (Kd.R_far (p := ⟨gb322, 7, none⟩) (Kd.R_far (p := ⟨gb322, 6, none⟩) (Kd.R_far (p := ⟨gb322, 5, none⟩) (Kd.R_far (p := ⟨gb322, 4, none⟩) (Kd.R_far (p := ⟨gb322, 3, none⟩) (Kd.R_far (p := ⟨gb322, 2, none⟩) (Kd.R_far (p := ⟨gb322, 1, none⟩) (Kd.R_far (p := ⟨gb322, 0, none⟩) (Kd.R_types HO311.out BK322.out (by decide)) (fun _ hk => hk.2) (.int .i64 t306)) (fun _ hk => hk.2) (.int .i64 t307)) (fun _ hk => hk.2) (.int .i64 t308)) (fun _ hk => hk.2) (.slice Ao17 t309.length co17)) (fun _ hk => hk.2) (.bool t312)) (fun _ hk => hk.2) (.bool t313)) (fun _ hk => hk.2) (.int .u64 t314)) (fun _ hk => hk.2) (.int .u64 t315)) (fun _ hk => hk.2) (.int .u64 t316)) (fun _ hk => hk.2) (.int .u64 t317)) (fun _ hk => hk.2) (.int .u64 t318)) (fun _ hk => hk.2) (.int .u64 t319)) (fun _ hk => hk.2) (.int .i64 t320)) (fun _ hk => trivial)⟩, ⟨by (with_reducible repeat (first | refine kn_ ?_ _ | refine kd_ ?_ | refine ka_ ?_ _)); refine blk_far ?_ NB304_322.out _; (with_reducible repeat (first | refine kn_ ?_ _ | refine kd_ ?_ | refine ka_ ?_ _)); refine blk_far ?_ NB304_322.out _; (with_reducible repeat (first | refine kn_ ?_ _ | refine kd_ ?_ | refine ka_ ?_ _)); refine blk_far ?_ NB304_322.out _; (with_reducible repeat (first | refine kn_ ?_ _ | refine kd_ ?_ | refine ka_ ?_ _)); refine blk_far ?_ NB304_322.out _; (with_reducible repeat (first | refine kn_ ?_ _ | refine kd_ ?_ | refine ka_ ?_ _)); refine blk_far ?_ NB304_322.out _; (with_reducible repeat (first | refine kn_ ?_ _ | refine kd_ ?_ | refine ka_ ?_ _)); refine blk_far ?_ NB304_322.out _; (with_reducible repeat (first | refine kn_ ?_ _ | refine kd_ ?_ | refine ka_ ?_ _)); refine blk_far ?_ NB304_322.out _; (with_reducible repeat (first | refine kn_ ?_ _ | refine kd_ ?_ | refine ka_ ?_ _)); refine blk_far ?_ NB304_322.out _; (with_reducible repeat (first | refine kn_ ?_ _ | refine kd_ ?_ | refine ka_ ?_ _)); refine blk_far ?_ NB304_322.out _; (with_reducible repeat (first | refine kn_ ?_ _ | refine kd_ ?_ | refine ka_ ?_ _)); refine blk_far ?_ NB304_322.out _; (with_reducible repeat (first | refine kn_ ?_ _ | refine kd_ ?_ | refine ka_ ?_ _)); refine blk_far ?_ NB304_322.out _; (with_reducible repeat (first | refine kn_ ?_ _ | refine kd_ ?_ | refine ka_ ?_ _)); refine blk_far ?_ NB304_322.out _; (with_reducible repeat (first | refine kn_ ?_ _ | refine kd_ ?_ | refine ka_ ?_ _)); refine blk_far ?_ NB304_322.out _; (with_reducible repeat (first | refine kn_ ?_ _ | refine kd_ ?_ | refine ka_ ?_ _)); exact BK304.out⟩, ⟨by (with_reducible repeat (first | refine kn_ ?_ _ | refine kd_ ?_ | refine ka_ ?_ _)); refine blk_put (cs := #[.int .i64 t306, .int .i64 t307, .int .i64 t308, .slice Ao17 t309.length co17, .bool t312, .bool t313, .int .u64 t314, .int .u64 t315, .int .u64 t316, .int .u64 t317, .int .u64 t318, .int .u64 t319, .int .i64 0]) ?_ 12 _ rfl; (with_reducible repeat (first | refine kn_ ?_ _ | refine kd_ ?_ | refine ka_ ?_ _)); refine blk_put (cs := #[.int .i64 t306, .int .i64 t307, .int .i64 t308, .slice Ao17 t309.length co17, .bool t312, .bool t313, .int .u64 t314, .int .u64 t315, .int .u64 t316, .int .u64 t317, .int .u64 t318, .int .u64 0, .int .i64 0]) ?_ 11 _ rfl; (with_reducible repeat (first | refine kn_ ?_ _ | refine kd_ ?_ | refine ka_ ?_ _)); refine blk_put (cs := #[.int .i64 t306, .int .i64 t307, .int .i64 t308, .slice Ao17 t309.length co17, .bool t312, .bool t313, .int .u64 t314, .int .u64 t315, .int .u64 t316, .int .u64 t317, .int .u64 0, .int .u64 0, .int .i64 0]) ?_ 10 _ rfl; (with_reducible repeat (first | refine kn_ ?_ _ | refine kd_ ?_ | refine ka_ ?_ _)); refine blk_put (cs := #[.int .i64 t306, .int .i64 t307, .int .i64 t308, .slice Ao17 t309.length co17, .bool t312, .bool t313, .int .u64 t314, .int .u64 t315, .int .u64 t316, .int .u64 0, .int .u64 0, .int .u64 0, .int .i64 0]) ?_ 9 _ rfl; (with_reducible repeat (first | refine kn_ ?_ _ | refine kd_ ?_ | refine ka_ ?_ _)); refine blk_put (cs := #[.int .i64 t306, .int .i64 t307, .int .i64 t308, .slice Ao17 t309.length co17, .bool t312, .bool t313, .int .u64 t314, .int .u64 t315, .int .u64 0, .int .u64 0, .int .u64 0, .int .u64 0, .int .i64 0]) ?_ 8 _ rfl; (with_reducible repeat (first | refine kn_ ?_ _ | refine kd_ ?_ | refine ka_ ?_ _)); refine blk_put (cs := #[.int .i64 t306, .int .i64 t307, .int .i64 t308, .slice Ao17 t309.length co17, .bool t312, .bool t313, .int .u64 t314, .int .u64 0, .int .u64 0, .int .u64 0, .int .u64 0, .int .u64 0, .int .i64 0]) ?_ 7 _ rfl; (with_reducible repeat (first | refine kn_ ?_ _ | refine kd_ ?_ | refine ka_ ?_ _)); refine blk_put (cs := #[.int .i64 t306, .int .i64 t307, .int .i64 t308, .slice Ao17 t309.length co17, .bool t312, .bool t313, .int .u64 0, .int .u64 0, .int .u64 0, .int .u64 0, .int .u64 0, .int .u64 0, .int .i64 0]) ?_ 6 _ rfl; (with_reducible repeat (first | refine kn_ ?_ _ | refine kd_ ?_ | refine ka_ ?_ _)); refine blk_put (cs := #[.int .i64 t306, .int .i64 t307, .int .i64 t308, .slice Ao17 t309.length co17, .bool t312, .bool false, .int .u64 0, .int .u64 0, .int .u64 0, .int .u64 0, .int .u64 0, .int .u64 0, .int .i64 0]) ?_ 5 _ rfl; (with_reducible repeat (first | refine kn_ ?_ _ | refine kd_ ?_ | refine ka_ ?_ _)); refine blk_put (cs := #[.int .i64 t306, .int .i64 t307, .int .i64 t308, .slice Ao17 t309.length co17, .bool false, .bool false, .int .u64 0, .int .u64 0, .int .u64 0, .int .u64 0, .int .u64 0, .int .u64 0, .int .i64 0]) ?_ 4 _ rfl; (with_reducible repeat (first | refine kn_ ?_ _ | refine kd_ ?_ | refine ka_ ?_ _)); refine blk_put (cs := #[.int .i64 t306, .int .i64 t307, .int .i64 t308, .slice none 0 0, .bool false, .bool false, .int .u64 0, .int .u64 0, .int .u64 0, .int .u64 0, .int .u64 0, .int .u64 0, .int .i64 0]) ?_ 3 _ rfl; (with_reducible repeat (first | refine kn_ ?_ _ | refine kd_ ?_ | refine ka_ ?_ _)); refine blk_put (cs := #[.int .i64 t306, .int .i64 t307, .int .i64 0, .slice none 0 0, .bool false, .bool false, .int .u64 0, .int .u64 0, .int .u64 0, .int .u64 0, .int .u64 0, .int .u64 0, .int .i64 0]) ?_ 2 _ rfl; (with_reducible repeat (first | refine kn_ ?_ _ | refine kd_ ?_ | refine ka_ ?_ _)); refine blk_put (cs := #[.int .i64 t306, .int .i64 0, .int .i64 0, .slice none 0 0, .bool false, .bool false, .int .u64 0, .int .u64 0, .int .u64 0, .int .u64 0, .int .u64 0, .int .u64 0, .int .i64 0]) ?_ 1 _ rfl; (with_reducible repeat (first | refine kn_ ?_ _ | refine kd_ ?_ | refine ka_ ?_ _)); refine blk_put (cs := #[.int .i64 0, .int .i64 0, .int .i64 0, .slice none 0 0, .bool false, .bool false, .int .u64 0, .int .u64 0, .int .u64 0, .int .u64 0, .int .u64 0, .int .u64 0, .int .i64 0]) ?_ 0 _ rfl; (with_reducible repeat (first | refine kn_ ?_ _ | refine kd_ ?_ | refine ka_ ?_ _)); exact BK322.out⟩, ⟨by repeat (first | (with_reducible first | exact HB.out | apply ba_ | apply bn_ | apply bd_ | refine below_set ?_ GE304.out | refine below_set ?_ GE322.out) | exact HB.out)⟩⟩
     case rest =>
      clear HC12
      try clear c1
      try clear c2
      try clear p2
      try clear hcv3
      try clear c6
      try clear c7
      try clear c7b0
      try clear c7b1
      try clear c10
      try clear c15
      try clear c17
      try clear c18
      try clear c18b0
      try clear c18b1
      try clear c19
      try clear c21
      try clear c21b0
      try clear c21b1
      try clear c22
      try clear c22b0
      try clear c22b1
      try clear c23
      try clear c23b0
      try clear c23b1
      try clear c24
      try clear c24b0
      try clear c24b1
      try clear c26
      try clear c26b0
      try clear c26b1
      try clear c27
      try clear hcv31
      try clear hcv32
      try clear hcz16_0
      try clear hcz16_1
      try clear hcz16_10
      try clear hcz16_11
      try clear hcz16_12
      try clear hcz16_2
      try clear hcz16_3
      try clear hcz16_4
      try clear hcz16_5
      try clear hcz16_6
      try clear hcz16_7
      try clear hcz16_8
      try clear hcz16_9
      try clear hcz28_0
      try clear hcz28_1
      try clear hcz28_10
      try clear hcz28_11
      try clear hcz28_12
      try clear hcz28_2
      try clear hcz28_3
      try clear hcz28_4
      try clear hcz28_5
      try clear hcz28_6
      try clear hcz28_7
      try clear hcz28_8
      try clear hcz28_9
      try clear hcz30_0
      try clear hcz30_1
      try clear hcz30_10
      try clear hcz30_11
      try clear hcz30_12
      try clear hcz30_2
      try clear hcz30_3
      try clear hcz30_4
      try clear hcz30_5
      try clear hcz30_6
      try clear hcz30_7
      try clear hcz30_8
      try clear hcz30_9
      try clear hcz8_0
      try clear hcz8_1
      try clear hcz8_10
      try clear hcz8_11
      try clear hcz8_12
      try clear hcz8_2
      try clear hcz8_3
      try clear hcz8_4
      try clear hcz8_5
      try clear hcz8_6
      try clear hcz8_7
      try clear hcz8_8
      try clear hcz8_9
      try clear hcz9_0
      try clear hcz9_1
      try clear hcz9_10
      try clear hcz9_11
      try clear hcz9_12
      try clear hcz9_2
      try clear hcz9_3
      try clear hcz9_4
      try clear hcz9_5
      try clear hcz9_6
      try clear hcz9_7
      try clear hcz9_8
      try clear hcz9_9
      try clear hfz16_0
      try clear hfz16_1
      try clear hfz16_10
      try clear hfz16_11
      try clear hfz16_12
      try clear hfz16_2
      try clear hfz16_3
      try clear hfz16_4
      try clear hfz16_5
      try clear hfz16_6
      try clear hfz16_7
      try clear hfz16_8
      try clear hfz16_9
      try clear hfz28_0
      try clear hfz28_1
      try clear hfz28_10
      try clear hfz28_11
      try clear hfz28_12
      try clear hfz28_2
      try clear hfz28_3
      try clear hfz28_4
      try clear hfz28_5
      try clear hfz28_6
      try clear hfz28_7
      try clear hfz28_8
      try clear hfz28_9
      try clear hfz30_0
      try clear hfz30_1
      try clear hfz30_10
      try clear hfz30_11
      try clear hfz30_12
      try clear hfz30_2
      try clear hfz30_3
      try clear hfz30_4
      try clear hfz30_5
      try clear hfz30_6
      try clear hfz30_7
      try clear hfz30_8
      try clear hfz30_9
      try clear hfz8_0
      try clear hfz8_1
      try clear hfz8_10
      try clear hfz8_11
      try clear hfz8_12
      try clear hfz8_2
      try clear hfz8_3
      try clear hfz8_4
      try clear hfz8_5
      try clear hfz8_6
      try clear hfz8_7
      try clear hfz8_8
      try clear hfz8_9
      try clear hfz9_0
      try clear hfz9_1
      try clear hfz9_10
      try clear hfz9_11
      try clear hfz9_12
      try clear hfz9_2
      try clear hfz9_3
      try clear hfz9_4
      try clear hfz9_5
      try clear hfz9_6
      try clear hfz9_7
      try clear hfz9_8
      try clear hfz9_9
      try clear p2
      obtain ⟨kq, HA, HJ11, HO_323003, BK304, BK322, HB⟩ := hcut
      cases kq with
      | zero => exact absurd HA.out (by simp [medlarlaw16_HeadBack.j1])
      | succ kj11 =>
       have H := HA.out
       clear HA
       simp only [medlarlaw16_HeadBack.j1] at H
       replace H := Option.bind_eq_some_iff.mp H
       obtain ⟨⟨t330, t333⟩, A340, H⟩ := H
       replace H : (if t333 = 0 then ((head_From.f kj11 t330).bind fun bt334 => ((head_Length.f (l0_3.length : Int)).bind fun bt351 => (if t305 = true then (if bt334.2.2.2.2.2.2.2.2.2.2.2.2.2 = 0 then (if bt351.2 = 0 then ((head_Same.f kj11 bt334.1 bt334.2.1 bt334.2.2.1 bt334.2.2.2.1 bt334.2.2.2.2.1 bt334.2.2.2.2.2.1 bt334.2.2.2.2.2.2.1 bt334.2.2.2.2.2.2.2.1 bt334.2.2.2.2.2.2.2.2.1 bt334.2.2.2.2.2.2.2.2.2.1 bt334.2.2.2.2.2.2.2.2.2.2.1 bt334.2.2.2.2.2.2.2.2.2.2.2.1 bt334.2.2.2.2.2.2.2.2.2.2.2.2.1 a0_0 a0_1 a0_2 l0_3 a0_4 a0_5 a0_6 a0_7 a0_8 a0_9 a0_10 a0_11 a0_12).bind fun t353 => (if t353 = true then (some ((t330.length : Int) == bt351.1)) else (some false))) else (some false)) else (some false)) else (some false)))) else (if t305 = true then ((head_Check.f kj11 a0_0 a0_1 a0_2 l0_3 a0_4 a0_5 a0_6 a0_7 a0_8 a0_9 a0_10 a0_11 a0_12).bind fun t354 => (if t354 = t333 then (some ((t330.length : Int) == 0)) else (some false))) else (some false))) = some r := H
       have A34 := ak_ A340
       clear A340
       by_cases c35 : t333 = 0
       ·rw [if_pos c35] at H
        have c35b0 : (t333 == 0) = true := beq_iff_eq.mpr c35
        have c35b1 : (t333 != 0) = false := bne_eq_false_iff_eq.mpr c35
        clear c35
        replace H := Option.bind_eq_some_iff.mp H
        obtain ⟨⟨t334, t335, t336, t337, t340, t341, t342, t343, t344, t345, t346, t347, t348, t349⟩, A360, H⟩ := H
        replace H : ((head_Length.f (l0_3.length : Int)).bind fun bt351 => (if t305 = true then (if t349 = 0 then (if bt351.2 = 0 then ((head_Same.f kj11 t334 t335 t336 t337 t340 t341 t342 t343 t344 t345 t346 t347 t348 a0_0 a0_1 a0_2 l0_3 a0_4 a0_5 a0_6 a0_7 a0_8 a0_9 a0_10 a0_11 a0_12).bind fun t353 => (if t353 = true then (some ((t330.length : Int) == bt351.1)) else (some false))) else (some false)) else (some false)) else (some false))) = some r := H
        have A36 := ak_ A360
        clear A360
        replace H := Option.bind_eq_some_iff.mp H
        obtain ⟨⟨t351, t352⟩, A370, H⟩ := H
        replace H : (if t305 = true then (if t349 = 0 then (if t352 = 0 then ((head_Same.f kj11 t334 t335 t336 t337 t340 t341 t342 t343 t344 t345 t346 t347 t348 a0_0 a0_1 a0_2 l0_3 a0_4 a0_5 a0_6 a0_7 a0_8 a0_9 a0_10 a0_11 a0_12).bind fun t353 => (if t353 = true then (some ((t330.length : Int) == t351)) else (some false))) else (some false)) else (some false)) else (some false)) = some r := H
        have A37 := ak_ A370
        clear A370
        by_cases c38 : t305 = true
        ·subst c38
         have H1 : (if t349 = 0 then (if t352 = 0 then ((head_Same.f kj11 t334 t335 t336 t337 t340 t341 t342 t343 t344 t345 t346 t347 t348 a0_0 a0_1 a0_2 l0_3 a0_4 a0_5 a0_6 a0_7 a0_8 a0_9 a0_10 a0_11 a0_12).bind fun t353 => (if t353 = true then (some ((t330.length : Int) == t351)) else (some false))) else (some false)) else (some false)) = some r := by rw [if_pos rfl] at H; exact H
         clear H
         have H := H1
         clear H1
         by_cases c39 : t349 = 0
         ·rw [if_pos c39] at H
          have c39b0 : (t349 == 0) = true := beq_iff_eq.mpr c39
          have c39b1 : (t349 != 0) = false := bne_eq_false_iff_eq.mpr c39
          clear c39
          by_cases c40 : t352 = 0
          ·rw [if_pos c40] at H
           have c40b0 : (t352 == 0) = true := beq_iff_eq.mpr c40
           have c40b1 : (t352 != 0) = false := bne_eq_false_iff_eq.mpr c40
           clear c40
           replace H := Option.bind_eq_some_iff.mp H
           obtain ⟨t353, A410, H⟩ := H
           replace H : (if t353 = true then (some ((t330.length : Int) == t351)) else (some false)) = some r := H
           have A41 := ak_ A410
           clear A410
           by_cases c42 : t353 = true
           ·subst c42
            have H1 : (some ((t330.length : Int) == t351)) = some r := by rw [if_pos rfl] at H; exact H
            clear H
            have H := H1
            clear H1
            obtain rfl := Option.some.inj H
            have hnb43 := NB304_322.out
            have hnc43 := NB322_304.out
            have hcz44_0 : wc.cell? ⟨gb304, 0, none⟩ = some (.int .i64 a0_0) := (kc_ BK304.out 0).trans rfl
            have hcz44_1 : wc.cell? ⟨gb304, 1, none⟩ = some (.int .i64 a0_1) := (kc_ BK304.out 1).trans rfl
            have hcz44_2 : wc.cell? ⟨gb304, 2, none⟩ = some (.int .i64 a0_2) := (kc_ BK304.out 2).trans rfl
            have hcz44_3 : wc.cell? ⟨gb304, 3, none⟩ = some (.slice A0_3 l0_3.length c0_3) := (kc_ BK304.out 3).trans rfl
            have hcz44_4 : wc.cell? ⟨gb304, 4, none⟩ = some (.bool a0_4) := (kc_ BK304.out 4).trans rfl
            have hcz44_5 : wc.cell? ⟨gb304, 5, none⟩ = some (.bool a0_5) := (kc_ BK304.out 5).trans rfl
            have hcz44_6 : wc.cell? ⟨gb304, 6, none⟩ = some (.int .u64 a0_6) := (kc_ BK304.out 6).trans rfl
            have hcz44_7 : wc.cell? ⟨gb304, 7, none⟩ = some (.int .u64 a0_7) := (kc_ BK304.out 7).trans rfl
            have hcz44_8 : wc.cell? ⟨gb304, 8, none⟩ = some (.int .u64 a0_8) := (kc_ BK304.out 8).trans rfl
            have hcz44_9 : wc.cell? ⟨gb304, 9, none⟩ = some (.int .u64 a0_9) := (kc_ BK304.out 9).trans rfl
            have hcz44_10 : wc.cell? ⟨gb304, 10, none⟩ = some (.int .u64 a0_10) := (kc_ BK304.out 10).trans rfl
            have hcz44_11 : wc.cell? ⟨gb304, 11, none⟩ = some (.int .u64 a0_11) := (kc_ BK304.out 11).trans rfl
            have hcz44_12 : wc.cell? ⟨gb304, 12, none⟩ = some (.int .i64 a0_12) := (kc_ BK304.out 12).trans rfl
            have hfz44_0 := kf_ BK304.out 0
            have hfz44_1 := kf_ BK304.out 1
            have hfz44_2 := kf_ BK304.out 2
            have hfz44_3 := kf_ BK304.out 3
            have hfz44_4 := kf_ BK304.out 4
            have hfz44_5 := kf_ BK304.out 5
            have hfz44_6 := kf_ BK304.out 6
            have hfz44_7 := kf_ BK304.out 7
            have hfz44_8 := kf_ BK304.out 8
            have hfz44_9 := kf_ BK304.out 9
            have hfz44_10 := kf_ BK304.out 10
            have hfz44_11 := kf_ BK304.out 11
            have hfz44_12 := kf_ BK304.out 12
            go_wp2_with (first | ((with_reducible refine gate_callee (f := 17) rfl ?_); refine goesL_ (some 74) rfl rfl Try.func17 (by kernel_rfl) rfl #[.agg #[.int .i64 a0_0, .int .i64 a0_1, .int .i64 a0_2, .slice A0_3 l0_3.length c0_3, .bool a0_4, .bool a0_5, .int .u64 a0_6, .int .u64 a0_7, .int .u64 a0_8, .int .u64 a0_9, .int .u64 a0_10, .int .u64 a0_11, .int .i64 a0_12]] rfl (by (try simp only [map_toArray, map_cons, map_nil]); first | done | rfl | (simp only [length_drop, length_take]; rfl)) ?_; (with_reducible refine (head_Bytes.calls kj11 a0_0 a0_1 a0_2 _ _ l0_3 a0_4 a0_5 a0_6 a0_7 a0_8 a0_9 a0_10 a0_11 a0_12 t330 t333 _ ?side1 ?side2 A34.out).mono ?_); (case side1 => repeat (first | exact (Kd.C_below HR0_3.out HB.out) | (with_reducible refine Kd.C_alloc ?_ _) | (with_reducible refine Kd.C_drewN ?_ _) | (with_reducible refine Kd.C_drew ?_))); (case side2 => exact HC0_3.out); rintro e w45 ⟨v331, rfl, ho0, hb⟩; refine ⟨_, rfl, ?_⟩; have n0_ := ak_ (Kd.R_below (by (with_reducible repeat (first | apply Kd.R_alloc | apply Kd.R_drewN | apply Kd.R_drew)); exact HO_323003.out) hb); have n1_ := ak_ (Kd.R_lower ho0 (bz_ (by repeat (first | (with_reducible first | exact HB.out | apply ba_ | apply bn_ | apply bd_ | refine below_set ?_ GE304.out | refine below_set ?_ GE322.out) | exact HB.out)))); have n2_ := ak_ (kb_ (g := gb304) (o := .cells #[.int .i64 a0_0, .int .i64 a0_1, .int .i64 a0_2, .slice A0_3 l0_3.length c0_3, .bool a0_4, .bool a0_5, .int .u64 a0_6, .int .u64 a0_7, .int .u64 a0_8, .int .u64 a0_9, .int .u64 a0_10, .int .u64 a0_11, .int .i64 a0_12] 31 (0, 0)) (by (with_reducible repeat (first | refine kn_ ?_ _ | refine kd_ ?_ | refine ka_ ?_ _)); exact BK304.out) hb); have n3_ := ak_ (kb_ (g := gb322) (o := .cells #[.int .i64 t306, .int .i64 t307, .int .i64 t308, .slice Ao17 t309.length co17, .bool t312, .bool t313, .int .u64 t314, .int .u64 t315, .int .u64 t316, .int .u64 t317, .int .u64 t318, .int .u64 t319, .int .i64 t320] 31 (0, 0)) (by (with_reducible repeat (first | refine kn_ ?_ _ | refine kd_ ?_ | refine ka_ ?_ _)); exact BK322.out) hb); have n4_ := ak_ (bt_ (by repeat (first | (with_reducible first | exact HB.out | apply ba_ | apply bn_ | apply bd_ | refine below_set ?_ GE304.out | refine below_set ?_ GE322.out) | exact HB.out)) hb); clear HO_323003; clear BK304; clear BK322; clear HB; have HO_323003 := n0_; have HO332 := n1_; have BK304 := n2_; have BK322 := n3_; have HB := n4_; clear n0_ n1_ n2_ n3_ n4_; (try clear hb); (try clear hb2); (try clear hk); (try clear hi); (try clear ho0); obtain ⟨Ao46, co46, eo46⟩ := Kd.R_slice HO332.out; subst eo46) | ((with_reducible refine gate_callee (f := 19) rfl ?_); refine goesL_ (some 93) rfl rfl Try.func19 (by kernel_rfl) rfl #[.slice Ao46 t330.length co46] rfl (by (try simp only [map_toArray, map_cons, map_nil]); first | done | rfl | (simp only [length_drop, length_take]; rfl)) ?_; (with_reducible refine (head_From.calls kj11 _ _ t330 t334 t335 t336 t337 t340 t341 t342 t343 t344 t345 t346 t347 t348 t349 _ ?side1 ?side2 A36.out).mono ?_); (case side1 => repeat (first | exact (Kd.R_reads' HO332.out).2.2 | (with_reducible refine Kd.C_alloc ?_ _) | (with_reducible refine Kd.C_drewN ?_ _) | (with_reducible refine Kd.C_drew ?_))); (case side2 => exact (Kd.R_reads' HO332.out).2.1); rintro e w47 ⟨v338, rfl, ho0, hb⟩; refine ⟨_, rfl, ?_⟩; have n0_ := ak_ (Kd.R_elder' (by (with_reducible repeat (first | apply Kd.R_alloc | apply Kd.R_drewN | apply Kd.R_drew)); exact HO_323003.out) (Kd.R_base ho0) hb); have n1_ := ak_ (Kd.R_below (by (with_reducible repeat (first | apply Kd.R_alloc | apply Kd.R_drewN | apply Kd.R_drew)); exact HO332.out) hb); have n2_ := ak_ (Kd.R_lower (Kd.R_new' ho0 (Kd.R_lt (by (with_reducible repeat (first | apply Kd.R_alloc | apply Kd.R_drewN | apply Kd.R_drew)); exact HO_323003.out))) (bz_ (by repeat (first | (with_reducible first | exact HB.out | apply ba_ | apply bn_ | apply bd_ | refine below_set ?_ GE304.out | refine below_set ?_ GE322.out) | exact HB.out)))); have n3_ := ak_ (kb_ (g := gb304) (o := .cells #[.int .i64 a0_0, .int .i64 a0_1, .int .i64 a0_2, .slice A0_3 l0_3.length c0_3, .bool a0_4, .bool a0_5, .int .u64 a0_6, .int .u64 a0_7, .int .u64 a0_8, .int .u64 a0_9, .int .u64 a0_10, .int .u64 a0_11, .int .i64 a0_12] 31 (0, 0)) (by (with_reducible repeat (first | refine kn_ ?_ _ | refine kd_ ?_ | refine ka_ ?_ _)); exact BK304.out) hb); have n4_ := ak_ (kb_ (g := gb322) (o := .cells #[.int .i64 t306, .int .i64 t307, .int .i64 t308, .slice Ao17 t309.length co17, .bool t312, .bool t313, .int .u64 t314, .int .u64 t315, .int .u64 t316, .int .u64 t317, .int .u64 t318, .int .u64 t319, .int .i64 t320] 31 (0, 0)) (by (with_reducible repeat (first | refine kn_ ?_ _ | refine kd_ ?_ | refine ka_ ?_ _)); exact BK322.out) hb); have n5_ := ak_ (bt_ (by repeat (first | (with_reducible first | exact HB.out | apply ba_ | apply bn_ | apply bd_ | refine below_set ?_ GE304.out | refine below_set ?_ GE322.out) | exact HB.out)) hb); clear HO_323003; clear HO332; clear BK304; clear BK322; clear HB; have HO_323003 := n0_; have HO332 := n1_; have HO339 := n2_; have BK304 := n3_; have BK322 := n4_; have HB := n5_; clear n0_ n1_ n2_ n3_ n4_ n5_; (try clear hb); (try clear hb2); (try clear hk); (try clear hi); (try clear ho0)) | ((with_reducible refine gate_dst (N := 14) rfl ?_); (try (refine gate_guard (by rfl) ?_; dsimp only)); refine box_event ?hg (N := 14) ?hd (cs := #[.int .i64 0, .int .i64 0, .int .i64 0, .slice none 0 0, .bool false, .bool false, .int .u64 0, .int .u64 0, .int .u64 0, .int .u64 0, .int .u64 0, .int .u64 0, .int .i64 0]) (t := 31) ?hr ?_; (case hd => rfl); (case hg => rfl); (case hr => first | (go_simp; done) | (go_simp; rfl)); intro gb350 hg w48 hbox hb; have n0_ := ak_ (Kd.R_below (by (with_reducible repeat (first | apply Kd.R_alloc | apply Kd.R_drewN | apply Kd.R_drew)); exact HO_323003.out) hb); have n1_ := ak_ (Kd.R_below (by (with_reducible repeat (first | apply Kd.R_alloc | apply Kd.R_drewN | apply Kd.R_drew)); exact HO332.out) hb); have n2_ := ak_ (Kd.R_below (by (with_reducible repeat (first | apply Kd.R_alloc | apply Kd.R_drewN | apply Kd.R_drew)); exact HO339.out) hb); have n3_ := ak_ (kb_ (g := gb304) (o := .cells #[.int .i64 a0_0, .int .i64 a0_1, .int .i64 a0_2, .slice A0_3 l0_3.length c0_3, .bool a0_4, .bool a0_5, .int .u64 a0_6, .int .u64 a0_7, .int .u64 a0_8, .int .u64 a0_9, .int .u64 a0_10, .int .u64 a0_11, .int .i64 a0_12] 31 (0, 0)) (by (with_reducible repeat (first | refine kn_ ?_ _ | refine kd_ ?_ | refine ka_ ?_ _)); exact BK304.out) hb); have n4_ := ak_ (kb_ (g := gb322) (o := .cells #[.int .i64 t306, .int .i64 t307, .int .i64 t308, .slice Ao17 t309.length co17, .bool t312, .bool t313, .int .u64 t314, .int .u64 t315, .int .u64 t316, .int .u64 t317, .int .u64 t318, .int .u64 t319, .int .i64 t320] 31 (0, 0)) (by (with_reducible repeat (first | refine kn_ ?_ _ | refine kd_ ?_ | refine ka_ ?_ _)); exact BK322.out) hb); have n5_ := ak_ (bt_ (by repeat (first | (with_reducible first | exact HB.out | apply ba_ | apply bn_ | apply bd_ | refine below_set ?_ GE304.out | refine below_set ?_ GE322.out) | exact HB.out)) hb); have n6_ := ak_ (hbox); have n7_ := ak_ ((by rw [hg]; exact (bz_ (by repeat (first | (with_reducible first | exact HB.out | apply ba_ | apply bn_ | apply bd_ | refine below_set ?_ GE304.out | refine below_set ?_ GE322.out) | exact HB.out))) : w.heap.size ≤ gb350)); have n8_ := ak_ ((by rw [hg]; exact (bz_ (by repeat (first | (with_reducible first | exact HB.out | apply ba_ | apply bn_ | apply bd_ | refine below_set ?_ GE304.out | refine below_set ?_ GE322.out) | exact HB.out))) : w.heap.size ≤ gb350)); have n9_ := ak_ ((by rw [hg]; exact Nat.ne_of_lt (blk_lt (g := gb304) (o := .cells #[.int .i64 a0_0, .int .i64 a0_1, .int .i64 a0_2, .slice A0_3 l0_3.length c0_3, .bool a0_4, .bool a0_5, .int .u64 a0_6, .int .u64 a0_7, .int .u64 a0_8, .int .u64 a0_9, .int .u64 a0_10, .int .u64 a0_11, .int .i64 a0_12] 31 (0, 0)) (by (with_reducible repeat (first | refine kn_ ?_ _ | refine kd_ ?_ | refine ka_ ?_ _)); exact BK304.out)) : gb304 ≠ gb350)); have n10_ := ak_ ((by rw [hg]; exact Nat.ne_of_gt (blk_lt (g := gb304) (o := .cells #[.int .i64 a0_0, .int .i64 a0_1, .int .i64 a0_2, .slice A0_3 l0_3.length c0_3, .bool a0_4, .bool a0_5, .int .u64 a0_6, .int .u64 a0_7, .int .u64 a0_8, .int .u64 a0_9, .int .u64 a0_10, .int .u64 a0_11, .int .i64 a0_12] 31 (0, 0)) (by (with_reducible repeat (first | refine kn_ ?_ _ | refine kd_ ?_ | refine ka_ ?_ _)); exact BK304.out)) : gb350 ≠ gb304)); have n11_ := ak_ ((by rw [hg]; exact Nat.ne_of_lt (blk_lt (g := gb322) (o := .cells #[.int .i64 t306, .int .i64 t307, .int .i64 t308, .slice Ao17 t309.length co17, .bool t312, .bool t313, .int .u64 t314, .int .u64 t315, .int .u64 t316, .int .u64 t317, .int .u64 t318, .int .u64 t319, .int .i64 t320] 31 (0, 0)) (by (with_reducible repeat (first | refine kn_ ?_ _ | refine kd_ ?_ | refine ka_ ?_ _)); exact BK322.out)) : gb322 ≠ gb350)); have n12_ := ak_ ((by rw [hg]; exact Nat.ne_of_gt (blk_lt (g := gb322) (o := .cells #[.int .i64 t306, .int .i64 t307, .int .i64 t308, .slice Ao17 t309.length co17, .bool t312, .bool t313, .int .u64 t314, .int .u64 t315, .int .u64 t316, .int .u64 t317, .int .u64 t318, .int .u64 t319, .int .i64 t320] 31 (0, 0)) (by (with_reducible repeat (first | refine kn_ ?_ _ | refine kd_ ?_ | refine ka_ ?_ _)); exact BK322.out)) : gb350 ≠ gb322)); clear HO_323003; clear HO332; clear HO339; clear BK304; clear BK322; clear HB; have HO_323003 := n0_; have HO332 := n1_; have HO339 := n2_; have BK304 := n3_; have BK322 := n4_; have HB := n5_; have BK350 := n6_; have GW350 := n7_; have GE350 := n8_; have NB304_350 := n9_; have NB350_304 := n10_; have NB322_350 := n11_; have NB350_322 := n12_; clear n0_ n1_ n2_ n3_ n4_ n5_ n6_ n7_ n8_ n9_ n10_ n11_ n12_; clear hb hbox hg; have hnb49 := NB350_304.out; have hnc49 := NB304_350.out; have hnb50 := NB350_322.out; have hnc50 := NB322_350.out; have hcz51_0 : w48.cell? ⟨gb350, 0, none⟩ = some (.int .i64 0) := (kc_ BK350.out 0).trans rfl; have hcz51_1 : w48.cell? ⟨gb350, 1, none⟩ = some (.int .i64 0) := (kc_ BK350.out 1).trans rfl; have hcz51_2 : w48.cell? ⟨gb350, 2, none⟩ = some (.int .i64 0) := (kc_ BK350.out 2).trans rfl; have hcz51_3 : w48.cell? ⟨gb350, 3, none⟩ = some (.slice none 0 0) := (kc_ BK350.out 3).trans rfl; have hcz51_4 : w48.cell? ⟨gb350, 4, none⟩ = some (.bool false) := (kc_ BK350.out 4).trans rfl; have hcz51_5 : w48.cell? ⟨gb350, 5, none⟩ = some (.bool false) := (kc_ BK350.out 5).trans rfl; have hcz51_6 : w48.cell? ⟨gb350, 6, none⟩ = some (.int .u64 0) := (kc_ BK350.out 6).trans rfl; have hcz51_7 : w48.cell? ⟨gb350, 7, none⟩ = some (.int .u64 0) := (kc_ BK350.out 7).trans rfl; have hcz51_8 : w48.cell? ⟨gb350, 8, none⟩ = some (.int .u64 0) := (kc_ BK350.out 8).trans rfl; have hcz51_9 : w48.cell? ⟨gb350, 9, none⟩ = some (.int .u64 0) := (kc_ BK350.out 9).trans rfl; have hcz51_10 : w48.cell? ⟨gb350, 10, none⟩ = some (.int .u64 0) := (kc_ BK350.out 10).trans rfl; have hcz51_11 : w48.cell? ⟨gb350, 11, none⟩ = some (.int .u64 0) := (kc_ BK350.out 11).trans rfl; have hcz51_12 : w48.cell? ⟨gb350, 12, none⟩ = some (.int .i64 0) := (kc_ BK350.out 12).trans rfl; have hfz51_0 := kf_ BK350.out 0; have hfz51_1 := kf_ BK350.out 1; have hfz51_2 := kf_ BK350.out 2; have hfz51_3 := kf_ BK350.out 3; have hfz51_4 := kf_ BK350.out 4; have hfz51_5 := kf_ BK350.out 5; have hfz51_6 := kf_ BK350.out 6; have hfz51_7 := kf_ BK350.out 7; have hfz51_8 := kf_ BK350.out 8; have hfz51_9 := kf_ BK350.out 9; have hfz51_10 := kf_ BK350.out 10; have hfz51_11 := kf_ BK350.out 11; have hfz51_12 := kf_ BK350.out 12; obtain ⟨Ao52, co52, eo52⟩ := Kd.R_slice HO339.out; subst eo52; have hcz53_0 : w48.cell? ⟨gb304, 0, none⟩ = some (.int .i64 a0_0) := (kc_ BK304.out 0).trans rfl; have hcz53_1 : w48.cell? ⟨gb304, 1, none⟩ = some (.int .i64 a0_1) := (kc_ BK304.out 1).trans rfl; have hcz53_2 : w48.cell? ⟨gb304, 2, none⟩ = some (.int .i64 a0_2) := (kc_ BK304.out 2).trans rfl; have hcz53_3 : w48.cell? ⟨gb304, 3, none⟩ = some (.slice A0_3 l0_3.length c0_3) := (kc_ BK304.out 3).trans rfl; have hcz53_4 : w48.cell? ⟨gb304, 4, none⟩ = some (.bool a0_4) := (kc_ BK304.out 4).trans rfl; have hcz53_5 : w48.cell? ⟨gb304, 5, none⟩ = some (.bool a0_5) := (kc_ BK304.out 5).trans rfl; have hcz53_6 : w48.cell? ⟨gb304, 6, none⟩ = some (.int .u64 a0_6) := (kc_ BK304.out 6).trans rfl; have hcz53_7 : w48.cell? ⟨gb304, 7, none⟩ = some (.int .u64 a0_7) := (kc_ BK304.out 7).trans rfl; have hcz53_8 : w48.cell? ⟨gb304, 8, none⟩ = some (.int .u64 a0_8) := (kc_ BK304.out 8).trans rfl; have hcz53_9 : w48.cell? ⟨gb304, 9, none⟩ = some (.int .u64 a0_9) := (kc_ BK304.out 9).trans rfl; have hcz53_10 : w48.cell? ⟨gb304, 10, none⟩ = some (.int .u64 a0_10) := (kc_ BK304.out 10).trans rfl; have hcz53_11 : w48.cell? ⟨gb304, 11, none⟩ = some (.int .u64 a0_11) := (kc_ BK304.out 11).trans rfl; have hcz53_12 : w48.cell? ⟨gb304, 12, none⟩ = some (.int .i64 a0_12) := (kc_ BK304.out 12).trans rfl; have hfz53_0 := kf_ BK304.out 0; have hfz53_1 := kf_ BK304.out 1; have hfz53_2 := kf_ BK304.out 2; have hfz53_3 := kf_ BK304.out 3; have hfz53_4 := kf_ BK304.out 4; have hfz53_5 := kf_ BK304.out 5; have hfz53_6 := kf_ BK304.out 6; have hfz53_7 := kf_ BK304.out 7; have hfz53_8 := kf_ BK304.out 8; have hfz53_9 := kf_ BK304.out 9; have hfz53_10 := kf_ BK304.out 10; have hfz53_11 := kf_ BK304.out 11; have hfz53_12 := kf_ BK304.out 12) | ((with_reducible refine gate_callee (f := 18) rfl ?_); refine goesL_ (some 100) rfl rfl Try.func18 (by kernel_rfl) rfl #[.int .i64 (l0_3.length : Int)] rfl (by (try simp only [map_toArray, map_cons, map_nil]); first | done | rfl | (simp only [length_drop, length_take]; rfl)) ?_; (with_reducible refine (head_Length.calls (l0_3.length : Int) t351 t352 _ A37.out).mono ?_); rintro e w' ⟨rfl, ⟨nd, rfl⟩⟩; refine ⟨_, rfl, ?_⟩) | (go_at_call 26; (with_reducible refine (head_Same.calls kj11 t334 t335 t336 _ _ t337 t340 t341 t342 t343 t344 t345 t346 t347 t348 a0_0 a0_1 a0_2 _ _ l0_3 a0_4 a0_5 a0_6 a0_7 a0_8 a0_9 a0_10 a0_11 a0_12 true _ ?side1 ?side2 ?side3 ?side4 A41.out).mono ?_); (case side1 => refine (Kd.R_reads' (e := 41) (base := w.heap.size) (ok := fun k_ => (True ∧ some k_ ≠ (.slice Ao17 t309.length co17 : Value).ownBlock)) (n := t337.length) (c := co52) ?_).2.2; exact (by (with_reducible repeat (first | apply Kd.R_alloc | apply Kd.R_drewN | apply Kd.R_drew)); exact (Kd.R_mono (Kd.R_far (p := ⟨gb350, 12, none⟩) (Kd.R_far (p := ⟨gb350, 11, none⟩) (Kd.R_far (p := ⟨gb350, 10, none⟩) (Kd.R_far (p := ⟨gb350, 9, none⟩) (Kd.R_far (p := ⟨gb350, 8, none⟩) (Kd.R_far (p := ⟨gb350, 7, none⟩) (Kd.R_far (p := ⟨gb350, 6, none⟩) (Kd.R_far (p := ⟨gb350, 5, none⟩) (Kd.R_far (p := ⟨gb350, 4, none⟩) (Kd.R_far (p := ⟨gb350, 3, none⟩) (Kd.R_far (p := ⟨gb350, 2, none⟩) (Kd.R_far (p := ⟨gb350, 1, none⟩) (Kd.R_far (p := ⟨gb350, 0, none⟩) (Kd.R_types HO339.out BK350.out (by decide)) (fun _ hk => hk.2) (.int .i64 t334)) (fun _ hk => hk.2) (.int .i64 t335)) (fun _ hk => hk.2) (.int .i64 t336)) (fun _ hk => hk.2) (.slice Ao52 t337.length co52)) (fun _ hk => hk.2) (.bool t340)) (fun _ hk => hk.2) (.bool t341)) (fun _ hk => hk.2) (.int .u64 t342)) (fun _ hk => hk.2) (.int .u64 t343)) (fun _ hk => hk.2) (.int .u64 t344)) (fun _ hk => hk.2) (.int .u64 t345)) (fun _ hk => hk.2) (.int .u64 t346)) (fun _ hk => hk.2) (.int .u64 t347)) (fun _ hk => hk.2) (.int .i64 t348)) (fun _ h_ => h_.1)))); (case side2 => exact (Kd.R_reads' HO339.out).2.1); (case side3 => exact Kd.C_below HR0_3.out (by repeat (first | (with_reducible first | exact HB.out | apply ba_ | apply bn_ | apply bd_ | refine below_set ?_ GE304.out | refine below_set ?_ GE322.out | refine below_set ?_ GE350.out) | exact HB.out))); (case side4 => exact HC0_3.out); rintro e w54 ⟨rfl, hb⟩; have n0_ := ak_ (Kd.R_below (by (with_reducible repeat (first | apply Kd.R_alloc | apply Kd.R_drewN | apply Kd.R_drew)); exact (Kd.R_mono (Kd.R_far (p := ⟨gb350, 12, none⟩) (Kd.R_far (p := ⟨gb350, 11, none⟩) (Kd.R_far (p := ⟨gb350, 10, none⟩) (Kd.R_far (p := ⟨gb350, 9, none⟩) (Kd.R_far (p := ⟨gb350, 8, none⟩) (Kd.R_far (p := ⟨gb350, 7, none⟩) (Kd.R_far (p := ⟨gb350, 6, none⟩) (Kd.R_far (p := ⟨gb350, 5, none⟩) (Kd.R_far (p := ⟨gb350, 4, none⟩) (Kd.R_far (p := ⟨gb350, 3, none⟩) (Kd.R_far (p := ⟨gb350, 2, none⟩) (Kd.R_far (p := ⟨gb350, 1, none⟩) (Kd.R_far (p := ⟨gb350, 0, none⟩) (Kd.R_types HO_323003.out BK350.out (by decide)) (fun _ hk => hk.2) (.int .i64 t334)) (fun _ hk => hk.2) (.int .i64 t335)) (fun _ hk => hk.2) (.int .i64 t336)) (fun _ hk => hk.2) (.slice Ao52 t337.length co52)) (fun _ hk => hk.2) (.bool t340)) (fun _ hk => hk.2) (.bool t341)) (fun _ hk => hk.2) (.int .u64 t342)) (fun _ hk => hk.2) (.int .u64 t343)) (fun _ hk => hk.2) (.int .u64 t344)) (fun _ hk => hk.2) (.int .u64 t345)) (fun _ hk => hk.2) (.int .u64 t346)) (fun _ hk => hk.2) (.int .u64 t347)) (fun _ hk => hk.2) (.int .i64 t348)) (fun _ h_ => h_.1))) hb); have n1_ := ak_ (Kd.R_below (by (with_reducible repeat (first | apply Kd.R_alloc | apply Kd.R_drewN | apply Kd.R_drew)); exact (Kd.R_mono (Kd.R_far (p := ⟨gb350, 12, none⟩) (Kd.R_far (p := ⟨gb350, 11, none⟩) (Kd.R_far (p := ⟨gb350, 10, none⟩) (Kd.R_far (p := ⟨gb350, 9, none⟩) (Kd.R_far (p := ⟨gb350, 8, none⟩) (Kd.R_far (p := ⟨gb350, 7, none⟩) (Kd.R_far (p := ⟨gb350, 6, none⟩) (Kd.R_far (p := ⟨gb350, 5, none⟩) (Kd.R_far (p := ⟨gb350, 4, none⟩) (Kd.R_far (p := ⟨gb350, 3, none⟩) (Kd.R_far (p := ⟨gb350, 2, none⟩) (Kd.R_far (p := ⟨gb350, 1, none⟩) (Kd.R_far (p := ⟨gb350, 0, none⟩) (Kd.R_types HO332.out BK350.out (by decide)) (fun _ hk => hk.2) (.int .i64 t334)) (fun _ hk => hk.2) (.int .i64 t335)) (fun _ hk => hk.2) (.int .i64 t336)) (fun _ hk => hk.2) (.slice Ao52 t337.length co52)) (fun _ hk => hk.2) (.bool t340)) (fun _ hk => hk.2) (.bool t341)) (fun _ hk => hk.2) (.int .u64 t342)) (fun _ hk => hk.2) (.int .u64 t343)) (fun _ hk => hk.2) (.int .u64 t344)) (fun _ hk => hk.2) (.int .u64 t345)) (fun _ hk => hk.2) (.int .u64 t346)) (fun _ hk => hk.2) (.int .u64 t347)) (fun _ hk => hk.2) (.int .i64 t348)) (fun _ h_ => h_.1))) hb); have n2_ := ak_ (Kd.R_below (by (with_reducible repeat (first | apply Kd.R_alloc | apply Kd.R_drewN | apply Kd.R_drew)); exact (Kd.R_mono (Kd.R_far (p := ⟨gb350, 12, none⟩) (Kd.R_far (p := ⟨gb350, 11, none⟩) (Kd.R_far (p := ⟨gb350, 10, none⟩) (Kd.R_far (p := ⟨gb350, 9, none⟩) (Kd.R_far (p := ⟨gb350, 8, none⟩) (Kd.R_far (p := ⟨gb350, 7, none⟩) (Kd.R_far (p := ⟨gb350, 6, none⟩) (Kd.R_far (p := ⟨gb350, 5, none⟩) (Kd.R_far (p := ⟨gb350, 4, none⟩) (Kd.R_far (p := ⟨gb350, 3, none⟩) (Kd.R_far (p := ⟨gb350, 2, none⟩) (Kd.R_far (p := ⟨gb350, 1, none⟩) (Kd.R_far (p := ⟨gb350, 0, none⟩) (Kd.R_types HO339.out BK350.out (by decide)) (fun _ hk => hk.2) (.int .i64 t334)) (fun _ hk => hk.2) (.int .i64 t335)) (fun _ hk => hk.2) (.int .i64 t336)) (fun _ hk => hk.2) (.slice Ao52 t337.length co52)) (fun _ hk => hk.2) (.bool t340)) (fun _ hk => hk.2) (.bool t341)) (fun _ hk => hk.2) (.int .u64 t342)) (fun _ hk => hk.2) (.int .u64 t343)) (fun _ hk => hk.2) (.int .u64 t344)) (fun _ hk => hk.2) (.int .u64 t345)) (fun _ hk => hk.2) (.int .u64 t346)) (fun _ hk => hk.2) (.int .u64 t347)) (fun _ hk => hk.2) (.int .i64 t348)) (fun _ h_ => h_.1))) hb); have n3_ := ak_ (kb_ (g := gb304) (o := .cells #[.int .i64 a0_0, .int .i64 a0_1, .int .i64 a0_2, .slice A0_3 l0_3.length c0_3, .bool a0_4, .bool a0_5, .int .u64 a0_6, .int .u64 a0_7, .int .u64 a0_8, .int .u64 a0_9, .int .u64 a0_10, .int .u64 a0_11, .int .i64 a0_12] 31 (0, 0)) (by (with_reducible repeat (first | refine kn_ ?_ _ | refine kd_ ?_ | refine ka_ ?_ _)); refine blk_far ?_ NB304_350.out _; (with_reducible repeat (first | refine kn_ ?_ _ | refine kd_ ?_ | refine ka_ ?_ _)); refine blk_far ?_ NB304_350.out _; (with_reducible repeat (first | refine kn_ ?_ _ | refine kd_ ?_ | refine ka_ ?_ _)); refine blk_far ?_ NB304_350.out _; (with_reducible repeat (first | refine kn_ ?_ _ | refine kd_ ?_ | refine ka_ ?_ _)); refine blk_far ?_ NB304_350.out _; (with_reducible repeat (first | refine kn_ ?_ _ | refine kd_ ?_ | refine ka_ ?_ _)); refine blk_far ?_ NB304_350.out _; (with_reducible repeat (first | refine kn_ ?_ _ | refine kd_ ?_ | refine ka_ ?_ _)); refine blk_far ?_ NB304_350.out _; (with_reducible repeat (first | refine kn_ ?_ _ | refine kd_ ?_ | refine ka_ ?_ _)); refine blk_far ?_ NB304_350.out _; (with_reducible repeat (first | refine kn_ ?_ _ | refine kd_ ?_ | refine ka_ ?_ _)); refine blk_far ?_ NB304_350.out _; (with_reducible repeat (first | refine kn_ ?_ _ | refine kd_ ?_ | refine ka_ ?_ _)); refine blk_far ?_ NB304_350.out _; (with_reducible repeat (first | refine kn_ ?_ _ | refine kd_ ?_ | refine ka_ ?_ _)); refine blk_far ?_ NB304_350.out _; (with_reducible repeat (first | refine kn_ ?_ _ | refine kd_ ?_ | refine ka_ ?_ _)); refine blk_far ?_ NB304_350.out _; (with_reducible repeat (first | refine kn_ ?_ _ | refine kd_ ?_ | refine ka_ ?_ _)); refine blk_far ?_ NB304_350.out _; (with_reducible repeat (first | refine kn_ ?_ _ | refine kd_ ?_ | refine ka_ ?_ _)); refine blk_far ?_ NB304_350.out _; (with_reducible repeat (first | refine kn_ ?_ _ | refine kd_ ?_ | refine ka_ ?_ _)); exact BK304.out) hb); have n4_ := ak_ (kb_ (g := gb322) (o := .cells #[.int .i64 t306, .int .i64 t307, .int .i64 t308, .slice Ao17 t309.length co17, .bool t312, .bool t313, .int .u64 t314, .int .u64 t315, .int .u64 t316, .int .u64 t317, .int .u64 t318, .int .u64 t319, .int .i64 t320] 31 (0, 0)) (by (with_reducible repeat (first | refine kn_ ?_ _ | refine kd_ ?_ | refine ka_ ?_ _)); refine blk_far ?_ NB322_350.out _; (with_reducible repeat (first | refine kn_ ?_ _ | refine kd_ ?_ | refine ka_ ?_ _)); refine blk_far ?_ NB322_350.out _; (with_reducible repeat (first | refine kn_ ?_ _ | refine kd_ ?_ | refine ka_ ?_ _)); refine blk_far ?_ NB322_350.out _; (with_reducible repeat (first | refine kn_ ?_ _ | refine kd_ ?_ | refine ka_ ?_ _)); refine blk_far ?_ NB322_350.out _; (with_reducible repeat (first | refine kn_ ?_ _ | refine kd_ ?_ | refine ka_ ?_ _)); refine blk_far ?_ NB322_350.out _; (with_reducible repeat (first | refine kn_ ?_ _ | refine kd_ ?_ | refine ka_ ?_ _)); refine blk_far ?_ NB322_350.out _; (with_reducible repeat (first | refine kn_ ?_ _ | refine kd_ ?_ | refine ka_ ?_ _)); refine blk_far ?_ NB322_350.out _; (with_reducible repeat (first | refine kn_ ?_ _ | refine kd_ ?_ | refine ka_ ?_ _)); refine blk_far ?_ NB322_350.out _; (with_reducible repeat (first | refine kn_ ?_ _ | refine kd_ ?_ | refine ka_ ?_ _)); refine blk_far ?_ NB322_350.out _; (with_reducible repeat (first | refine kn_ ?_ _ | refine kd_ ?_ | refine ka_ ?_ _)); refine blk_far ?_ NB322_350.out _; (with_reducible repeat (first | refine kn_ ?_ _ | refine kd_ ?_ | refine ka_ ?_ _)); refine blk_far ?_ NB322_350.out _; (with_reducible repeat (first | refine kn_ ?_ _ | refine kd_ ?_ | refine ka_ ?_ _)); refine blk_far ?_ NB322_350.out _; (with_reducible repeat (first | refine kn_ ?_ _ | refine kd_ ?_ | refine ka_ ?_ _)); refine blk_far ?_ NB322_350.out _; (with_reducible repeat (first | refine kn_ ?_ _ | refine kd_ ?_ | refine ka_ ?_ _)); exact BK322.out) hb); have n5_ := ak_ (kb_ (g := gb350) (o := .cells #[.int .i64 t334, .int .i64 t335, .int .i64 t336, .slice Ao52 t337.length co52, .bool t340, .bool t341, .int .u64 t342, .int .u64 t343, .int .u64 t344, .int .u64 t345, .int .u64 t346, .int .u64 t347, .int .i64 t348] 31 (0, 0)) (by (with_reducible repeat (first | refine kn_ ?_ _ | refine kd_ ?_ | refine ka_ ?_ _)); refine blk_put (cs := #[.int .i64 t334, .int .i64 t335, .int .i64 t336, .slice Ao52 t337.length co52, .bool t340, .bool t341, .int .u64 t342, .int .u64 t343, .int .u64 t344, .int .u64 t345, .int .u64 t346, .int .u64 t347, .int .i64 0]) ?_ 12 _ rfl; (with_reducible repeat (first | refine kn_ ?_ _ | refine kd_ ?_ | refine ka_ ?_ _)); refine blk_put (cs := #[.int .i64 t334, .int .i64 t335, .int .i64 t336, .slice Ao52 t337.length co52, .bool t340, .bool t341, .int .u64 t342, .int .u64 t343, .int .u64 t344, .int .u64 t345, .int .u64 t346, .int .u64 0, .int .i64 0]) ?_ 11 _ rfl; (with_reducible repeat (first | refine kn_ ?_ _ | refine kd_ ?_ | refine ka_ ?_ _)); refine blk_put (cs := #[.int .i64 t334, .int .i64 t335, .int .i64 t336, .slice Ao52 t337.length co52, .bool t340, .bool t341, .int .u64 t342, .int .u64 t343, .int .u64 t344, .int .u64 t345, .int .u64 0, .int .u64 0, .int .i64 0]) ?_ 10 _ rfl; (with_reducible repeat (first | refine kn_ ?_ _ | refine kd_ ?_ | refine ka_ ?_ _)); refine blk_put (cs := #[.int .i64 t334, .int .i64 t335, .int .i64 t336, .slice Ao52 t337.length co52, .bool t340, .bool t341, .int .u64 t342, .int .u64 t343, .int .u64 t344, .int .u64 0, .int .u64 0, .int .u64 0, .int .i64 0]) ?_ 9 _ rfl; (with_reducible repeat (first | refine kn_ ?_ _ | refine kd_ ?_ | refine ka_ ?_ _)); refine blk_put (cs := #[.int .i64 t334, .int .i64 t335, .int .i64 t336, .slice Ao52 t337.length co52, .bool t340, .bool t341, .int .u64 t342, .int .u64 t343, .int .u64 0, .int .u64 0, .int .u64 0, .int .u64 0, .int .i64 0]) ?_ 8 _ rfl; (with_reducible repeat (first | refine kn_ ?_ _ | refine kd_ ?_ | refine ka_ ?_ _)); refine blk_put (cs := #[.int .i64 t334, .int .i64 t335, .int .i64 t336, .slice Ao52 t337.length co52, .bool t340, .bool t341, .int .u64 t342, .int .u64 0, .int .u64 0, .int .u64 0, .int .u64 0, .int .u64 0, .int .i64 0]) ?_ 7 _ rfl; (with_reducible repeat (first | refine kn_ ?_ _ | refine kd_ ?_ | refine ka_ ?_ _)); refine blk_put (cs := #[.int .i64 t334, .int .i64 t335, .int .i64 t336, .slice Ao52 t337.length co52, .bool t340, .bool t341, .int .u64 0, .int .u64 0, .int .u64 0, .int .u64 0, .int .u64 0, .int .u64 0, .int .i64 0]) ?_ 6 _ rfl; (with_reducible repeat (first | refine kn_ ?_ _ | refine kd_ ?_ | refine ka_ ?_ _)); refine blk_put (cs := #[.int .i64 t334, .int .i64 t335, .int .i64 t336, .slice Ao52 t337.length co52, .bool t340, .bool false, .int .u64 0, .int .u64 0, .int .u64 0, .int .u64 0, .int .u64 0, .int .u64 0, .int .i64 0]) ?_ 5 _ rfl; (with_reducible repeat (first | refine kn_ ?_ _ | refine kd_ ?_ | refine ka_ ?_ _)); refine blk_put (cs := #[.int .i64 t334, .int .i64 t335, .int .i64 t336, .slice Ao52 t337.length co52, .bool false, .bool false, .int .u64 0, .int .u64 0, .int .u64 0, .int .u64 0, .int .u64 0, .int .u64 0, .int .i64 0]) ?_ 4 _ rfl; (with_reducible repeat (first | refine kn_ ?_ _ | refine kd_ ?_ | refine ka_ ?_ _)); refine blk_put (cs := #[.int .i64 t334, .int .i64 t335, .int .i64 t336, .slice none 0 0, .bool false, .bool false, .int .u64 0, .int .u64 0, .int .u64 0, .int .u64 0, .int .u64 0, .int .u64 0, .int .i64 0]) ?_ 3 _ rfl; (with_reducible repeat (first | refine kn_ ?_ _ | refine kd_ ?_ | refine ka_ ?_ _)); refine blk_put (cs := #[.int .i64 t334, .int .i64 t335, .int .i64 0, .slice none 0 0, .bool false, .bool false, .int .u64 0, .int .u64 0, .int .u64 0, .int .u64 0, .int .u64 0, .int .u64 0, .int .i64 0]) ?_ 2 _ rfl; (with_reducible repeat (first | refine kn_ ?_ _ | refine kd_ ?_ | refine ka_ ?_ _)); refine blk_put (cs := #[.int .i64 t334, .int .i64 0, .int .i64 0, .slice none 0 0, .bool false, .bool false, .int .u64 0, .int .u64 0, .int .u64 0, .int .u64 0, .int .u64 0, .int .u64 0, .int .i64 0]) ?_ 1 _ rfl; (with_reducible repeat (first | refine kn_ ?_ _ | refine kd_ ?_ | refine ka_ ?_ _)); refine blk_put (cs := #[.int .i64 0, .int .i64 0, .int .i64 0, .slice none 0 0, .bool false, .bool false, .int .u64 0, .int .u64 0, .int .u64 0, .int .u64 0, .int .u64 0, .int .u64 0, .int .i64 0]) ?_ 0 _ rfl; (with_reducible repeat (first | refine kn_ ?_ _ | refine kd_ ?_ | refine ka_ ?_ _)); exact BK350.out) hb); have n6_ := ak_ (bt_ (by repeat (first | (with_reducible first | exact HB.out | apply ba_ | apply bn_ | apply bd_ | refine below_set ?_ GE304.out | refine below_set ?_ GE322.out | refine below_set ?_ GE350.out) | exact HB.out)) hb); clear HO_323003; clear HO332; clear HO339; clear BK304; clear BK322; clear BK350; clear HB; have HO_323003 := n0_; have HO332 := n1_; have HO339 := n2_; have BK304 := n3_; have BK322 := n4_; have BK350 := n5_; have HB := n6_; clear n0_ n1_ n2_ n3_ n4_ n5_ n6_; (try clear hb); (try clear hb2); (try clear hk); (try clear hi)))
            go_ret
            exact ⟨by first | rfl | (simp <;> rfl) | (simp [*] <;> rfl), by repeat (first | (with_reducible first | exact HB.out | apply ba_ | apply bn_ | apply bd_ | refine below_set ?_ GE304.out | refine below_set ?_ GE322.out | refine below_set ?_ GE350.out) | exact HB.out)⟩
           ·replace c42 := Bool.eq_false_iff.mpr c42
            subst c42
            have H1 : (some false) = some r := by rw [if_neg (show ¬ (false = true) by decide)] at H; exact H
            clear H
            have H := H1
            clear H1
            exact absurd ((Option.some.inj H).trans hT.out) Bool.false_ne_true
          ·rw [if_neg c40] at H
           have c40b0 : (t352 == 0) = false := beq_eq_false_iff_ne.mpr c40
           have c40b1 : (t352 != 0) = true := bne_iff_ne.mpr c40
           exact absurd ((Option.some.inj H).trans hT.out) Bool.false_ne_true
         ·rw [if_neg c39] at H
          have c39b0 : (t349 == 0) = false := beq_eq_false_iff_ne.mpr c39
          have c39b1 : (t349 != 0) = true := bne_iff_ne.mpr c39
          exact absurd ((Option.some.inj H).trans hT.out) Bool.false_ne_true
        ·replace c38 := Bool.eq_false_iff.mpr c38
         subst c38
         have H1 : (some false) = some r := by rw [if_neg (show ¬ (false = true) by decide)] at H; exact H
         clear H
         have H := H1
         clear H1
         exact absurd ((Option.some.inj H).trans hT.out) Bool.false_ne_true
       ·rw [if_neg c35] at H
        have c35b0 : (t333 == 0) = false := beq_eq_false_iff_ne.mpr c35
        have c35b1 : (t333 != 0) = true := bne_iff_ne.mpr c35
        by_cases c55 : t305 = true
        ·subst c55
         have H1 : ((head_Check.f kj11 a0_0 a0_1 a0_2 l0_3 a0_4 a0_5 a0_6 a0_7 a0_8 a0_9 a0_10 a0_11 a0_12).bind fun t354 => (if t354 = t333 then (some ((t330.length : Int) == 0)) else (some false))) = some r := by rw [if_pos rfl] at H; exact H
         clear H
         have H := H1
         clear H1
         replace H := Option.bind_eq_some_iff.mp H
         obtain ⟨t354, A560, H⟩ := H
         replace H : (if t354 = t333 then (some ((t330.length : Int) == 0)) else (some false)) = some r := H
         have A56 := ak_ A560
         clear A560
         by_cases c57 : t354 = t333
         ·rw [if_pos c57] at H
          have c57b0 : (t354 == t333) = true := beq_iff_eq.mpr c57
          have c57b1 : (t354 != t333) = false := bne_eq_false_iff_eq.mpr c57
          clear c57
          obtain rfl := Option.some.inj H
          have hnb58 := NB304_322.out
          have hnc58 := NB322_304.out
          have hcz59_0 : wc.cell? ⟨gb304, 0, none⟩ = some (.int .i64 a0_0) := (kc_ BK304.out 0).trans rfl
          have hcz59_1 : wc.cell? ⟨gb304, 1, none⟩ = some (.int .i64 a0_1) := (kc_ BK304.out 1).trans rfl
          have hcz59_2 : wc.cell? ⟨gb304, 2, none⟩ = some (.int .i64 a0_2) := (kc_ BK304.out 2).trans rfl
          have hcz59_3 : wc.cell? ⟨gb304, 3, none⟩ = some (.slice A0_3 l0_3.length c0_3) := (kc_ BK304.out 3).trans rfl
          have hcz59_4 : wc.cell? ⟨gb304, 4, none⟩ = some (.bool a0_4) := (kc_ BK304.out 4).trans rfl
          have hcz59_5 : wc.cell? ⟨gb304, 5, none⟩ = some (.bool a0_5) := (kc_ BK304.out 5).trans rfl
          have hcz59_6 : wc.cell? ⟨gb304, 6, none⟩ = some (.int .u64 a0_6) := (kc_ BK304.out 6).trans rfl
          have hcz59_7 : wc.cell? ⟨gb304, 7, none⟩ = some (.int .u64 a0_7) := (kc_ BK304.out 7).trans rfl
          have hcz59_8 : wc.cell? ⟨gb304, 8, none⟩ = some (.int .u64 a0_8) := (kc_ BK304.out 8).trans rfl
          have hcz59_9 : wc.cell? ⟨gb304, 9, none⟩ = some (.int .u64 a0_9) := (kc_ BK304.out 9).trans rfl
          have hcz59_10 : wc.cell? ⟨gb304, 10, none⟩ = some (.int .u64 a0_10) := (kc_ BK304.out 10).trans rfl
          have hcz59_11 : wc.cell? ⟨gb304, 11, none⟩ = some (.int .u64 a0_11) := (kc_ BK304.out 11).trans rfl
          have hcz59_12 : wc.cell? ⟨gb304, 12, none⟩ = some (.int .i64 a0_12) := (kc_ BK304.out 12).trans rfl
          have hfz59_0 := kf_ BK304.out 0
          have hfz59_1 := kf_ BK304.out 1
          have hfz59_2 := kf_ BK304.out 2
          have hfz59_3 := kf_ BK304.out 3
          have hfz59_4 := kf_ BK304.out 4
          have hfz59_5 := kf_ BK304.out 5
          have hfz59_6 := kf_ BK304.out 6
          have hfz59_7 := kf_ BK304.out 7
          have hfz59_8 := kf_ BK304.out 8
          have hfz59_9 := kf_ BK304.out 9
          have hfz59_10 := kf_ BK304.out 10
          have hfz59_11 := kf_ BK304.out 11
          have hfz59_12 := kf_ BK304.out 12
          go_wp2_with (first | ((with_reducible refine gate_callee (f := 17) rfl ?_); refine goesL_ (some 74) rfl rfl Try.func17 (by kernel_rfl) rfl #[.agg #[.int .i64 a0_0, .int .i64 a0_1, .int .i64 a0_2, .slice A0_3 l0_3.length c0_3, .bool a0_4, .bool a0_5, .int .u64 a0_6, .int .u64 a0_7, .int .u64 a0_8, .int .u64 a0_9, .int .u64 a0_10, .int .u64 a0_11, .int .i64 a0_12]] rfl (by (try simp only [map_toArray, map_cons, map_nil]); first | done | rfl | (simp only [length_drop, length_take]; rfl)) ?_; (with_reducible refine (head_Bytes.calls kj11 a0_0 a0_1 a0_2 _ _ l0_3 a0_4 a0_5 a0_6 a0_7 a0_8 a0_9 a0_10 a0_11 a0_12 t330 t333 _ ?side1 ?side2 A34.out).mono ?_); (case side1 => repeat (first | exact (Kd.C_below HR0_3.out HB.out) | (with_reducible refine Kd.C_alloc ?_ _) | (with_reducible refine Kd.C_drewN ?_ _) | (with_reducible refine Kd.C_drew ?_))); (case side2 => exact HC0_3.out); rintro e w60 ⟨v331, rfl, ho0, hb⟩; refine ⟨_, rfl, ?_⟩; have n0_ := ak_ (Kd.R_below (by (with_reducible repeat (first | apply Kd.R_alloc | apply Kd.R_drewN | apply Kd.R_drew)); exact HO_323003.out) hb); have n1_ := ak_ (Kd.R_lower ho0 (bz_ (by repeat (first | (with_reducible first | exact HB.out | apply ba_ | apply bn_ | apply bd_ | refine below_set ?_ GE304.out | refine below_set ?_ GE322.out) | exact HB.out)))); have n2_ := ak_ (kb_ (g := gb304) (o := .cells #[.int .i64 a0_0, .int .i64 a0_1, .int .i64 a0_2, .slice A0_3 l0_3.length c0_3, .bool a0_4, .bool a0_5, .int .u64 a0_6, .int .u64 a0_7, .int .u64 a0_8, .int .u64 a0_9, .int .u64 a0_10, .int .u64 a0_11, .int .i64 a0_12] 31 (0, 0)) (by (with_reducible repeat (first | refine kn_ ?_ _ | refine kd_ ?_ | refine ka_ ?_ _)); exact BK304.out) hb); have n3_ := ak_ (kb_ (g := gb322) (o := .cells #[.int .i64 t306, .int .i64 t307, .int .i64 t308, .slice Ao17 t309.length co17, .bool t312, .bool t313, .int .u64 t314, .int .u64 t315, .int .u64 t316, .int .u64 t317, .int .u64 t318, .int .u64 t319, .int .i64 t320] 31 (0, 0)) (by (with_reducible repeat (first | refine kn_ ?_ _ | refine kd_ ?_ | refine ka_ ?_ _)); exact BK322.out) hb); have n4_ := ak_ (bt_ (by repeat (first | (with_reducible first | exact HB.out | apply ba_ | apply bn_ | apply bd_ | refine below_set ?_ GE304.out | refine below_set ?_ GE322.out) | exact HB.out)) hb); clear HO_323003; clear BK304; clear BK322; clear HB; have HO_323003 := n0_; have HO332 := n1_; have BK304 := n2_; have BK322 := n3_; have HB := n4_; clear n0_ n1_ n2_ n3_ n4_; (try clear hb); (try clear hb2); (try clear hk); (try clear hi); (try clear ho0); have hcz61_0 : w60.cell? ⟨gb304, 0, none⟩ = some (.int .i64 a0_0) := (kc_ BK304.out 0).trans rfl; have hcz61_1 : w60.cell? ⟨gb304, 1, none⟩ = some (.int .i64 a0_1) := (kc_ BK304.out 1).trans rfl; have hcz61_2 : w60.cell? ⟨gb304, 2, none⟩ = some (.int .i64 a0_2) := (kc_ BK304.out 2).trans rfl; have hcz61_3 : w60.cell? ⟨gb304, 3, none⟩ = some (.slice A0_3 l0_3.length c0_3) := (kc_ BK304.out 3).trans rfl; have hcz61_4 : w60.cell? ⟨gb304, 4, none⟩ = some (.bool a0_4) := (kc_ BK304.out 4).trans rfl; have hcz61_5 : w60.cell? ⟨gb304, 5, none⟩ = some (.bool a0_5) := (kc_ BK304.out 5).trans rfl; have hcz61_6 : w60.cell? ⟨gb304, 6, none⟩ = some (.int .u64 a0_6) := (kc_ BK304.out 6).trans rfl; have hcz61_7 : w60.cell? ⟨gb304, 7, none⟩ = some (.int .u64 a0_7) := (kc_ BK304.out 7).trans rfl; have hcz61_8 : w60.cell? ⟨gb304, 8, none⟩ = some (.int .u64 a0_8) := (kc_ BK304.out 8).trans rfl; have hcz61_9 : w60.cell? ⟨gb304, 9, none⟩ = some (.int .u64 a0_9) := (kc_ BK304.out 9).trans rfl; have hcz61_10 : w60.cell? ⟨gb304, 10, none⟩ = some (.int .u64 a0_10) := (kc_ BK304.out 10).trans rfl; have hcz61_11 : w60.cell? ⟨gb304, 11, none⟩ = some (.int .u64 a0_11) := (kc_ BK304.out 11).trans rfl; have hcz61_12 : w60.cell? ⟨gb304, 12, none⟩ = some (.int .i64 a0_12) := (kc_ BK304.out 12).trans rfl; have hfz61_0 := kf_ BK304.out 0; have hfz61_1 := kf_ BK304.out 1; have hfz61_2 := kf_ BK304.out 2; have hfz61_3 := kf_ BK304.out 3; have hfz61_4 := kf_ BK304.out 4; have hfz61_5 := kf_ BK304.out 5; have hfz61_6 := kf_ BK304.out 6; have hfz61_7 := kf_ BK304.out 7; have hfz61_8 := kf_ BK304.out 8; have hfz61_9 := kf_ BK304.out 9; have hfz61_10 := kf_ BK304.out 10; have hfz61_11 := kf_ BK304.out 11; have hfz61_12 := kf_ BK304.out 12) | (go_at_call 16; (with_reducible refine (head_Check.calls kj11 a0_0 a0_1 a0_2 _ _ l0_3 a0_4 a0_5 a0_6 a0_7 a0_8 a0_9 a0_10 a0_11 a0_12 t354 _ ?side1 ?side2 A56.out).mono ?_); (case side1 => repeat (first | exact (Kd.C_below HR0_3.out HB.out) | (with_reducible refine Kd.C_alloc ?_ _) | (with_reducible refine Kd.C_drewN ?_ _) | (with_reducible refine Kd.C_drew ?_))); (case side2 => exact HC0_3.out); rintro e w62 ⟨rfl, hb⟩; have n0_ := ak_ (Kd.R_below (by (with_reducible repeat (first | apply Kd.R_alloc | apply Kd.R_drewN | apply Kd.R_drew)); exact HO_323003.out) hb); have n1_ := ak_ (Kd.R_below (by (with_reducible repeat (first | apply Kd.R_alloc | apply Kd.R_drewN | apply Kd.R_drew)); exact HO332.out) hb); have n2_ := ak_ (kb_ (g := gb304) (o := .cells #[.int .i64 a0_0, .int .i64 a0_1, .int .i64 a0_2, .slice A0_3 l0_3.length c0_3, .bool a0_4, .bool a0_5, .int .u64 a0_6, .int .u64 a0_7, .int .u64 a0_8, .int .u64 a0_9, .int .u64 a0_10, .int .u64 a0_11, .int .i64 a0_12] 31 (0, 0)) (by (with_reducible repeat (first | refine kn_ ?_ _ | refine kd_ ?_ | refine ka_ ?_ _)); exact BK304.out) hb); have n3_ := ak_ (kb_ (g := gb322) (o := .cells #[.int .i64 t306, .int .i64 t307, .int .i64 t308, .slice Ao17 t309.length co17, .bool t312, .bool t313, .int .u64 t314, .int .u64 t315, .int .u64 t316, .int .u64 t317, .int .u64 t318, .int .u64 t319, .int .i64 t320] 31 (0, 0)) (by (with_reducible repeat (first | refine kn_ ?_ _ | refine kd_ ?_ | refine ka_ ?_ _)); exact BK322.out) hb); have n4_ := ak_ (bt_ (by repeat (first | (with_reducible first | exact HB.out | apply ba_ | apply bn_ | apply bd_ | refine below_set ?_ GE304.out | refine below_set ?_ GE322.out) | exact HB.out)) hb); clear HO_323003; clear HO332; clear BK304; clear BK322; clear HB; have HO_323003 := n0_; have HO332 := n1_; have BK304 := n2_; have BK322 := n3_; have HB := n4_; clear n0_ n1_ n2_ n3_ n4_; (try clear hb); (try clear hb2); (try clear hk); (try clear hi); obtain ⟨Ao63, co63, eo63⟩ := Kd.R_slice HO332.out; subst eo63))
          go_ret
          exact ⟨by first | rfl | (simp <;> rfl) | (simp [*] <;> rfl), by repeat (first | (with_reducible first | exact HB.out | apply ba_ | apply bn_ | apply bd_ | refine below_set ?_ GE304.out | refine below_set ?_ GE322.out) | exact HB.out)⟩
         ·rw [if_neg c57] at H
          have c57b0 : (t354 == t333) = false := beq_eq_false_iff_ne.mpr c57
          have c57b1 : (t354 != t333) = true := bne_iff_ne.mpr c57
          exact absurd ((Option.some.inj H).trans hT.out) Bool.false_ne_true
        ·replace c55 := Bool.eq_false_iff.mpr c55
         subst c55
         have H1 : (some false) = some r := by rw [if_neg (show ¬ (false = true) by decide)] at H; exact H
         clear H
         have H := H1
         clear H1
         exact absurd ((Option.some.inj H).trans hT.out) Bool.false_ne_true

end Go.Proofs.Ytoljdfgkkkpnbaa.MP
