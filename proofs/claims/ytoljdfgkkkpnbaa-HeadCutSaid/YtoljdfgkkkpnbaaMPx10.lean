-- written by a program of this session (wip/tools/mprint.sh) for this seat
import Derived.Test.YtoljdfgkkkpnbaaMPx0
import Derived.Test.YtoljdfgkkkpnbaaMPx4
import Derived.Test.YtoljdfgkkkpnbaaMPx6
import Derived.Test.YtoljdfgkkkpnbaaMPx8
namespace Go.Proofs.Ytoljdfgkkkpnbaa.MP
open Go.RowKit Go.Proofs.YtoljdfgkkkpnbaaW.PrintWords Go.Proofs.YtoljdfgkkkpnbaaW.PrintLast Go.Proofs.YtoljdfgkkkpnbaaW.PrintMore
open List (setIfInBounds_toArray set_cons_zero set_cons_succ map_toArray map_cons map_nil length_drop length_take)
attribute [local go_sem] max2_int min2_int max_two min_two max_three min_three max_four min_four   -- for this text's walks alone
set_option linter.unusedVariables false
set_option linter.unusedSimpArgs false

def bA10 (k n : Nat) : Array Bool := (Array.range n).map fun i => decide (i < k)
/-! ### medlarlaw16_HeadCut: function 7 -/
mutual
def medlarlaw16_HeadCut.j0 : Nat → Int → List Int → Bool → Bool → Int → Int → Int → List (S41) → Bool → Bool → Int → Int → Int → Int → Int → Int → Int → Int → Int → Int → List (S41) → Bool → Bool → Int → Int → Int → Int → Int → Int → Int → Option (Bool)
  | 0, _, _, _, _, _, _, _, _, _, _, _, _, _, _, _, _, _, _, _, _, _, _, _, _, _, _, _, _, _, _ => none
  | k + 1, x2, x3, x9, x33, x356000, x356001, x356002, x356003, x356004, x356005, x356006, x356007, x356008, x356009, x356010, x356011, x356012, x357000, x357001, x357002, x357003, x357004, x357005, x357006, x357007, x357008, x357009, x357010, x357011, x357012 => if x33 = true then (some x9) else ((head_Bytes.f k x356000 x356001 x356002 x356003 x356004 x356005 x356006 x356007 x356008 x356009 x356010 x356011 x356012).bind fun bt358 => ((head_Bytes.f k x357000 x357001 x357002 x357003 x357004 x357005 x357006 x357007 x357008 x357009 x357010 x357011 x357012).bind fun bt362 => (if bt358.2 = 0 then (if bt362.2 = 0 then ((head_Same.f k x356000 x356001 x356002 x356003 x356004 x356005 x356006 x356007 x356008 x356009 x356010 x356011 x356012 x357000 x357001 x357002 x357003 x357004 x357005 x357006 x357007 x357008 x357009 x357010 x357011 x357012).bind fun t366 => (medlarlaw16_HeadCut.j1 k x2 x3 x9 bt358.1 (((strOfNums bt358.1).toList == (strOfNums bt362.1).toList) != t366))) else (medlarlaw16_HeadCut.j1 k x2 x3 x9 bt358.1 false)) else (some x9))))
def medlarlaw16_HeadCut.j1 : Nat → Int → List Int → Bool → List Int → Bool → Option (Bool)
  | 0, _, _, _, _, _ => none
  | k + 1, x2, x3, x9, x10, x60 => if x60 = true then (some false) else (if x2 ≥ 0 then (medlarlaw16_HeadCut.j2 k x2 x3 x9 x10 (decide (x2 < (x10.length : Int)))) else (medlarlaw16_HeadCut.j2 k x2 x3 x9 x10 false))
def medlarlaw16_HeadCut.j2 : Nat → Int → List Int → Bool → List Int → Bool → Option (Bool)
  | 0, _, _, _, _, _ => none
  | k + 1, x2, x3, x9, x10, x68 => if x68 = true then (if 0 ≤ x2 then (if x2 ≤ (x10.length : Int) then ((head_From.f k (x10.take (x2 : Int).toNat)).bind fun bt371 => (if bt371.2.2.2.2.2.2.2.2.2.2.2.2.2 = 2 then (if ([] : List Int).length + x10.length < 140737488355328 then ((some (([] : List Int) ++ x10 : List Int)).bind fun y388 => (if y388.length + x3.length < 140737488355328 then ((head_From.f k (y388 ++ x3)).bind fun bt394 => (if x9 = true then (some ((bt394.2.2.2.2.2.2.2.2.2.2.2.2.2 == 0) == ((x3.length : Int) == 0))) else (some false))) else (none))) else (none)) else (some false))) else (none)) else (none)) else (if ([] : List Int).length + x10.length < 140737488355328 then ((some (([] : List Int) ++ x10 : List Int)).bind fun y411 => (if y411.length + x3.length < 140737488355328 then ((head_From.f k (y411 ++ x3)).bind fun bt417 => (if x9 = true then (some ((bt417.2.2.2.2.2.2.2.2.2.2.2.2.2 == 0) == ((x3.length : Int) == 0))) else (some false))) else (none))) else (none))
end
def medlarlaw16_HeadCut.f (k : Nat) (a0_0 : Int) (a0_1 : Int) (a0_2 : Int) (l0_3 : List (S41)) (a0_4 : Bool) (a0_5 : Bool) (a0_6 : Int) (a0_7 : Int) (a0_8 : Int) (a0_9 : Int) (a0_10 : Int) (a0_11 : Int) (a0_12 : Int) (a1_0 : Int) (a1_1 : Int) (a1_2 : Int) (l1_3 : List (S41)) (a1_4 : Bool) (a1_5 : Bool) (a1_6 : Int) (a1_7 : Int) (a1_8 : Int) (a1_9 : Int) (a1_10 : Int) (a1_11 : Int) (a1_12 : Int) (a2 : Int) (l3 : List Int) : Option (Bool) := (medlarlaw16_live.f k).bind fun t357 => (if (l0_3.length : Int) > 60 then (medlarlaw16_HeadCut.j0 k a2 l3 t357 true a0_0 a0_1 a0_2 l0_3 a0_4 a0_5 a0_6 a0_7 a0_8 a0_9 a0_10 a0_11 a0_12 a1_0 a1_1 a1_2 l1_3 a1_4 a1_5 a1_6 a1_7 a1_8 a1_9 a1_10 a1_11 a1_12) else (if (l1_3.length : Int) > 60 then (medlarlaw16_HeadCut.j0 k a2 l3 t357 true a0_0 a0_1 a0_2 l0_3 a0_4 a0_5 a0_6 a0_7 a0_8 a0_9 a0_10 a0_11 a0_12 a1_0 a1_1 a1_2 l1_3 a1_4 a1_5 a1_6 a1_7 a1_8 a1_9 a1_10 a1_11 a1_12) else (medlarlaw16_HeadCut.j0 k a2 l3 t357 (decide ((l3.length : Int) > 100)) a0_0 a0_1 a0_2 l0_3 a0_4 a0_5 a0_6 a0_7 a0_8 a0_9 a0_10 a0_11 a0_12 a1_0 a1_1 a1_2 l1_3 a1_4 a1_5 a1_6 a1_7 a1_8 a1_9 a1_10 a1_11 a1_12)))
theorem medlarlaw16_HeadCut.mono_l : ∀ k, (∀ y0 y1 y2 y3 y4 y5 y6 y7 y8 y9 y10 y11 y12 y13 y14 y15 y16 y17 y18 y19 y20 y21 y22 y23 y24 y25 y26 y27 y28 y29, LeO (medlarlaw16_HeadCut.j0 k y0 y1 y2 y3 y4 y5 y6 y7 y8 y9 y10 y11 y12 y13 y14 y15 y16 y17 y18 y19 y20 y21 y22 y23 y24 y25 y26 y27 y28 y29) (medlarlaw16_HeadCut.j0 (k + 1) y0 y1 y2 y3 y4 y5 y6 y7 y8 y9 y10 y11 y12 y13 y14 y15 y16 y17 y18 y19 y20 y21 y22 y23 y24 y25 y26 y27 y28 y29)) ∧ (∀ y0 y1 y2 y3 y4, LeO (medlarlaw16_HeadCut.j1 k y0 y1 y2 y3 y4) (medlarlaw16_HeadCut.j1 (k + 1) y0 y1 y2 y3 y4)) ∧ (∀ y0 y1 y2 y3 y4, LeO (medlarlaw16_HeadCut.j2 k y0 y1 y2 y3 y4) (medlarlaw16_HeadCut.j2 (k + 1) y0 y1 y2 y3 y4))
  | 0 => ⟨fun _ _ _ _ _ _ _ _ _ _ _ _ _ _ _ _ _ _ _ _ _ _ _ _ _ _ _ _ _ _ r h => by simp [medlarlaw16_HeadCut.j0] at h, fun _ _ _ _ _ r h => by simp [medlarlaw16_HeadCut.j1] at h, fun _ _ _ _ _ r h => by simp [medlarlaw16_HeadCut.j2] at h⟩
  | k + 1 => by
   obtain ⟨ih0, ih1, ih2⟩ := medlarlaw16_HeadCut.mono_l k
   refine ⟨?_, ?_, ?_⟩
   ·intro y0 y1 y2 y3 y4 y5 y6 y7 y8 y9 y10 y11 y12 y13 y14 y15 y16 y17 y18 y19 y20 y21 y22 y23 y24 y25 y26 y27 y28 y29
    unfold medlarlaw16_HeadCut.j0
    repeat' first
    | (with_reducible exact ih0 _ _ _ _ _ _ _ _ _ _ _ _ _ _ _ _ _ _ _ _ _ _ _ _ _ _ _ _ _ _)
    | (with_reducible exact ih1 _ _ _ _ _)
    | (with_reducible exact ih2 _ _ _ _ _)
    | (with_reducible exact head_Bytes.mono _ _ _ _ _ _ _ _ _ _ _ _ _ _)
    | (with_reducible exact head_From.mono _ _)
    | (with_reducible exact head_Same.mono _ _ _ _ _ _ _ _ _ _ _ _ _ _ _ _ _ _ _ _ _ _ _ _ _ _ _)
    | (with_reducible exact medlarlaw16_live.mono _)
    | (with_reducible exact LeO.refl _)
    | (with_reducible exact LeO.none _)
    | (with_reducible refine LeO.ite ?_ ?_)
    | (with_reducible refine LeO.bind ?_ (fun _ => ?_))
    | exact ih0 _ _ _ _ _ _ _ _ _ _ _ _ _ _ _ _ _ _ _ _ _ _ _ _ _ _ _ _ _ _
    | exact ih1 _ _ _ _ _
    | exact ih2 _ _ _ _ _
    | exact head_Bytes.mono _ _ _ _ _ _ _ _ _ _ _ _ _ _
    | exact head_From.mono _ _
    | exact head_Same.mono _ _ _ _ _ _ _ _ _ _ _ _ _ _ _ _ _ _ _ _ _ _ _ _ _ _ _
    | exact medlarlaw16_live.mono _
    | exact LeO.none _
    | refine LeO.ite ?_ ?_
    | refine LeO.bind ?_ (fun _ => ?_)
   ·intro y0 y1 y2 y3 y4
    unfold medlarlaw16_HeadCut.j1
    repeat' first
    | (with_reducible exact ih0 _ _ _ _ _ _ _ _ _ _ _ _ _ _ _ _ _ _ _ _ _ _ _ _ _ _ _ _ _ _)
    | (with_reducible exact ih1 _ _ _ _ _)
    | (with_reducible exact ih2 _ _ _ _ _)
    | (with_reducible exact head_Bytes.mono _ _ _ _ _ _ _ _ _ _ _ _ _ _)
    | (with_reducible exact head_From.mono _ _)
    | (with_reducible exact head_Same.mono _ _ _ _ _ _ _ _ _ _ _ _ _ _ _ _ _ _ _ _ _ _ _ _ _ _ _)
    | (with_reducible exact medlarlaw16_live.mono _)
    | (with_reducible exact LeO.refl _)
    | (with_reducible exact LeO.none _)
    | (with_reducible refine LeO.ite ?_ ?_)
    | (with_reducible refine LeO.bind ?_ (fun _ => ?_))
    | exact ih0 _ _ _ _ _ _ _ _ _ _ _ _ _ _ _ _ _ _ _ _ _ _ _ _ _ _ _ _ _ _
    | exact ih1 _ _ _ _ _
    | exact ih2 _ _ _ _ _
    | exact head_Bytes.mono _ _ _ _ _ _ _ _ _ _ _ _ _ _
    | exact head_From.mono _ _
    | exact head_Same.mono _ _ _ _ _ _ _ _ _ _ _ _ _ _ _ _ _ _ _ _ _ _ _ _ _ _ _
    | exact medlarlaw16_live.mono _
    | exact LeO.none _
    | refine LeO.ite ?_ ?_
    | refine LeO.bind ?_ (fun _ => ?_)
   ·intro y0 y1 y2 y3 y4
    unfold medlarlaw16_HeadCut.j2
    repeat' first
    | (with_reducible exact ih0 _ _ _ _ _ _ _ _ _ _ _ _ _ _ _ _ _ _ _ _ _ _ _ _ _ _ _ _ _ _)
    | (with_reducible exact ih1 _ _ _ _ _)
    | (with_reducible exact ih2 _ _ _ _ _)
    | (with_reducible exact head_Bytes.mono _ _ _ _ _ _ _ _ _ _ _ _ _ _)
    | (with_reducible exact head_From.mono _ _)
    | (with_reducible exact head_Same.mono _ _ _ _ _ _ _ _ _ _ _ _ _ _ _ _ _ _ _ _ _ _ _ _ _ _ _)
    | (with_reducible exact medlarlaw16_live.mono _)
    | (with_reducible exact LeO.refl _)
    | (with_reducible exact LeO.none _)
    | (with_reducible refine LeO.ite ?_ ?_)
    | (with_reducible refine LeO.bind ?_ (fun _ => ?_))
    | exact ih0 _ _ _ _ _ _ _ _ _ _ _ _ _ _ _ _ _ _ _ _ _ _ _ _ _ _ _ _ _ _
    | exact ih1 _ _ _ _ _
    | exact ih2 _ _ _ _ _
    | exact head_Bytes.mono _ _ _ _ _ _ _ _ _ _ _ _ _ _
    | exact head_From.mono _ _
    | exact head_Same.mono _ _ _ _ _ _ _ _ _ _ _ _ _ _ _ _ _ _ _ _ _ _ _ _ _ _ _
    | exact medlarlaw16_live.mono _
    | exact LeO.none _
    | refine LeO.ite ?_ ?_
    | refine LeO.bind ?_ (fun _ => ?_)
theorem medlarlaw16_HeadCut.mono : ∀ a0 a1 a2 a3 a4 a5 a6 a7 a8 a9 a10 a11 a12 a13 a14 a15 a16 a17 a18 a19 a20 a21 a22 a23 a24 a25 a26 a27 k, LeO (medlarlaw16_HeadCut.f k a0 a1 a2 a3 a4 a5 a6 a7 a8 a9 a10 a11 a12 a13 a14 a15 a16 a17 a18 a19 a20 a21 a22 a23 a24 a25 a26 a27) (medlarlaw16_HeadCut.f (k + 1) a0 a1 a2 a3 a4 a5 a6 a7 a8 a9 a10 a11 a12 a13 a14 a15 a16 a17 a18 a19 a20 a21 a22 a23 a24 a25 a26 a27) := by
  intro a0 a1 a2 a3 a4 a5 a6 a7 a8 a9 a10 a11 a12 a13 a14 a15 a16 a17 a18 a19 a20 a21 a22 a23 a24 a25 a26 a27 k
  obtain ⟨ih0, ih1, ih2⟩ := medlarlaw16_HeadCut.mono_l k
  unfold medlarlaw16_HeadCut.f
  repeat' first
    | (with_reducible exact ih0 _ _ _ _ _ _ _ _ _ _ _ _ _ _ _ _ _ _ _ _ _ _ _ _ _ _ _ _ _ _)
    | (with_reducible exact ih1 _ _ _ _ _)
    | (with_reducible exact ih2 _ _ _ _ _)
    | (with_reducible exact head_Bytes.mono _ _ _ _ _ _ _ _ _ _ _ _ _ _)
    | (with_reducible exact head_From.mono _ _)
    | (with_reducible exact head_Same.mono _ _ _ _ _ _ _ _ _ _ _ _ _ _ _ _ _ _ _ _ _ _ _ _ _ _ _)
    | (with_reducible exact medlarlaw16_live.mono _)
    | (with_reducible exact LeO.refl _)
    | (with_reducible exact LeO.none _)
    | (with_reducible refine LeO.ite ?_ ?_)
    | (with_reducible refine LeO.bind ?_ (fun _ => ?_))
    | exact ih0 _ _ _ _ _ _ _ _ _ _ _ _ _ _ _ _ _ _ _ _ _ _ _ _ _ _ _ _ _ _
    | exact ih1 _ _ _ _ _
    | exact ih2 _ _ _ _ _
    | exact head_Bytes.mono _ _ _ _ _ _ _ _ _ _ _ _ _ _
    | exact head_From.mono _ _
    | exact head_Same.mono _ _ _ _ _ _ _ _ _ _ _ _ _ _ _ _ _ _ _ _ _ _ _ _ _ _ _
    | exact medlarlaw16_live.mono _
    | exact LeO.none _
    | refine LeO.ite ?_ ?_
    | refine LeO.bind ?_ (fun _ => ?_)
def medlarlaw16_HeadCut.T8 : Bool × List (List Nat × List Nat) := (true, [([], []), ([0], [0]), ([1], [1]), ([2], [2]), ([3, 2], [2, 3]), ([2], [2]), ([5, 2], [2, 5]), ([4, 6, 2], [2, 4, 6]), ([2], [2]), ([2], [2]), ([8, 9, 2, 2], [2, 8, 9]), ([7, 10, 2], [2, 7, 10]), ([2, 11], [2, 11])])
def medlarlaw16_HeadCut.B8 : List Nat := [0, 1, 3, 7, 15, 7, 39, 127, 7, 7, 775, 2047, 4095]
theorem medlarlaw16_HeadCut.tab8 : rtab .any (opsOf Try.f7 8) = medlarlaw16_HeadCut.T8 := by kernel_rfl
theorem medlarlaw16_HeadCut.bits8 : waitsOk medlarlaw16_HeadCut.T8.2 medlarlaw16_HeadCut.B8 = true := by kernel_rfl
set_option maxHeartbeats 8000000 in
set_option maxRecDepth 100000 in
theorem medlarlaw16_HeadCut.calls (k : Nat) (a0_0 : Int) (a0_1 : Int) (a0_2 : Int) (A0_3 : Option Addr) (c0_3 : Nat) (l0_3 : List (S41)) (a0_4 : Bool) (a0_5 : Bool) (a0_6 : Int) (a0_7 : Int) (a0_8 : Int) (a0_9 : Int) (a0_10 : Int) (a0_11 : Int) (a0_12 : Int) (a1_0 : Int) (a1_1 : Int) (a1_2 : Int) (A1_3 : Option Addr) (c1_3 : Nat) (l1_3 : List (S41)) (a1_4 : Bool) (a1_5 : Bool) (a1_6 : Int) (a1_7 : Int) (a1_8 : Int) (a1_9 : Int) (a1_10 : Int) (a1_11 : Int) (a1_12 : Int) (a2 : Int) (A3 : Option Addr) (c3 : Nat) (l3 : List Int) (r : Bool) (w : World) (hr0_3 : Kd.C k41 w A0_3 l0_3.length l0_3) (hc0_3 : l0_3.length ≤ c0_3) (hr1_3 : Kd.C k41 w A1_3 l1_3.length l1_3) (hc1_3 : l1_3.length ≤ c1_3) (hr3 : Kd.C (Kd.int .u8) w A3 l3.length l3) (hc3 : l3.length ≤ c3) (h : medlarlaw16_HeadCut.f k a0_0 a0_1 a0_2 l0_3 a0_4 a0_5 a0_6 a0_7 a0_8 a0_9 a0_10 a0_11 a0_12 a1_0 a1_1 a1_2 l1_3 a1_4 a1_5 a1_6 a1_7 a1_8 a1_9 a1_10 a1_11 a1_12 a2 l3 = some r) (hT : Aside0 (r = true)) :
   Calls Try.prog 7 #[.agg #[.int .i64 a0_0, .int .i64 a0_1, .int .i64 a0_2, .slice A0_3 l0_3.length c0_3, .bool a0_4, .bool a0_5, .int .u64 a0_6, .int .u64 a0_7, .int .u64 a0_8, .int .u64 a0_9, .int .u64 a0_10, .int .u64 a0_11, .int .i64 a0_12], .agg #[.int .i64 a1_0, .int .i64 a1_1, .int .i64 a1_2, .slice A1_3 l1_3.length c1_3, .bool a1_4, .bool a1_5, .int .u64 a1_6, .int .u64 a1_7, .int .u64 a1_8, .int .u64 a1_9, .int .u64 a1_10, .int .u64 a1_11, .int .i64 a1_12], .int .i64 a2, .slice A3 l3.length c3] w fun e w' => e = .returned (.bool r) ∧ Below w.heap.size w w' := by
  have hu31 := Try.underlying31
  have HR0_3 := ak_ hr0_3
  have HC0_3 := ak_ hc0_3
  clear hr0_3 hc0_3
  have HR1_3 := ak_ hr1_3
  have HC1_3 := ak_ hc1_3
  clear hr1_3 hc1_3
  have HR3 := ak_ hr3
  have HC3 := ak_ hc3
  clear hr3 hc3
  have HB := ak_ (Below.refl w.heap.size w)
  have H : ((medlarlaw16_live.f k).bind fun t357 => (if (l0_3.length : Int) > 60 then (medlarlaw16_HeadCut.j0 k a2 l3 t357 true a0_0 a0_1 a0_2 l0_3 a0_4 a0_5 a0_6 a0_7 a0_8 a0_9 a0_10 a0_11 a0_12 a1_0 a1_1 a1_2 l1_3 a1_4 a1_5 a1_6 a1_7 a1_8 a1_9 a1_10 a1_11 a1_12) else (if (l1_3.length : Int) > 60 then (medlarlaw16_HeadCut.j0 k a2 l3 t357 true a0_0 a0_1 a0_2 l0_3 a0_4 a0_5 a0_6 a0_7 a0_8 a0_9 a0_10 a0_11 a0_12 a1_0 a1_1 a1_2 l1_3 a1_4 a1_5 a1_6 a1_7 a1_8 a1_9 a1_10 a1_11 a1_12) else (medlarlaw16_HeadCut.j0 k a2 l3 t357 (decide ((l3.length : Int) > 100)) a0_0 a0_1 a0_2 l0_3 a0_4 a0_5 a0_6 a0_7 a0_8 a0_9 a0_10 a0_11 a0_12 a1_0 a1_1 a1_2 l1_3 a1_4 a1_5 a1_6 a1_7 a1_8 a1_9 a1_10 a1_11 a1_12)))) = some r := h
  clear h
  replace H := Option.bind_eq_some_iff.mp H
  obtain ⟨t357, A50, H⟩ := H
  replace H : (if (l0_3.length : Int) > 60 then (medlarlaw16_HeadCut.j0 k a2 l3 t357 true a0_0 a0_1 a0_2 l0_3 a0_4 a0_5 a0_6 a0_7 a0_8 a0_9 a0_10 a0_11 a0_12 a1_0 a1_1 a1_2 l1_3 a1_4 a1_5 a1_6 a1_7 a1_8 a1_9 a1_10 a1_11 a1_12) else (if (l1_3.length : Int) > 60 then (medlarlaw16_HeadCut.j0 k a2 l3 t357 true a0_0 a0_1 a0_2 l0_3 a0_4 a0_5 a0_6 a0_7 a0_8 a0_9 a0_10 a0_11 a0_12 a1_0 a1_1 a1_2 l1_3 a1_4 a1_5 a1_6 a1_7 a1_8 a1_9 a1_10 a1_11 a1_12) else (medlarlaw16_HeadCut.j0 k a2 l3 t357 (decide ((l3.length : Int) > 100)) a0_0 a0_1 a0_2 l0_3 a0_4 a0_5 a0_6 a0_7 a0_8 a0_9 a0_10 a0_11 a0_12 a1_0 a1_1 a1_2 l1_3 a1_4 a1_5 a1_6 a1_7 a1_8 a1_9 a1_10 a1_11 a1_12))) = some r := H
  have A5 := ak_ A50
  clear A50
  have HC6 := ak_ H
  clear H
  go_enter Try.func7, Try.ntmps7
  go_upto_region 2 with (first | ((with_reducible refine gate_dst (N := 4) rfl ?_); (try (refine gate_guard (by rfl) ?_; dsimp only)); refine box_event ?hg (N := 4) ?hd (cs := #[.int .i64 a0_0, .int .i64 a0_1, .int .i64 a0_2, .slice A0_3 l0_3.length c0_3, .bool a0_4, .bool a0_5, .int .u64 a0_6, .int .u64 a0_7, .int .u64 a0_8, .int .u64 a0_9, .int .u64 a0_10, .int .u64 a0_11, .int .i64 a0_12]) (t := 31) ?hr ?_; (case hd => rfl); (case hg => rfl); (case hr => first | (go_simp; done) | (go_simp; rfl)); intro gb355 hg w7 hbox hb; have n0_ := ak_ (bt_ (by repeat (first | (with_reducible first | exact HB.out | apply ba_ | apply bn_ | apply bd_) | exact HB.out)) hb); have n1_ := ak_ (hbox); have n2_ := ak_ ((by rw [hg]; exact (bz_ (by repeat (first | (with_reducible first | exact HB.out | apply ba_ | apply bn_ | apply bd_) | exact HB.out))) : w.heap.size ≤ gb355)); have n3_ := ak_ ((by rw [hg]; exact (bz_ (by repeat (first | (with_reducible first | exact HB.out | apply ba_ | apply bn_ | apply bd_) | exact HB.out))) : w.heap.size ≤ gb355)); clear HB; have HB := n0_; have BK355 := n1_; have GW355 := n2_; have GE355 := n3_; clear n0_ n1_ n2_ n3_; clear hb hbox hg) | ((with_reducible refine gate_dst (N := 5) rfl ?_); (try (refine gate_guard (by rfl) ?_; dsimp only)); refine box_event ?hg (N := 5) ?hd (cs := #[.int .i64 a1_0, .int .i64 a1_1, .int .i64 a1_2, .slice A1_3 l1_3.length c1_3, .bool a1_4, .bool a1_5, .int .u64 a1_6, .int .u64 a1_7, .int .u64 a1_8, .int .u64 a1_9, .int .u64 a1_10, .int .u64 a1_11, .int .i64 a1_12]) (t := 31) ?hr ?_; (case hd => rfl); (case hg => rfl); (case hr => first | (go_simp; done) | (go_simp; rfl)); intro gb356 hg w8 hbox hb; have n0_ := ak_ (kb_ (g := gb355) (o := .cells #[.int .i64 a0_0, .int .i64 a0_1, .int .i64 a0_2, .slice A0_3 l0_3.length c0_3, .bool a0_4, .bool a0_5, .int .u64 a0_6, .int .u64 a0_7, .int .u64 a0_8, .int .u64 a0_9, .int .u64 a0_10, .int .u64 a0_11, .int .i64 a0_12] 31 (0, 0)) (by (with_reducible repeat (first | refine kn_ ?_ _ | refine kd_ ?_ | refine ka_ ?_ _)); exact BK355.out) hb); have n1_ := ak_ (bt_ (by repeat (first | (with_reducible first | exact HB.out | apply ba_ | apply bn_ | apply bd_ | refine below_set ?_ GE355.out) | exact HB.out)) hb); have n2_ := ak_ (hbox); have n3_ := ak_ ((by rw [hg]; exact (bz_ (by repeat (first | (with_reducible first | exact HB.out | apply ba_ | apply bn_ | apply bd_ | refine below_set ?_ GE355.out) | exact HB.out))) : w.heap.size ≤ gb356)); have n4_ := ak_ ((by rw [hg]; exact (bz_ (by repeat (first | (with_reducible first | exact HB.out | apply ba_ | apply bn_ | apply bd_ | refine below_set ?_ GE355.out) | exact HB.out))) : w.heap.size ≤ gb356)); have n5_ := ak_ ((by rw [hg]; exact Nat.ne_of_lt (blk_lt (g := gb355) (o := .cells #[.int .i64 a0_0, .int .i64 a0_1, .int .i64 a0_2, .slice A0_3 l0_3.length c0_3, .bool a0_4, .bool a0_5, .int .u64 a0_6, .int .u64 a0_7, .int .u64 a0_8, .int .u64 a0_9, .int .u64 a0_10, .int .u64 a0_11, .int .i64 a0_12] 31 (0, 0)) (by (with_reducible repeat (first | refine kn_ ?_ _ | refine kd_ ?_ | refine ka_ ?_ _)); exact BK355.out)) : gb355 ≠ gb356)); have n6_ := ak_ ((by rw [hg]; exact Nat.ne_of_gt (blk_lt (g := gb355) (o := .cells #[.int .i64 a0_0, .int .i64 a0_1, .int .i64 a0_2, .slice A0_3 l0_3.length c0_3, .bool a0_4, .bool a0_5, .int .u64 a0_6, .int .u64 a0_7, .int .u64 a0_8, .int .u64 a0_9, .int .u64 a0_10, .int .u64 a0_11, .int .i64 a0_12] 31 (0, 0)) (by (with_reducible repeat (first | refine kn_ ?_ _ | refine kd_ ?_ | refine ka_ ?_ _)); exact BK355.out)) : gb356 ≠ gb355)); clear BK355; clear HB; have BK355 := n0_; have HB := n1_; have BK356 := n2_; have GW356 := n3_; have GE356 := n4_; have NB355_356 := n5_; have NB356_355 := n6_; clear n0_ n1_ n2_ n3_ n4_ n5_ n6_; clear hb hbox hg) | ((with_reducible refine gate_callee (f := 15) rfl ?_); refine goesL_ (some 18) rfl rfl Try.func15 (by kernel_rfl) rfl #[] rfl (by (try simp only [map_toArray, map_cons, map_nil]); first | done | rfl | (simp only [length_drop, length_take]; rfl)) ?_; (with_reducible refine (medlarlaw16_live.calls k  t357 _ A5.out).mono ?_); rintro e w9 ⟨rfl, hb⟩; refine ⟨_, rfl, ?_⟩; have n0_ := ak_ (kb_ (g := gb355) (o := .cells #[.int .i64 a0_0, .int .i64 a0_1, .int .i64 a0_2, .slice A0_3 l0_3.length c0_3, .bool a0_4, .bool a0_5, .int .u64 a0_6, .int .u64 a0_7, .int .u64 a0_8, .int .u64 a0_9, .int .u64 a0_10, .int .u64 a0_11, .int .i64 a0_12] 31 (0, 0)) (by (with_reducible repeat (first | refine kn_ ?_ _ | refine kd_ ?_ | refine ka_ ?_ _)); exact BK355.out) hb); have n1_ := ak_ (kb_ (g := gb356) (o := .cells #[.int .i64 a1_0, .int .i64 a1_1, .int .i64 a1_2, .slice A1_3 l1_3.length c1_3, .bool a1_4, .bool a1_5, .int .u64 a1_6, .int .u64 a1_7, .int .u64 a1_8, .int .u64 a1_9, .int .u64 a1_10, .int .u64 a1_11, .int .i64 a1_12] 31 (0, 0)) (by (with_reducible repeat (first | refine kn_ ?_ _ | refine kd_ ?_ | refine ka_ ?_ _)); exact BK356.out) hb); have n2_ := ak_ (bt_ (by repeat (first | (with_reducible first | exact HB.out | apply ba_ | apply bn_ | apply bd_ | refine below_set ?_ GE355.out | refine below_set ?_ GE356.out) | exact HB.out)) hb); clear BK355; clear BK356; clear HB; have BK355 := n0_; have BK356 := n1_; have HB := n2_; clear n0_ n1_ n2_; (try clear hb); (try clear hb2); (try clear hk); (try clear hi)))
  (try simp only [Act.put, setIfInBounds_toArray, set_cons_zero, set_cons_succ])
  go_cut [33] (fun v33 wc => ∃ (kq : Nat) (x33_5 : Bool), v33 = .bool x33_5 ∧ Aside0 (medlarlaw16_HeadCut.j0 kq a2 l3 t357 x33_5 a0_0 a0_1 a0_2 l0_3 a0_4 a0_5 a0_6 a0_7 a0_8 a0_9 a0_10 a0_11 a0_12 a1_0 a1_1 a1_2 l1_3 a1_4 a1_5 a1_6 a1_7 a1_8 a1_9 a1_10 a1_11 a1_12 = some r) ∧ Aside0 (kq ≤ k) ∧ Aside0 (wc.heap[gb355]? = some (.cells #[.int .i64 a0_0, .int .i64 a0_1, .int .i64 a0_2, (.slice A0_3 l0_3.length c0_3), .bool a0_4, .bool a0_5, .int .u64 a0_6, .int .u64 a0_7, .int .u64 a0_8, .int .u64 a0_9, .int .u64 a0_10, .int .u64 a0_11, .int .i64 a0_12] 31 (0, 0))) ∧ Aside0 (wc.heap[gb356]? = some (.cells #[.int .i64 a1_0, .int .i64 a1_1, .int .i64 a1_2, (.slice A1_3 l1_3.length c1_3), .bool a1_4, .bool a1_5, .int .u64 a1_6, .int .u64 a1_7, .int .u64 a1_8, .int .u64 a1_9, .int .u64 a1_10, .int .u64 a1_11, .int .i64 a1_12] 31 (0, 0))) ∧ Aside0 (Below w.heap.size w wc))
  case first =>
   have H := HC6.out
   clear HC6
   by_cases c10 : (l0_3.length : Int) > 60
   ·rw [if_pos c10] at H
    have c10b0 : decide (60 < (l0_3.length : Int)) = true := decide_eq_true c10
    have c10b1 : decide (60 < l0_3.length) = true := decide_eq_true (by omega)
    clear c10
    (first | rw [c10b0] | (simp only [i64_w, i32_w]; rw [c10b0]) | skip)
    have H' := ak_ H
    clear H
    have hnb11 := NB355_356.out
    have hnc11 := NB356_355.out
    have hcz12_0 : w9.cell? ⟨gb355, 0, none⟩ = some (.int .i64 a0_0) := (kc_ BK355.out 0).trans rfl
    have hcz12_1 : w9.cell? ⟨gb355, 1, none⟩ = some (.int .i64 a0_1) := (kc_ BK355.out 1).trans rfl
    have hcz12_2 : w9.cell? ⟨gb355, 2, none⟩ = some (.int .i64 a0_2) := (kc_ BK355.out 2).trans rfl
    have hcz12_3 : w9.cell? ⟨gb355, 3, none⟩ = some (.slice A0_3 l0_3.length c0_3) := (kc_ BK355.out 3).trans rfl
    have hcz12_4 : w9.cell? ⟨gb355, 4, none⟩ = some (.bool a0_4) := (kc_ BK355.out 4).trans rfl
    have hcz12_5 : w9.cell? ⟨gb355, 5, none⟩ = some (.bool a0_5) := (kc_ BK355.out 5).trans rfl
    have hcz12_6 : w9.cell? ⟨gb355, 6, none⟩ = some (.int .u64 a0_6) := (kc_ BK355.out 6).trans rfl
    have hcz12_7 : w9.cell? ⟨gb355, 7, none⟩ = some (.int .u64 a0_7) := (kc_ BK355.out 7).trans rfl
    have hcz12_8 : w9.cell? ⟨gb355, 8, none⟩ = some (.int .u64 a0_8) := (kc_ BK355.out 8).trans rfl
    have hcz12_9 : w9.cell? ⟨gb355, 9, none⟩ = some (.int .u64 a0_9) := (kc_ BK355.out 9).trans rfl
    have hcz12_10 : w9.cell? ⟨gb355, 10, none⟩ = some (.int .u64 a0_10) := (kc_ BK355.out 10).trans rfl
    have hcz12_11 : w9.cell? ⟨gb355, 11, none⟩ = some (.int .u64 a0_11) := (kc_ BK355.out 11).trans rfl
    have hcz12_12 : w9.cell? ⟨gb355, 12, none⟩ = some (.int .i64 a0_12) := (kc_ BK355.out 12).trans rfl
    have hfz12_0 := kf_ BK355.out 0
    have hfz12_1 := kf_ BK355.out 1
    have hfz12_2 := kf_ BK355.out 2
    have hfz12_3 := kf_ BK355.out 3
    have hfz12_4 := kf_ BK355.out 4
    have hfz12_5 := kf_ BK355.out 5
    have hfz12_6 := kf_ BK355.out 6
    have hfz12_7 := kf_ BK355.out 7
    have hfz12_8 := kf_ BK355.out 8
    have hfz12_9 := kf_ BK355.out 9
    have hfz12_10 := kf_ BK355.out 10
    have hfz12_11 := kf_ BK355.out 11
    have hfz12_12 := kf_ BK355.out 12
    go_wp2
    go_meet
    case rel => exact ⟨_, (true), (by first | rfl | (simp; done) | (simp [*]; done)), H', ⟨by first | omega | exact Nat.le_refl _⟩, ⟨by (with_reducible repeat (first | refine kn_ ?_ _ | refine kd_ ?_ | refine ka_ ?_ _)); exact BK355.out⟩, ⟨by (with_reducible repeat (first | refine kn_ ?_ _ | refine kd_ ?_ | refine ka_ ?_ _)); exact BK356.out⟩, ⟨by repeat (first | (with_reducible first | exact HB.out | apply ba_ | apply bn_ | apply bd_ | refine below_set ?_ GE355.out | refine below_set ?_ GE356.out) | exact HB.out)⟩⟩
   ·rw [if_neg c10] at H
    have c10b0 : decide (60 < (l0_3.length : Int)) = false := decide_eq_false c10
    have c10b1 : decide (60 < l0_3.length) = false := decide_eq_false (by omega)
    clear c10
    (first | rw [c10b0] | (simp only [i64_w, i32_w]; rw [c10b0]) | skip)
    by_cases c13 : (l1_3.length : Int) > 60
    ·rw [if_pos c13] at H
     have c13b0 : decide (60 < (l1_3.length : Int)) = true := decide_eq_true c13
     have c13b1 : decide (60 < l1_3.length) = true := decide_eq_true (by omega)
     clear c13
     have H' := ak_ H
     clear H
     have hnb14 := NB355_356.out
     have hnc14 := NB356_355.out
     have hcz15_0 : w9.cell? ⟨gb355, 0, none⟩ = some (.int .i64 a0_0) := (kc_ BK355.out 0).trans rfl
     have hcz15_1 : w9.cell? ⟨gb355, 1, none⟩ = some (.int .i64 a0_1) := (kc_ BK355.out 1).trans rfl
     have hcz15_2 : w9.cell? ⟨gb355, 2, none⟩ = some (.int .i64 a0_2) := (kc_ BK355.out 2).trans rfl
     have hcz15_3 : w9.cell? ⟨gb355, 3, none⟩ = some (.slice A0_3 l0_3.length c0_3) := (kc_ BK355.out 3).trans rfl
     have hcz15_4 : w9.cell? ⟨gb355, 4, none⟩ = some (.bool a0_4) := (kc_ BK355.out 4).trans rfl
     have hcz15_5 : w9.cell? ⟨gb355, 5, none⟩ = some (.bool a0_5) := (kc_ BK355.out 5).trans rfl
     have hcz15_6 : w9.cell? ⟨gb355, 6, none⟩ = some (.int .u64 a0_6) := (kc_ BK355.out 6).trans rfl
     have hcz15_7 : w9.cell? ⟨gb355, 7, none⟩ = some (.int .u64 a0_7) := (kc_ BK355.out 7).trans rfl
     have hcz15_8 : w9.cell? ⟨gb355, 8, none⟩ = some (.int .u64 a0_8) := (kc_ BK355.out 8).trans rfl
     have hcz15_9 : w9.cell? ⟨gb355, 9, none⟩ = some (.int .u64 a0_9) := (kc_ BK355.out 9).trans rfl
     have hcz15_10 : w9.cell? ⟨gb355, 10, none⟩ = some (.int .u64 a0_10) := (kc_ BK355.out 10).trans rfl
     have hcz15_11 : w9.cell? ⟨gb355, 11, none⟩ = some (.int .u64 a0_11) := (kc_ BK355.out 11).trans rfl
     have hcz15_12 : w9.cell? ⟨gb355, 12, none⟩ = some (.int .i64 a0_12) := (kc_ BK355.out 12).trans rfl
     have hfz15_0 := kf_ BK355.out 0
     have hfz15_1 := kf_ BK355.out 1
     have hfz15_2 := kf_ BK355.out 2
     have hfz15_3 := kf_ BK355.out 3
     have hfz15_4 := kf_ BK355.out 4
     have hfz15_5 := kf_ BK355.out 5
     have hfz15_6 := kf_ BK355.out 6
     have hfz15_7 := kf_ BK355.out 7
     have hfz15_8 := kf_ BK355.out 8
     have hfz15_9 := kf_ BK355.out 9
     have hfz15_10 := kf_ BK355.out 10
     have hfz15_11 := kf_ BK355.out 11
     have hfz15_12 := kf_ BK355.out 12
     have hcz16_0 : w9.cell? ⟨gb356, 0, none⟩ = some (.int .i64 a1_0) := (kc_ BK356.out 0).trans rfl
     have hcz16_1 : w9.cell? ⟨gb356, 1, none⟩ = some (.int .i64 a1_1) := (kc_ BK356.out 1).trans rfl
     have hcz16_2 : w9.cell? ⟨gb356, 2, none⟩ = some (.int .i64 a1_2) := (kc_ BK356.out 2).trans rfl
     have hcz16_3 : w9.cell? ⟨gb356, 3, none⟩ = some (.slice A1_3 l1_3.length c1_3) := (kc_ BK356.out 3).trans rfl
     have hcz16_4 : w9.cell? ⟨gb356, 4, none⟩ = some (.bool a1_4) := (kc_ BK356.out 4).trans rfl
     have hcz16_5 : w9.cell? ⟨gb356, 5, none⟩ = some (.bool a1_5) := (kc_ BK356.out 5).trans rfl
     have hcz16_6 : w9.cell? ⟨gb356, 6, none⟩ = some (.int .u64 a1_6) := (kc_ BK356.out 6).trans rfl
     have hcz16_7 : w9.cell? ⟨gb356, 7, none⟩ = some (.int .u64 a1_7) := (kc_ BK356.out 7).trans rfl
     have hcz16_8 : w9.cell? ⟨gb356, 8, none⟩ = some (.int .u64 a1_8) := (kc_ BK356.out 8).trans rfl
     have hcz16_9 : w9.cell? ⟨gb356, 9, none⟩ = some (.int .u64 a1_9) := (kc_ BK356.out 9).trans rfl
     have hcz16_10 : w9.cell? ⟨gb356, 10, none⟩ = some (.int .u64 a1_10) := (kc_ BK356.out 10).trans rfl
     have hcz16_11 : w9.cell? ⟨gb356, 11, none⟩ = some (.int .u64 a1_11) := (kc_ BK356.out 11).trans rfl
     have hcz16_12 : w9.cell? ⟨gb356, 12, none⟩ = some (.int .i64 a1_12) := (kc_ BK356.out 12).trans rfl
     have hfz16_0 := kf_ BK356.out 0
     have hfz16_1 := kf_ BK356.out 1
     have hfz16_2 := kf_ BK356.out 2
     have hfz16_3 := kf_ BK356.out 3
     have hfz16_4 := kf_ BK356.out 4
     have hfz16_5 := kf_ BK356.out 5
     have hfz16_6 := kf_ BK356.out 6
     have hfz16_7 := kf_ BK356.out 7
     have hfz16_8 := kf_ BK356.out 8
     have hfz16_9 := kf_ BK356.out 9
     have hfz16_10 := kf_ BK356.out 10
     have hfz16_11 := kf_ BK356.out 11
     have hfz16_12 := kf_ BK356.out 12
     go_wp2
     go_meet
     case rel => exact ⟨_, (true), (by first | rfl | (simp; done) | (simp [*]; done)), H', ⟨by first | omega | exact Nat.le_refl _⟩, ⟨by (with_reducible repeat (first | refine kn_ ?_ _ | refine kd_ ?_ | refine ka_ ?_ _)); exact BK355.out⟩, ⟨by (with_reducible repeat (first | refine kn_ ?_ _ | refine kd_ ?_ | refine ka_ ?_ _)); exact BK356.out⟩, ⟨by repeat (first | (with_reducible first | exact HB.out | apply ba_ | apply bn_ | apply bd_ | refine below_set ?_ GE355.out | refine below_set ?_ GE356.out) | exact HB.out)⟩⟩
    ·rw [if_neg c13] at H
     have c13b0 : decide (60 < (l1_3.length : Int)) = false := decide_eq_false c13
     have c13b1 : decide (60 < l1_3.length) = false := decide_eq_false (by omega)
     clear c13
     have H' := ak_ H
     clear H
     have hnb17 := NB355_356.out
     have hnc17 := NB356_355.out
     have hcz18_0 : w9.cell? ⟨gb355, 0, none⟩ = some (.int .i64 a0_0) := (kc_ BK355.out 0).trans rfl
     have hcz18_1 : w9.cell? ⟨gb355, 1, none⟩ = some (.int .i64 a0_1) := (kc_ BK355.out 1).trans rfl
     have hcz18_2 : w9.cell? ⟨gb355, 2, none⟩ = some (.int .i64 a0_2) := (kc_ BK355.out 2).trans rfl
     have hcz18_3 : w9.cell? ⟨gb355, 3, none⟩ = some (.slice A0_3 l0_3.length c0_3) := (kc_ BK355.out 3).trans rfl
     have hcz18_4 : w9.cell? ⟨gb355, 4, none⟩ = some (.bool a0_4) := (kc_ BK355.out 4).trans rfl
     have hcz18_5 : w9.cell? ⟨gb355, 5, none⟩ = some (.bool a0_5) := (kc_ BK355.out 5).trans rfl
     have hcz18_6 : w9.cell? ⟨gb355, 6, none⟩ = some (.int .u64 a0_6) := (kc_ BK355.out 6).trans rfl
     have hcz18_7 : w9.cell? ⟨gb355, 7, none⟩ = some (.int .u64 a0_7) := (kc_ BK355.out 7).trans rfl
     have hcz18_8 : w9.cell? ⟨gb355, 8, none⟩ = some (.int .u64 a0_8) := (kc_ BK355.out 8).trans rfl
     have hcz18_9 : w9.cell? ⟨gb355, 9, none⟩ = some (.int .u64 a0_9) := (kc_ BK355.out 9).trans rfl
     have hcz18_10 : w9.cell? ⟨gb355, 10, none⟩ = some (.int .u64 a0_10) := (kc_ BK355.out 10).trans rfl
     have hcz18_11 : w9.cell? ⟨gb355, 11, none⟩ = some (.int .u64 a0_11) := (kc_ BK355.out 11).trans rfl
     have hcz18_12 : w9.cell? ⟨gb355, 12, none⟩ = some (.int .i64 a0_12) := (kc_ BK355.out 12).trans rfl
     have hfz18_0 := kf_ BK355.out 0
     have hfz18_1 := kf_ BK355.out 1
     have hfz18_2 := kf_ BK355.out 2
     have hfz18_3 := kf_ BK355.out 3
     have hfz18_4 := kf_ BK355.out 4
     have hfz18_5 := kf_ BK355.out 5
     have hfz18_6 := kf_ BK355.out 6
     have hfz18_7 := kf_ BK355.out 7
     have hfz18_8 := kf_ BK355.out 8
     have hfz18_9 := kf_ BK355.out 9
     have hfz18_10 := kf_ BK355.out 10
     have hfz18_11 := kf_ BK355.out 11
     have hfz18_12 := kf_ BK355.out 12
     have hcz19_0 : w9.cell? ⟨gb356, 0, none⟩ = some (.int .i64 a1_0) := (kc_ BK356.out 0).trans rfl
     have hcz19_1 : w9.cell? ⟨gb356, 1, none⟩ = some (.int .i64 a1_1) := (kc_ BK356.out 1).trans rfl
     have hcz19_2 : w9.cell? ⟨gb356, 2, none⟩ = some (.int .i64 a1_2) := (kc_ BK356.out 2).trans rfl
     have hcz19_3 : w9.cell? ⟨gb356, 3, none⟩ = some (.slice A1_3 l1_3.length c1_3) := (kc_ BK356.out 3).trans rfl
     have hcz19_4 : w9.cell? ⟨gb356, 4, none⟩ = some (.bool a1_4) := (kc_ BK356.out 4).trans rfl
     have hcz19_5 : w9.cell? ⟨gb356, 5, none⟩ = some (.bool a1_5) := (kc_ BK356.out 5).trans rfl
     have hcz19_6 : w9.cell? ⟨gb356, 6, none⟩ = some (.int .u64 a1_6) := (kc_ BK356.out 6).trans rfl
     have hcz19_7 : w9.cell? ⟨gb356, 7, none⟩ = some (.int .u64 a1_7) := (kc_ BK356.out 7).trans rfl
     have hcz19_8 : w9.cell? ⟨gb356, 8, none⟩ = some (.int .u64 a1_8) := (kc_ BK356.out 8).trans rfl
     have hcz19_9 : w9.cell? ⟨gb356, 9, none⟩ = some (.int .u64 a1_9) := (kc_ BK356.out 9).trans rfl
     have hcz19_10 : w9.cell? ⟨gb356, 10, none⟩ = some (.int .u64 a1_10) := (kc_ BK356.out 10).trans rfl
     have hcz19_11 : w9.cell? ⟨gb356, 11, none⟩ = some (.int .u64 a1_11) := (kc_ BK356.out 11).trans rfl
     have hcz19_12 : w9.cell? ⟨gb356, 12, none⟩ = some (.int .i64 a1_12) := (kc_ BK356.out 12).trans rfl
     have hfz19_0 := kf_ BK356.out 0
     have hfz19_1 := kf_ BK356.out 1
     have hfz19_2 := kf_ BK356.out 2
     have hfz19_3 := kf_ BK356.out 3
     have hfz19_4 := kf_ BK356.out 4
     have hfz19_5 := kf_ BK356.out 5
     have hfz19_6 := kf_ BK356.out 6
     have hfz19_7 := kf_ BK356.out 7
     have hfz19_8 := kf_ BK356.out 8
     have hfz19_9 := kf_ BK356.out 9
     have hfz19_10 := kf_ BK356.out 10
     have hfz19_11 := kf_ BK356.out 11
     have hfz19_12 := kf_ BK356.out 12
     go_wp2
     go_meet
     case rel => exact ⟨_, (decide ((l3.length : Int) > 100)), (by first | rfl | (simp; done) | (simp [*]; done)), H', ⟨by first | omega | exact Nat.le_refl _⟩, ⟨by (with_reducible repeat (first | refine kn_ ?_ _ | refine kd_ ?_ | refine ka_ ?_ _)); exact BK355.out⟩, ⟨by (with_reducible repeat (first | refine kn_ ?_ _ | refine kd_ ?_ | refine ka_ ?_ _)); exact BK356.out⟩, ⟨by repeat (first | (with_reducible first | exact HB.out | apply ba_ | apply bn_ | apply bd_ | refine below_set ?_ GE355.out | refine below_set ?_ GE356.out) | exact HB.out)⟩⟩
  case rest =>
   clear HC6
   try clear c1
   try clear p2
   try clear c3
   try clear c7
   try clear c10
   try clear c10b0
   try clear c10b1
   try clear c11
   try clear c13
   try clear c13b0
   try clear c13b1
   try clear c14
   try clear c15
   try clear c17
   try clear hcz12_0
   try clear hcz12_1
   try clear hcz12_10
   try clear hcz12_11
   try clear hcz12_12
   try clear hcz12_2
   try clear hcz12_3
   try clear hcz12_4
   try clear hcz12_5
   try clear hcz12_6
   try clear hcz12_7
   try clear hcz12_8
   try clear hcz12_9
   try clear hcz15_0
   try clear hcz15_1
   try clear hcz15_10
   try clear hcz15_11
   try clear hcz15_12
   try clear hcz15_2
   try clear hcz15_3
   try clear hcz15_4
   try clear hcz15_5
   try clear hcz15_6
   try clear hcz15_7
   try clear hcz15_8
   try clear hcz15_9
   try clear hcz16_0
   try clear hcz16_1
   try clear hcz16_10
   try clear hcz16_11
   try clear hcz16_12
   try clear hcz16_2
   try clear hcz16_3
   try clear hcz16_4
   try clear hcz16_5
   try clear hcz16_6
   try clear hcz16_7
   try clear hcz16_8
   try clear hcz16_9
   try clear hcz18_0
   try clear hcz18_1
   try clear hcz18_10
   try clear hcz18_11
   try clear hcz18_12
   try clear hcz18_2
   try clear hcz18_3
   try clear hcz18_4
   try clear hcz18_5
   try clear hcz18_6
   try clear hcz18_7
   try clear hcz18_8
   try clear hcz18_9
   try clear hcz19_0
   try clear hcz19_1
   try clear hcz19_10
   try clear hcz19_11
   try clear hcz19_12
   try clear hcz19_2
   try clear hcz19_3
   try clear hcz19_4
   try clear hcz19_5
   try clear hcz19_6
   try clear hcz19_7
   try clear hcz19_8
   try clear hcz19_9
   try clear hfz12_0
   try clear hfz12_1
   try clear hfz12_10
   try clear hfz12_11
   try clear hfz12_12
   try clear hfz12_2
   try clear hfz12_3
   try clear hfz12_4
   try clear hfz12_5
   try clear hfz12_6
   try clear hfz12_7
   try clear hfz12_8
   try clear hfz12_9
   try clear hfz15_0
   try clear hfz15_1
   try clear hfz15_10
   try clear hfz15_11
   try clear hfz15_12
   try clear hfz15_2
   try clear hfz15_3
   try clear hfz15_4
   try clear hfz15_5
   try clear hfz15_6
   try clear hfz15_7
   try clear hfz15_8
   try clear hfz15_9
   try clear hfz16_0
   try clear hfz16_1
   try clear hfz16_10
   try clear hfz16_11
   try clear hfz16_12
   try clear hfz16_2
   try clear hfz16_3
   try clear hfz16_4
   try clear hfz16_5
   try clear hfz16_6
   try clear hfz16_7
   try clear hfz16_8
   try clear hfz16_9
   try clear hfz18_0
   try clear hfz18_1
   try clear hfz18_10
   try clear hfz18_11
   try clear hfz18_12
   try clear hfz18_2
   try clear hfz18_3
   try clear hfz18_4
   try clear hfz18_5
   try clear hfz18_6
   try clear hfz18_7
   try clear hfz18_8
   try clear hfz18_9
   try clear hfz19_0
   try clear hfz19_1
   try clear hfz19_10
   try clear hfz19_11
   try clear hfz19_12
   try clear hfz19_2
   try clear hfz19_3
   try clear hfz19_4
   try clear hfz19_5
   try clear hfz19_6
   try clear hfz19_7
   try clear hfz19_8
   try clear hfz19_9
   obtain ⟨kq, x33_5, rfl, HA, HJ5, BK355, BK356, HB⟩ := hcut
   cases kq with
   | zero => exact absurd HA.out (by simp [medlarlaw16_HeadCut.j0])
   | succ kj5 =>
    have H := HA.out
    clear HA
    simp only [medlarlaw16_HeadCut.j0] at H
    by_cases c20 : x33_5 = true
    ·subst c20
     have H1 : (some t357) = some r := by rw [if_pos rfl] at H; exact H
     clear H
     have H := H1
     clear H1
     obtain rfl := Option.some.inj H
     go_wp2
     go_ret
     exact ⟨by first | rfl | (simp <;> rfl) | (simp [*] <;> rfl), by repeat (first | (with_reducible first | exact HB.out | apply ba_ | apply bn_ | apply bd_ | refine below_set ?_ GE355.out | refine below_set ?_ GE356.out) | exact HB.out)⟩
    ·replace c20 := Bool.eq_false_iff.mpr c20
     subst c20
     have H1 : ((head_Bytes.f kj5 a0_0 a0_1 a0_2 l0_3 a0_4 a0_5 a0_6 a0_7 a0_8 a0_9 a0_10 a0_11 a0_12).bind fun bt358 => ((head_Bytes.f kj5 a1_0 a1_1 a1_2 l1_3 a1_4 a1_5 a1_6 a1_7 a1_8 a1_9 a1_10 a1_11 a1_12).bind fun bt362 => (if bt358.2 = 0 then (if bt362.2 = 0 then ((head_Same.f kj5 a0_0 a0_1 a0_2 l0_3 a0_4 a0_5 a0_6 a0_7 a0_8 a0_9 a0_10 a0_11 a0_12 a1_0 a1_1 a1_2 l1_3 a1_4 a1_5 a1_6 a1_7 a1_8 a1_9 a1_10 a1_11 a1_12).bind fun t366 => (medlarlaw16_HeadCut.j1 kj5 a2 l3 t357 bt358.1 (((strOfNums bt358.1).toList == (strOfNums bt362.1).toList) != t366))) else (medlarlaw16_HeadCut.j1 kj5 a2 l3 t357 bt358.1 false)) else (some t357)))) = some r := by rw [if_neg (show ¬ (false = true) by decide)] at H; exact H
     clear H
     have H := H1
     clear H1
     replace H := Option.bind_eq_some_iff.mp H
     obtain ⟨⟨t358, t361⟩, A210, H⟩ := H
     replace H : ((head_Bytes.f kj5 a1_0 a1_1 a1_2 l1_3 a1_4 a1_5 a1_6 a1_7 a1_8 a1_9 a1_10 a1_11 a1_12).bind fun bt362 => (if t361 = 0 then (if bt362.2 = 0 then ((head_Same.f kj5 a0_0 a0_1 a0_2 l0_3 a0_4 a0_5 a0_6 a0_7 a0_8 a0_9 a0_10 a0_11 a0_12 a1_0 a1_1 a1_2 l1_3 a1_4 a1_5 a1_6 a1_7 a1_8 a1_9 a1_10 a1_11 a1_12).bind fun t366 => (medlarlaw16_HeadCut.j1 kj5 a2 l3 t357 t358 (((strOfNums t358).toList == (strOfNums bt362.1).toList) != t366))) else (medlarlaw16_HeadCut.j1 kj5 a2 l3 t357 t358 false)) else (some t357))) = some r := H
     have A21 := ak_ A210
     clear A210
     replace H := Option.bind_eq_some_iff.mp H
     obtain ⟨⟨t362, t365⟩, A220, H⟩ := H
     replace H : (if t361 = 0 then (if t365 = 0 then ((head_Same.f kj5 a0_0 a0_1 a0_2 l0_3 a0_4 a0_5 a0_6 a0_7 a0_8 a0_9 a0_10 a0_11 a0_12 a1_0 a1_1 a1_2 l1_3 a1_4 a1_5 a1_6 a1_7 a1_8 a1_9 a1_10 a1_11 a1_12).bind fun t366 => (medlarlaw16_HeadCut.j1 kj5 a2 l3 t357 t358 (((strOfNums t358).toList == (strOfNums t362).toList) != t366))) else (medlarlaw16_HeadCut.j1 kj5 a2 l3 t357 t358 false)) else (some t357)) = some r := H
     have A22 := ak_ A220
     clear A220
     by_cases c23 : t361 = 0
     ·rw [if_pos c23] at H
      have c23b0 : (t361 == 0) = true := beq_iff_eq.mpr c23
      have c23b1 : (t361 != 0) = false := bne_eq_false_iff_eq.mpr c23
      clear c23
      have HC24 := ak_ H
      clear H
      have hnb25 := NB355_356.out
      have hnc25 := NB356_355.out
      have hcz26_0 : wc.cell? ⟨gb355, 0, none⟩ = some (.int .i64 a0_0) := (kc_ BK355.out 0).trans rfl
      have hcz26_1 : wc.cell? ⟨gb355, 1, none⟩ = some (.int .i64 a0_1) := (kc_ BK355.out 1).trans rfl
      have hcz26_2 : wc.cell? ⟨gb355, 2, none⟩ = some (.int .i64 a0_2) := (kc_ BK355.out 2).trans rfl
      have hcz26_3 : wc.cell? ⟨gb355, 3, none⟩ = some (.slice A0_3 l0_3.length c0_3) := (kc_ BK355.out 3).trans rfl
      have hcz26_4 : wc.cell? ⟨gb355, 4, none⟩ = some (.bool a0_4) := (kc_ BK355.out 4).trans rfl
      have hcz26_5 : wc.cell? ⟨gb355, 5, none⟩ = some (.bool a0_5) := (kc_ BK355.out 5).trans rfl
      have hcz26_6 : wc.cell? ⟨gb355, 6, none⟩ = some (.int .u64 a0_6) := (kc_ BK355.out 6).trans rfl
      have hcz26_7 : wc.cell? ⟨gb355, 7, none⟩ = some (.int .u64 a0_7) := (kc_ BK355.out 7).trans rfl
      have hcz26_8 : wc.cell? ⟨gb355, 8, none⟩ = some (.int .u64 a0_8) := (kc_ BK355.out 8).trans rfl
      have hcz26_9 : wc.cell? ⟨gb355, 9, none⟩ = some (.int .u64 a0_9) := (kc_ BK355.out 9).trans rfl
      have hcz26_10 : wc.cell? ⟨gb355, 10, none⟩ = some (.int .u64 a0_10) := (kc_ BK355.out 10).trans rfl
      have hcz26_11 : wc.cell? ⟨gb355, 11, none⟩ = some (.int .u64 a0_11) := (kc_ BK355.out 11).trans rfl
      have hcz26_12 : wc.cell? ⟨gb355, 12, none⟩ = some (.int .i64 a0_12) := (kc_ BK355.out 12).trans rfl
      have hfz26_0 := kf_ BK355.out 0
      have hfz26_1 := kf_ BK355.out 1
      have hfz26_2 := kf_ BK355.out 2
      have hfz26_3 := kf_ BK355.out 3
      have hfz26_4 := kf_ BK355.out 4
      have hfz26_5 := kf_ BK355.out 5
      have hfz26_6 := kf_ BK355.out 6
      have hfz26_7 := kf_ BK355.out 7
      have hfz26_8 := kf_ BK355.out 8
      have hfz26_9 := kf_ BK355.out 9
      have hfz26_10 := kf_ BK355.out 10
      have hfz26_11 := kf_ BK355.out 11
      have hfz26_12 := kf_ BK355.out 12
      go_upto_region 8 with (first | ((with_reducible refine gate_callee (f := 17) rfl ?_); refine goesL_ (some 37) rfl rfl Try.func17 (by kernel_rfl) rfl #[.agg #[.int .i64 a0_0, .int .i64 a0_1, .int .i64 a0_2, .slice A0_3 l0_3.length c0_3, .bool a0_4, .bool a0_5, .int .u64 a0_6, .int .u64 a0_7, .int .u64 a0_8, .int .u64 a0_9, .int .u64 a0_10, .int .u64 a0_11, .int .i64 a0_12]] rfl (by (try simp only [map_toArray, map_cons, map_nil]); first | done | rfl | (simp only [length_drop, length_take]; rfl)) ?_; (with_reducible refine (head_Bytes.calls kj5 a0_0 a0_1 a0_2 _ _ l0_3 a0_4 a0_5 a0_6 a0_7 a0_8 a0_9 a0_10 a0_11 a0_12 t358 t361 _ ?side1 ?side2 A21.out).mono ?_); (case side1 => repeat (first | exact (Kd.C_below HR0_3.out HB.out) | (with_reducible refine Kd.C_alloc ?_ _) | (with_reducible refine Kd.C_drewN ?_ _) | (with_reducible refine Kd.C_drew ?_))); (case side2 => exact HC0_3.out); rintro e w27 ⟨v359, rfl, ho0, hb⟩; refine ⟨_, rfl, ?_⟩; have n0_ := ak_ (Kd.R_lower ho0 (bz_ (by repeat (first | (with_reducible first | exact HB.out | apply ba_ | apply bn_ | apply bd_ | refine below_set ?_ GE355.out | refine below_set ?_ GE356.out) | exact HB.out)))); have n1_ := ak_ (kb_ (g := gb355) (o := .cells #[.int .i64 a0_0, .int .i64 a0_1, .int .i64 a0_2, .slice A0_3 l0_3.length c0_3, .bool a0_4, .bool a0_5, .int .u64 a0_6, .int .u64 a0_7, .int .u64 a0_8, .int .u64 a0_9, .int .u64 a0_10, .int .u64 a0_11, .int .i64 a0_12] 31 (0, 0)) (by (with_reducible repeat (first | refine kn_ ?_ _ | refine kd_ ?_ | refine ka_ ?_ _)); exact BK355.out) hb); have n2_ := ak_ (kb_ (g := gb356) (o := .cells #[.int .i64 a1_0, .int .i64 a1_1, .int .i64 a1_2, .slice A1_3 l1_3.length c1_3, .bool a1_4, .bool a1_5, .int .u64 a1_6, .int .u64 a1_7, .int .u64 a1_8, .int .u64 a1_9, .int .u64 a1_10, .int .u64 a1_11, .int .i64 a1_12] 31 (0, 0)) (by (with_reducible repeat (first | refine kn_ ?_ _ | refine kd_ ?_ | refine ka_ ?_ _)); exact BK356.out) hb); have n3_ := ak_ (bt_ (by repeat (first | (with_reducible first | exact HB.out | apply ba_ | apply bn_ | apply bd_ | refine below_set ?_ GE355.out | refine below_set ?_ GE356.out) | exact HB.out)) hb); clear BK355; clear BK356; clear HB; have HO360 := n0_; have BK355 := n1_; have BK356 := n2_; have HB := n3_; clear n0_ n1_ n2_ n3_; (try clear hb); (try clear hb2); (try clear hk); (try clear hi); (try clear ho0); have hcz28_0 : w27.cell? ⟨gb356, 0, none⟩ = some (.int .i64 a1_0) := (kc_ BK356.out 0).trans rfl; have hcz28_1 : w27.cell? ⟨gb356, 1, none⟩ = some (.int .i64 a1_1) := (kc_ BK356.out 1).trans rfl; have hcz28_2 : w27.cell? ⟨gb356, 2, none⟩ = some (.int .i64 a1_2) := (kc_ BK356.out 2).trans rfl; have hcz28_3 : w27.cell? ⟨gb356, 3, none⟩ = some (.slice A1_3 l1_3.length c1_3) := (kc_ BK356.out 3).trans rfl; have hcz28_4 : w27.cell? ⟨gb356, 4, none⟩ = some (.bool a1_4) := (kc_ BK356.out 4).trans rfl; have hcz28_5 : w27.cell? ⟨gb356, 5, none⟩ = some (.bool a1_5) := (kc_ BK356.out 5).trans rfl; have hcz28_6 : w27.cell? ⟨gb356, 6, none⟩ = some (.int .u64 a1_6) := (kc_ BK356.out 6).trans rfl; have hcz28_7 : w27.cell? ⟨gb356, 7, none⟩ = some (.int .u64 a1_7) := (kc_ BK356.out 7).trans rfl; have hcz28_8 : w27.cell? ⟨gb356, 8, none⟩ = some (.int .u64 a1_8) := (kc_ BK356.out 8).trans rfl; have hcz28_9 : w27.cell? ⟨gb356, 9, none⟩ = some (.int .u64 a1_9) := (kc_ BK356.out 9).trans rfl; have hcz28_10 : w27.cell? ⟨gb356, 10, none⟩ = some (.int .u64 a1_10) := (kc_ BK356.out 10).trans rfl; have hcz28_11 : w27.cell? ⟨gb356, 11, none⟩ = some (.int .u64 a1_11) := (kc_ BK356.out 11).trans rfl; have hcz28_12 : w27.cell? ⟨gb356, 12, none⟩ = some (.int .i64 a1_12) := (kc_ BK356.out 12).trans rfl; have hfz28_0 := kf_ BK356.out 0; have hfz28_1 := kf_ BK356.out 1; have hfz28_2 := kf_ BK356.out 2; have hfz28_3 := kf_ BK356.out 3; have hfz28_4 := kf_ BK356.out 4; have hfz28_5 := kf_ BK356.out 5; have hfz28_6 := kf_ BK356.out 6; have hfz28_7 := kf_ BK356.out 7; have hfz28_8 := kf_ BK356.out 8; have hfz28_9 := kf_ BK356.out 9; have hfz28_10 := kf_ BK356.out 10; have hfz28_11 := kf_ BK356.out 11; have hfz28_12 := kf_ BK356.out 12) | ((with_reducible refine gate_callee (f := 17) rfl ?_); refine goesL_ (some 42) rfl rfl Try.func17 (by kernel_rfl) rfl #[.agg #[.int .i64 a1_0, .int .i64 a1_1, .int .i64 a1_2, .slice A1_3 l1_3.length c1_3, .bool a1_4, .bool a1_5, .int .u64 a1_6, .int .u64 a1_7, .int .u64 a1_8, .int .u64 a1_9, .int .u64 a1_10, .int .u64 a1_11, .int .i64 a1_12]] rfl (by (try simp only [map_toArray, map_cons, map_nil]); first | done | rfl | (simp only [length_drop, length_take]; rfl)) ?_; (with_reducible refine (head_Bytes.calls kj5 a1_0 a1_1 a1_2 _ _ l1_3 a1_4 a1_5 a1_6 a1_7 a1_8 a1_9 a1_10 a1_11 a1_12 t362 t365 _ ?side1 ?side2 A22.out).mono ?_); (case side1 => repeat (first | exact (Kd.C_below HR1_3.out HB.out) | (with_reducible refine Kd.C_alloc ?_ _) | (with_reducible refine Kd.C_drewN ?_ _) | (with_reducible refine Kd.C_drew ?_))); (case side2 => exact HC1_3.out); rintro e w29 ⟨v363, rfl, ho0, hb⟩; refine ⟨_, rfl, ?_⟩; have n0_ := ak_ (Kd.R_elder' (by (with_reducible repeat (first | apply Kd.R_alloc | apply Kd.R_drewN | apply Kd.R_drew)); exact HO360.out) (Kd.R_base ho0) hb); have n1_ := ak_ (Kd.R_lower (Kd.R_new' ho0 (Kd.R_lt (by (with_reducible repeat (first | apply Kd.R_alloc | apply Kd.R_drewN | apply Kd.R_drew)); exact HO360.out))) (bz_ (by repeat (first | (with_reducible first | exact HB.out | apply ba_ | apply bn_ | apply bd_ | refine below_set ?_ GE355.out | refine below_set ?_ GE356.out) | exact HB.out)))); have n2_ := ak_ (kb_ (g := gb355) (o := .cells #[.int .i64 a0_0, .int .i64 a0_1, .int .i64 a0_2, .slice A0_3 l0_3.length c0_3, .bool a0_4, .bool a0_5, .int .u64 a0_6, .int .u64 a0_7, .int .u64 a0_8, .int .u64 a0_9, .int .u64 a0_10, .int .u64 a0_11, .int .i64 a0_12] 31 (0, 0)) (by (with_reducible repeat (first | refine kn_ ?_ _ | refine kd_ ?_ | refine ka_ ?_ _)); exact BK355.out) hb); have n3_ := ak_ (kb_ (g := gb356) (o := .cells #[.int .i64 a1_0, .int .i64 a1_1, .int .i64 a1_2, .slice A1_3 l1_3.length c1_3, .bool a1_4, .bool a1_5, .int .u64 a1_6, .int .u64 a1_7, .int .u64 a1_8, .int .u64 a1_9, .int .u64 a1_10, .int .u64 a1_11, .int .i64 a1_12] 31 (0, 0)) (by (with_reducible repeat (first | refine kn_ ?_ _ | refine kd_ ?_ | refine ka_ ?_ _)); exact BK356.out) hb); have n4_ := ak_ (bt_ (by repeat (first | (with_reducible first | exact HB.out | apply ba_ | apply bn_ | apply bd_ | refine below_set ?_ GE355.out | refine below_set ?_ GE356.out) | exact HB.out)) hb); clear HO360; clear BK355; clear BK356; clear HB; have HO360 := n0_; have HO364 := n1_; have BK355 := n2_; have BK356 := n3_; have HB := n4_; clear n0_ n1_ n2_ n3_ n4_; (try clear hb); (try clear hb2); (try clear hk); (try clear hi); (try clear ho0)))
      (try simp only [Act.put, setIfInBounds_toArray, set_cons_zero, set_cons_succ])
      go_cut [60] (fun v60 wc => ∃ (kq : Nat) (x60_23 : Bool), v60 = .bool x60_23 ∧ Aside0 (medlarlaw16_HeadCut.j1 kq a2 l3 t357 t358 x60_23 = some r) ∧ Aside0 (kq ≤ kj5) ∧ Aside0 (Kd.R (Kd.int .u8) 5 wc w.heap.size (fun _ => True) v359 t358) ∧ Aside0 (wc.heap[gb355]? = some (.cells #[.int .i64 a0_0, .int .i64 a0_1, .int .i64 a0_2, (.slice A0_3 l0_3.length c0_3), .bool a0_4, .bool a0_5, .int .u64 a0_6, .int .u64 a0_7, .int .u64 a0_8, .int .u64 a0_9, .int .u64 a0_10, .int .u64 a0_11, .int .i64 a0_12] 31 (0, 0))) ∧ Aside0 (wc.heap[gb356]? = some (.cells #[.int .i64 a1_0, .int .i64 a1_1, .int .i64 a1_2, (.slice A1_3 l1_3.length c1_3), .bool a1_4, .bool a1_5, .int .u64 a1_6, .int .u64 a1_7, .int .u64 a1_8, .int .u64 a1_9, .int .u64 a1_10, .int .u64 a1_11, .int .i64 a1_12] 31 (0, 0))) ∧ Aside0 (Below w.heap.size w wc))
      case first =>
       have H := HC24.out
       clear HC24
       by_cases c30 : t365 = 0
       ·rw [if_pos c30] at H
        have c30b0 : (t365 == 0) = true := beq_iff_eq.mpr c30
        have c30b1 : (t365 != 0) = false := bne_eq_false_iff_eq.mpr c30
        clear c30
        (first | rw [c30b0] | (simp only [i64_w, i32_w]; rw [c30b0]) | skip)
        replace H := Option.bind_eq_some_iff.mp H
        obtain ⟨t366, A310, H⟩ := H
        replace H : (medlarlaw16_HeadCut.j1 kj5 a2 l3 t357 t358 (((strOfNums t358).toList == (strOfNums t362).toList) != t366)) = some r := H
        have A31 := ak_ A310
        clear A310
        have H' := ak_ H
        clear H
        try go_wp2
        have n0_ := ak_ (Kd.R_drew HO360.out)
        have n1_ := ak_ (Kd.R_drew HO364.out)
        have n2_ := ak_ (kd_ BK355.out)
        have n3_ := ak_ (kd_ BK356.out)
        have n4_ := ak_ (bd_ HB.out)
        clear HO360
        clear HO364
        clear BK355
        clear BK356
        clear HB
        have HO360 := n0_
        have HO364 := n1_
        have BK355 := n2_
        have BK356 := n3_
        have HB := n4_
        clear n0_ n1_ n2_ n3_ n4_
        have hcv33 := own_string (P := Try.prog) Try.underlying35 Try.underlying5 Try.underlying9 (Kd.own_of_R HO360.out)
        have hcv34 := own_string (P := Try.prog) Try.underlying35 Try.underlying5 Try.underlying9 (Kd.own_of_R HO364.out)
        refine start_ (n := 13) (S := fun w' => w'.cell? ⟨gb355, 0, none⟩ = some (.int .i64 a0_0) ∧ w'.cell? ⟨gb355, 1, none⟩ = some (.int .i64 a0_1) ∧ w'.cell? ⟨gb355, 2, none⟩ = some (.int .i64 a0_2) ∧ w'.cell? ⟨gb355, 3, none⟩ = some (.slice A0_3 l0_3.length c0_3) ∧ w'.cell? ⟨gb355, 4, none⟩ = some (.bool a0_4) ∧ w'.cell? ⟨gb355, 5, none⟩ = some (.bool a0_5) ∧ w'.cell? ⟨gb355, 6, none⟩ = some (.int .u64 a0_6) ∧ w'.cell? ⟨gb355, 7, none⟩ = some (.int .u64 a0_7) ∧ w'.cell? ⟨gb355, 8, none⟩ = some (.int .u64 a0_8) ∧ w'.cell? ⟨gb355, 9, none⟩ = some (.int .u64 a0_9) ∧ w'.cell? ⟨gb355, 10, none⟩ = some (.int .u64 a0_10) ∧ w'.cell? ⟨gb355, 11, none⟩ = some (.int .u64 a0_11) ∧ w'.cell? ⟨gb355, 12, none⟩ = some (.int .i64 a0_12) ∧ w'.cell? ⟨gb356, 0, none⟩ = some (.int .i64 a1_0) ∧ w'.cell? ⟨gb356, 1, none⟩ = some (.int .i64 a1_1) ∧ w'.cell? ⟨gb356, 2, none⟩ = some (.int .i64 a1_2) ∧ w'.cell? ⟨gb356, 3, none⟩ = some (.slice A1_3 l1_3.length c1_3) ∧ w'.cell? ⟨gb356, 4, none⟩ = some (.bool a1_4) ∧ w'.cell? ⟨gb356, 5, none⟩ = some (.bool a1_5) ∧ w'.cell? ⟨gb356, 6, none⟩ = some (.int .u64 a1_6) ∧ w'.cell? ⟨gb356, 7, none⟩ = some (.int .u64 a1_7) ∧ w'.cell? ⟨gb356, 8, none⟩ = some (.int .u64 a1_8) ∧ w'.cell? ⟨gb356, 9, none⟩ = some (.int .u64 a1_9) ∧ w'.cell? ⟨gb356, 10, none⟩ = some (.int .u64 a1_10) ∧ w'.cell? ⟨gb356, 11, none⟩ = some (.int .u64 a1_11) ∧ w'.cell? ⟨gb356, 12, none⟩ = some (.int .i64 a1_12) ∧ (convert 35 9 v359).run Try.prog w' = .ok (.string (strOfNums t358)) w' ∧ (convert 35 9 v363).run Try.prog w' = .ok (.string (strOfNums t362)) w') (ds := []) #[false, false, false, false, false, false, false, false, false, false, false, false, false] (by kernel_rfl) rfl rfl ⟨(kc_ BK355.out 0).trans rfl, (kc_ BK355.out 1).trans rfl, (kc_ BK355.out 2).trans rfl, (kc_ BK355.out 3).trans rfl, (kc_ BK355.out 4).trans rfl, (kc_ BK355.out 5).trans rfl, (kc_ BK355.out 6).trans rfl, (kc_ BK355.out 7).trans rfl, (kc_ BK355.out 8).trans rfl, (kc_ BK355.out 9).trans rfl, (kc_ BK355.out 10).trans rfl, (kc_ BK355.out 11).trans rfl, (kc_ BK355.out 12).trans rfl, (kc_ BK356.out 0).trans rfl, (kc_ BK356.out 1).trans rfl, (kc_ BK356.out 2).trans rfl, (kc_ BK356.out 3).trans rfl, (kc_ BK356.out 4).trans rfl, (kc_ BK356.out 5).trans rfl, (kc_ BK356.out 6).trans rfl, (kc_ BK356.out 7).trans rfl, (kc_ BK356.out 8).trans rfl, (kc_ BK356.out 9).trans rfl, (kc_ BK356.out 10).trans rfl, (kc_ BK356.out 11).trans rfl, (kc_ BK356.out 12).trans rfl, own_string (P := Try.prog) Try.underlying35 Try.underlying5 Try.underlying9 (Kd.own_of_R (Kd.R_drew HO360.out)), own_string (P := Try.prog) Try.underlying35 Try.underlying5 Try.underlying9 (Kd.own_of_R (Kd.R_drew HO364.out))⟩ (fun hHeld => ?_); refine with_tabW medlarlaw16_HeadCut.tab8 medlarlaw16_HeadCut.bits8 (fun HT_ HW_ => ?_)
        generalize w29.drew = w32 at HO360 HO364 BK355 BK356 HB hHeld ⊢
        refine pure_ (i := 0) (N := some 48) (v := ?_) (a' := ?_) (bA10 1 13) rfl rfl (any_of HT_.out (by kernel_rfl)) (fun _ _ _ h => h) (Or.inl ⟨by rfl, ?_⟩) ?_ ?_; rotate_left; (intro w'; go_simp; with_reducible rfl); rotate_left; (simp only [Act.put, setIfInBounds_toArray, set_cons_zero, set_cons_succ, i64_w, i32_w]; rfl)
        refine pure_ (i := 1) (N := some 49) (v := ?_) (a' := ?_) (bA10 2 13) rfl rfl (any_of HT_.out (by kernel_rfl)) (fun _ _ _ h => h) (Or.inl ⟨by rfl, ?_⟩) ?_ ?_; rotate_left; (intro w'; go_simp; with_reducible rfl); rotate_left; (simp only [Act.put, setIfInBounds_toArray, set_cons_zero, set_cons_succ, i64_w, i32_w]; rfl)
        refine pure_ (i := 2) (N := some 50) (v := ?_) (a' := ?_) (bA10 3 13) rfl rfl (any_of HT_.out (by kernel_rfl)) (fun _ _ _ h => h) (Or.inl ⟨by rfl, ?_⟩) ?_ ?_; rotate_left; (intro w'; go_simp; with_reducible rfl); rotate_left; (simp only [Act.put, setIfInBounds_toArray, set_cons_zero, set_cons_succ, i64_w, i32_w]; rfl)
        refine pure_ (i := 3) (N := some 51) (v := ?_) (a' := ?_) (bA10 4 13) rfl rfl (any_of HT_.out (by kernel_rfl)) (fun _ _ _ h => h) (Or.inl ⟨by rfl, ?_⟩) ?_ ?_; rotate_left; (intro w'; go_simp; with_reducible rfl); rotate_left; (simp only [Act.put, setIfInBounds_toArray, set_cons_zero, set_cons_succ, i64_w, i32_w]; rfl)
        refine take_ (i := 4) (N := some 52) (v := ?_) (a' := ?_) (bA10 5 13) rfl rfl (take_ofW HT_.out HW_.out (by kernel_rfl)) (fun _ _ _ h => h) (Or.inl ⟨by rfl, ?_⟩) hHeld ?_ ?_; rotate_left; (rintro w' ⟨s0, s1, s2, s3, s4, s5, s6, s7, s8, s9, s10, s11, s12, s13, s14, s15, s16, s17, s18, s19, s20, s21, s22, s23, s24, s25, s26, s27⟩; go_simp; with_reducible rfl); rotate_left; (simp only [Act.put, setIfInBounds_toArray, set_cons_zero, set_cons_succ, i64_w, i32_w]; rfl)
        refine pure_ (i := 5) (N := some 53) (v := ?_) (a' := ?_) (bA10 6 13) rfl rfl (any_of HT_.out (by kernel_rfl)) (fun _ _ _ h => h) (Or.inl ⟨by rfl, ?_⟩) ?_ ?_; rotate_left; (intro w'; go_simp; with_reducible rfl); rotate_left; (simp only [Act.put, setIfInBounds_toArray, set_cons_zero, set_cons_succ, i64_w, i32_w]; rfl)
        refine take_ (i := 6) (N := some 54) (v := ?_) (a' := ?_) (bA10 7 13) rfl rfl (take_ofW HT_.out HW_.out (by kernel_rfl)) (fun _ _ _ h => h) (Or.inl ⟨by rfl, ?_⟩) hHeld ?_ ?_; rotate_left; (rintro w' ⟨s0, s1, s2, s3, s4, s5, s6, s7, s8, s9, s10, s11, s12, s13, s14, s15, s16, s17, s18, s19, s20, s21, s22, s23, s24, s25, s26, s27⟩; go_simp; with_reducible rfl); rotate_left; (simp only [Act.put, setIfInBounds_toArray, set_cons_zero, set_cons_succ, i64_w, i32_w]; rfl)
        refine pure_ (i := 7) (N := some 55) (v := ?_) (a' := ?_) (bA10 8 13) rfl rfl (any_of HT_.out (by kernel_rfl)) (fun _ _ _ h => h) (Or.inl ⟨by rfl, ?_⟩) ?_ ?_; rotate_left; (intro w'; go_simp; with_reducible rfl); rotate_left; (simp only [Act.put, setIfInBounds_toArray, set_cons_zero, set_cons_succ, i64_w, i32_w]; rfl)
        refine take_ (i := 8) (N := some 56) (v := ?_) (a' := ?_) (bA10 9 13) rfl rfl (take_ofW HT_.out HW_.out (by kernel_rfl)) (fun _ _ _ h => h) (Or.inl ⟨by rfl, ?_⟩) hHeld ?_ ?_
        rotate_left
        ·rintro w' ⟨s0, s1, s2, s3, s4, s5, s6, s7, s8, s9, s10, s11, s12, s13, s14, s15, s16, s17, s18, s19, s20, s21, s22, s23, s24, s25, s26, s27⟩
         go_simp
         with_reducible rfl
        rotate_left
        ·simp only [Act.put, setIfInBounds_toArray, set_cons_zero, set_cons_succ, i64_w, i32_w]
         rfl
        refine take_ (i := 9) (N := some 57) (v := ?_) (a' := ?_) (bA10 10 13) rfl rfl (take_ofW HT_.out HW_.out (by kernel_rfl)) (fun _ _ _ h => h) (Or.inl ⟨by rfl, ?_⟩) hHeld ?_ ?_
        rotate_left
        ·rintro w' ⟨s0, s1, s2, s3, s4, s5, s6, s7, s8, s9, s10, s11, s12, s13, s14, s15, s16, s17, s18, s19, s20, s21, s22, s23, s24, s25, s26, s27⟩
         go_simp
         with_reducible rfl
        rotate_left
        ·simp only [Act.put, setIfInBounds_toArray, set_cons_zero, set_cons_succ, i64_w, i32_w]
         rfl
        refine one_ (i := 10) (N := some 58) (bA10 11 13) rfl rfl (one_of HT_.out (by kernel_rfl)) (by decide) (fun K hK => ?_)
        refine goes_ Try.func26 (by kernel_rfl) rfl #[.agg #[.int .i64 a0_0, .int .i64 a0_1, .int .i64 a0_2, .slice A0_3 l0_3.length c0_3, .bool a0_4, .bool a0_5, .int .u64 a0_6, .int .u64 a0_7, .int .u64 a0_8, .int .u64 a0_9, .int .u64 a0_10, .int .u64 a0_11, .int .i64 a0_12], .agg #[.int .i64 a1_0, .int .i64 a1_1, .int .i64 a1_2, .slice A1_3 l1_3.length c1_3, .bool a1_4, .bool a1_5, .int .u64 a1_6, .int .u64 a1_7, .int .u64 a1_8, .int .u64 a1_9, .int .u64 a1_10, .int .u64 a1_11, .int .i64 a1_12]] (by rfl) rfl rfl (by (try simp only [map_toArray, map_cons, map_nil]); first | done | rfl | (simp only [length_drop, length_take]; rfl)) ?_
        with_reducible refine (head_Same.calls kj5 a0_0 a0_1 a0_2 _ _ l0_3 a0_4 a0_5 a0_6 a0_7 a0_8 a0_9 a0_10 a0_11 a0_12 a1_0 a1_1 a1_2 _ _ l1_3 a1_4 a1_5 a1_6 a1_7 a1_8 a1_9 a1_10 a1_11 a1_12 t366 _ ?side1 ?side2 ?side3 ?side4 A31.out).mono ?_
        (case side1 => repeat (first | exact (Kd.C_below HR0_3.out HB.out) | (with_reducible refine Kd.C_alloc ?_ _) | (with_reducible refine Kd.C_drewN ?_ _) | (with_reducible refine Kd.C_drew ?_)))
        (case side2 => exact HC0_3.out)
        (case side3 => repeat (first | exact (Kd.C_below HR1_3.out HB.out) | (with_reducible refine Kd.C_alloc ?_ _) | (with_reducible refine Kd.C_drewN ?_ _) | (with_reducible refine Kd.C_drew ?_)))
        (case side4 => exact HC1_3.out)
        rintro e w35 ⟨rfl, hb⟩
        refine ⟨_, rfl, ?_⟩
        have n0_ := ak_ (Kd.R_below (by (with_reducible repeat (first | apply Kd.R_alloc | apply Kd.R_drewN | apply Kd.R_drew)); exact HO360.out) hb)
        have n1_ := ak_ (Kd.R_below (by (with_reducible repeat (first | apply Kd.R_alloc | apply Kd.R_drewN | apply Kd.R_drew)); exact HO364.out) hb)
        have n2_ := ak_ (kb_ (g := gb355) (o := .cells #[.int .i64 a0_0, .int .i64 a0_1, .int .i64 a0_2, .slice A0_3 l0_3.length c0_3, .bool a0_4, .bool a0_5, .int .u64 a0_6, .int .u64 a0_7, .int .u64 a0_8, .int .u64 a0_9, .int .u64 a0_10, .int .u64 a0_11, .int .i64 a0_12] 31 (0, 0)) (by (with_reducible repeat (first | refine kn_ ?_ _ | refine kd_ ?_ | refine ka_ ?_ _)); exact BK355.out) hb)
        have n3_ := ak_ (kb_ (g := gb356) (o := .cells #[.int .i64 a1_0, .int .i64 a1_1, .int .i64 a1_2, .slice A1_3 l1_3.length c1_3, .bool a1_4, .bool a1_5, .int .u64 a1_6, .int .u64 a1_7, .int .u64 a1_8, .int .u64 a1_9, .int .u64 a1_10, .int .u64 a1_11, .int .i64 a1_12] 31 (0, 0)) (by (with_reducible repeat (first | refine kn_ ?_ _ | refine kd_ ?_ | refine ka_ ?_ _)); exact BK356.out) hb)
        have n4_ := ak_ (bt_ (by repeat (first | (with_reducible first | exact HB.out | apply ba_ | apply bn_ | apply bd_ | refine below_set ?_ GE355.out | refine below_set ?_ GE356.out) | exact HB.out)) hb)
        clear HO360
        clear HO364
        clear BK355
        clear BK356
        clear HB
        have HO360 := n0_
        have HO364 := n1_
        have BK355 := n2_
        have BK356 := n3_
        have HB := n4_
        clear n0_ n1_ n2_ n3_ n4_
        (try clear hb)
        (try clear hb2)
        (try clear hk)
        (try clear hi)
        refine hK.out _ _ ⟨(kc_ BK355.out 0).trans rfl, (kc_ BK355.out 1).trans rfl, (kc_ BK355.out 2).trans rfl, (kc_ BK355.out 3).trans rfl, (kc_ BK355.out 4).trans rfl, (kc_ BK355.out 5).trans rfl, (kc_ BK355.out 6).trans rfl, (kc_ BK355.out 7).trans rfl, (kc_ BK355.out 8).trans rfl, (kc_ BK355.out 9).trans rfl, (kc_ BK355.out 10).trans rfl, (kc_ BK355.out 11).trans rfl, (kc_ BK355.out 12).trans rfl, (kc_ BK356.out 0).trans rfl, (kc_ BK356.out 1).trans rfl, (kc_ BK356.out 2).trans rfl, (kc_ BK356.out 3).trans rfl, (kc_ BK356.out 4).trans rfl, (kc_ BK356.out 5).trans rfl, (kc_ BK356.out 6).trans rfl, (kc_ BK356.out 7).trans rfl, (kc_ BK356.out 8).trans rfl, (kc_ BK356.out 9).trans rfl, (kc_ BK356.out 10).trans rfl, (kc_ BK356.out 11).trans rfl, (kc_ BK356.out 12).trans rfl, own_string (P := Try.prog) Try.underlying35 Try.underlying5 Try.underlying9 (Kd.own_of_R HO360.out), own_string (P := Try.prog) Try.underlying35 Try.underlying5 Try.underlying9 (Kd.own_of_R HO364.out)⟩ (fun hHeld => ?_)
        clear hK K
        refine norm_ (a' := ?_) ?_ ?_
        rotate_left
        ·show Act.put _ (some 58) _ = _
         simp only [Act.put, setIfInBounds_toArray, set_cons_zero, set_cons_succ, i64_w, i32_w]
         rfl
        refine pure_ (i := 11) (N := some 59) (v := ?_) (a' := ?_) (bA10 12 13) rfl rfl (any_of HT_.out (by kernel_rfl)) (fun _ _ _ h => h) (Or.inl ⟨by rfl, ?_⟩) ?_ ?_; rotate_left; (intro w'; go_simp; with_reducible rfl); rotate_left; (simp only [Act.put, setIfInBounds_toArray, set_cons_zero, set_cons_succ, i64_w, i32_w]; rfl)
        refine pure_ (i := 12) (N := some 60) (v := ?_) (a' := ?_) (bA10 13 13) rfl rfl (any_of HT_.out (by kernel_rfl)) (fun _ _ _ h => h) (Or.inl ⟨by rfl, ?_⟩) ?_ ?_; rotate_left; (intro w'; go_simp; with_reducible rfl); rotate_left; (simp only [Act.put, setIfInBounds_toArray, set_cons_zero, set_cons_succ, i64_w, i32_w]; rfl)
        refine done_ (done_of HT_.out (by kernel_rfl)) ?_
        try go_wp2
        go_meet
        case rel => exact ⟨_, ((((strOfNums t358).toList == (strOfNums t362).toList) != t366)), (by first | rfl | (simp; done) | (simp [*]; done)), H', ⟨by have := HJ5.out; first | omega | exact Nat.le_refl _⟩, ⟨by (with_reducible repeat (first | apply Kd.R_alloc | apply Kd.R_drewN | apply Kd.R_drew)); exact Kd.R_mono HO360.out (fun _ hk => trivial)⟩, ⟨by (with_reducible repeat (first | refine kn_ ?_ _ | refine kd_ ?_ | refine ka_ ?_ _)); exact BK355.out⟩, ⟨by (with_reducible repeat (first | refine kn_ ?_ _ | refine kd_ ?_ | refine ka_ ?_ _)); exact BK356.out⟩, ⟨by repeat (first | (with_reducible first | exact HB.out | apply ba_ | apply bn_ | apply bd_ | refine below_set ?_ GE355.out | refine below_set ?_ GE356.out) | exact HB.out)⟩⟩
       ·rw [if_neg c30] at H
        have c30b0 : (t365 == 0) = false := beq_eq_false_iff_ne.mpr c30
        have c30b1 : (t365 != 0) = true := bne_iff_ne.mpr c30
        (first | rw [c30b0] | (simp only [i64_w, i32_w]; rw [c30b0]) | skip)
        have H' := ak_ H
        clear H
        try go_wp2
        have n0_ := ak_ (Kd.R_drew HO360.out)
        have n1_ := ak_ (Kd.R_drew HO364.out)
        have n2_ := ak_ (kd_ BK355.out)
        have n3_ := ak_ (kd_ BK356.out)
        have n4_ := ak_ (bd_ HB.out)
        clear HO360
        clear HO364
        clear BK355
        clear BK356
        clear HB
        have HO360 := n0_
        have HO364 := n1_
        have BK355 := n2_
        have BK356 := n3_
        have HB := n4_
        clear n0_ n1_ n2_ n3_ n4_
        refine start_ (n := 13) (S := fun w' => True) (ds := []) #[false, false, false, false, false, false, false, false, false, false, false, false, false] (by kernel_rfl) rfl rfl trivial (fun hHeld => ?_); refine with_tabW medlarlaw16_HeadCut.tab8 medlarlaw16_HeadCut.bits8 (fun HT_ HW_ => ?_)
        generalize w29.drew = w37 at HO360 HO364 BK355 BK356 HB hHeld ⊢
        refine pure_ (i := 0) (N := some 48) (v := ?_) (a' := ?_) (bA10 1 13) rfl rfl (any_of HT_.out (by kernel_rfl)) (fun _ _ _ h => h) (Or.inl ⟨by rfl, ?_⟩) ?_ ?_; rotate_left; (intro w'; go_simp; with_reducible rfl); rotate_left; (simp only [Act.put, setIfInBounds_toArray, set_cons_zero, set_cons_succ, i64_w, i32_w]; rfl)
        refine pure_ (i := 1) (N := some 49) (v := ?_) (a' := ?_) (bA10 2 13) rfl rfl (any_of HT_.out (by kernel_rfl)) (fun _ _ _ h => h) (Or.inl ⟨by rfl, ?_⟩) ?_ ?_; rotate_left; (intro w'; go_simp; with_reducible rfl); rotate_left; (simp only [Act.put, setIfInBounds_toArray, set_cons_zero, set_cons_succ, i64_w, i32_w]; rfl)
        refine pure_ (i := 2) (N := some 50) (v := ?_) (a' := ?_) (bA10 3 13) rfl rfl (any_of HT_.out (by kernel_rfl)) (fun _ _ _ h => h) (Or.inl ⟨by rfl, ?_⟩) ?_ ?_; rotate_left; (intro w'; go_simp; with_reducible rfl); rotate_left; (simp only [Act.put, setIfInBounds_toArray, set_cons_zero, set_cons_succ, i64_w, i32_w]; rfl)
        refine pure_ (i := 3) (N := some 51) (v := undef) (a' := ?_) (bA10 4 13) rfl rfl (any_of HT_.out (by kernel_rfl)) (fun _ _ _ h => h) (Or.inr ⟨by rfl, rfl⟩) ?_ ?_
        rotate_left
        ·simp only [Act.put, setIfInBounds_toArray, set_cons_zero, set_cons_succ, i64_w, i32_w]
         rfl
        refine pure_ (i := 4) (N := some 52) (v := undef) (a' := ?_) (bA10 5 13) rfl rfl (any_of HT_.out (by kernel_rfl)) (fun _ _ _ h => h) (Or.inr ⟨by rfl, rfl⟩) ?_ ?_
        rotate_left
        ·simp only [Act.put, setIfInBounds_toArray, set_cons_zero, set_cons_succ, i64_w, i32_w]
         rfl
        refine pure_ (i := 5) (N := some 53) (v := undef) (a' := ?_) (bA10 6 13) rfl rfl (any_of HT_.out (by kernel_rfl)) (fun _ _ _ h => h) (Or.inr ⟨by rfl, rfl⟩) ?_ ?_
        rotate_left
        ·simp only [Act.put, setIfInBounds_toArray, set_cons_zero, set_cons_succ, i64_w, i32_w]
         rfl
        refine pure_ (i := 6) (N := some 54) (v := undef) (a' := ?_) (bA10 7 13) rfl rfl (any_of HT_.out (by kernel_rfl)) (fun _ _ _ h => h) (Or.inr ⟨by rfl, rfl⟩) ?_ ?_
        rotate_left
        ·simp only [Act.put, setIfInBounds_toArray, set_cons_zero, set_cons_succ, i64_w, i32_w]
         rfl
        refine pure_ (i := 7) (N := some 55) (v := undef) (a' := ?_) (bA10 8 13) rfl rfl (any_of HT_.out (by kernel_rfl)) (fun _ _ _ h => h) (Or.inr ⟨by rfl, rfl⟩) ?_ ?_
        rotate_left
        ·simp only [Act.put, setIfInBounds_toArray, set_cons_zero, set_cons_succ, i64_w, i32_w]
         rfl
        refine pure_ (i := 8) (N := some 56) (v := undef) (a' := ?_) (bA10 9 13) rfl rfl (any_of HT_.out (by kernel_rfl)) (fun _ _ _ h => h) (Or.inr ⟨by rfl, rfl⟩) ?_ ?_
        rotate_left
        ·simp only [Act.put, setIfInBounds_toArray, set_cons_zero, set_cons_succ, i64_w, i32_w]
         rfl
        refine pure_ (i := 9) (N := some 57) (v := undef) (a' := ?_) (bA10 10 13) rfl rfl (any_of HT_.out (by kernel_rfl)) (fun _ _ _ h => h) (Or.inr ⟨by rfl, rfl⟩) ?_ ?_
        rotate_left
        ·simp only [Act.put, setIfInBounds_toArray, set_cons_zero, set_cons_succ, i64_w, i32_w]
         rfl
        refine pure_ (i := 10) (N := some 58) (v := undef) (a' := ?_) (bA10 11 13) rfl rfl (any_of HT_.out (by kernel_rfl)) (fun _ _ _ h => h) (Or.inr ⟨by rfl, rfl⟩) ?_ ?_
        rotate_left
        ·simp only [Act.put, setIfInBounds_toArray, set_cons_zero, set_cons_succ, i64_w, i32_w]
         rfl
        refine pure_ (i := 11) (N := some 59) (v := undef) (a' := ?_) (bA10 12 13) rfl rfl (any_of HT_.out (by kernel_rfl)) (fun _ _ _ h => h) (Or.inr ⟨by rfl, rfl⟩) ?_ ?_
        rotate_left
        ·simp only [Act.put, setIfInBounds_toArray, set_cons_zero, set_cons_succ, i64_w, i32_w]
         rfl
        refine pure_ (i := 12) (N := some 60) (v := ?_) (a' := ?_) (bA10 13 13) rfl rfl (any_of HT_.out (by kernel_rfl)) (fun _ _ _ h => h) (Or.inl ⟨by rfl, ?_⟩) ?_ ?_; rotate_left; (intro w'; go_simp; with_reducible rfl); rotate_left; (simp only [Act.put, setIfInBounds_toArray, set_cons_zero, set_cons_succ, i64_w, i32_w]; rfl)
        refine done_ (done_of HT_.out (by kernel_rfl)) ?_
        try go_wp2
        go_meet
        case rel => exact ⟨_, (false), (by first | rfl | (simp; done) | (simp [*]; done)), H', ⟨by have := HJ5.out; first | omega | exact Nat.le_refl _⟩, ⟨by (with_reducible repeat (first | apply Kd.R_alloc | apply Kd.R_drewN | apply Kd.R_drew)); exact Kd.R_mono HO360.out (fun _ hk => trivial)⟩, ⟨by (with_reducible repeat (first | refine kn_ ?_ _ | refine kd_ ?_ | refine ka_ ?_ _)); exact BK355.out⟩, ⟨by (with_reducible repeat (first | refine kn_ ?_ _ | refine kd_ ?_ | refine ka_ ?_ _)); exact BK356.out⟩, ⟨by repeat (first | (with_reducible first | exact HB.out | apply ba_ | apply bn_ | apply bd_ | refine below_set ?_ GE355.out | refine below_set ?_ GE356.out) | exact HB.out)⟩⟩
      case rest =>
       clear HC24
       try clear c1
       try clear c2
       try clear p2
       try clear c3
       try clear hcv3
       try clear c7
       try clear c10
       try clear c10b0
       try clear c10b1
       try clear c11
       try clear c13
       try clear c13b0
       try clear c13b1
       try clear c14
       try clear c15
       try clear c17
       try clear c20
       try clear c23
       try clear c23b0
       try clear c23b1
       try clear c25
       try clear c26
       try clear c30
       try clear c30b0
       try clear c30b1
       try clear hcv33
       try clear hcv34
       try clear hcz12_0
       try clear hcz12_1
       try clear hcz12_10
       try clear hcz12_11
       try clear hcz12_12
       try clear hcz12_2
       try clear hcz12_3
       try clear hcz12_4
       try clear hcz12_5
       try clear hcz12_6
       try clear hcz12_7
       try clear hcz12_8
       try clear hcz12_9
       try clear hcz15_0
       try clear hcz15_1
       try clear hcz15_10
       try clear hcz15_11
       try clear hcz15_12
       try clear hcz15_2
       try clear hcz15_3
       try clear hcz15_4
       try clear hcz15_5
       try clear hcz15_6
       try clear hcz15_7
       try clear hcz15_8
       try clear hcz15_9
       try clear hcz16_0
       try clear hcz16_1
       try clear hcz16_10
       try clear hcz16_11
       try clear hcz16_12
       try clear hcz16_2
       try clear hcz16_3
       try clear hcz16_4
       try clear hcz16_5
       try clear hcz16_6
       try clear hcz16_7
       try clear hcz16_8
       try clear hcz16_9
       try clear hcz18_0
       try clear hcz18_1
       try clear hcz18_10
       try clear hcz18_11
       try clear hcz18_12
       try clear hcz18_2
       try clear hcz18_3
       try clear hcz18_4
       try clear hcz18_5
       try clear hcz18_6
       try clear hcz18_7
       try clear hcz18_8
       try clear hcz18_9
       try clear hcz19_0
       try clear hcz19_1
       try clear hcz19_10
       try clear hcz19_11
       try clear hcz19_12
       try clear hcz19_2
       try clear hcz19_3
       try clear hcz19_4
       try clear hcz19_5
       try clear hcz19_6
       try clear hcz19_7
       try clear hcz19_8
       try clear hcz19_9
       try clear hcz26_0
       try clear hcz26_1
       try clear hcz26_10
       try clear hcz26_11
       try clear hcz26_12
       try clear hcz26_2
       try clear hcz26_3
       try clear hcz26_4
       try clear hcz26_5
       try clear hcz26_6
       try clear hcz26_7
       try clear hcz26_8
       try clear hcz26_9
       try clear hcz28_0
       try clear hcz28_1
       try clear hcz28_10
       try clear hcz28_11
       try clear hcz28_12
       try clear hcz28_2
       try clear hcz28_3
       try clear hcz28_4
       try clear hcz28_5
       try clear hcz28_6
       try clear hcz28_7
       try clear hcz28_8
       try clear hcz28_9
       try clear hfz12_0
       try clear hfz12_1
       try clear hfz12_10
       try clear hfz12_11
       try clear hfz12_12
       try clear hfz12_2
       try clear hfz12_3
       try clear hfz12_4
       try clear hfz12_5
       try clear hfz12_6
       try clear hfz12_7
       try clear hfz12_8
       try clear hfz12_9
       try clear hfz15_0
       try clear hfz15_1
       try clear hfz15_10
       try clear hfz15_11
       try clear hfz15_12
       try clear hfz15_2
       try clear hfz15_3
       try clear hfz15_4
       try clear hfz15_5
       try clear hfz15_6
       try clear hfz15_7
       try clear hfz15_8
       try clear hfz15_9
       try clear hfz16_0
       try clear hfz16_1
       try clear hfz16_10
       try clear hfz16_11
       try clear hfz16_12
       try clear hfz16_2
       try clear hfz16_3
       try clear hfz16_4
       try clear hfz16_5
       try clear hfz16_6
       try clear hfz16_7
       try clear hfz16_8
       try clear hfz16_9
       try clear hfz18_0
       try clear hfz18_1
       try clear hfz18_10
       try clear hfz18_11
       try clear hfz18_12
       try clear hfz18_2
       try clear hfz18_3
       try clear hfz18_4
       try clear hfz18_5
       try clear hfz18_6
       try clear hfz18_7
       try clear hfz18_8
       try clear hfz18_9
       try clear hfz19_0
       try clear hfz19_1
       try clear hfz19_10
       try clear hfz19_11
       try clear hfz19_12
       try clear hfz19_2
       try clear hfz19_3
       try clear hfz19_4
       try clear hfz19_5
       try clear hfz19_6
       try clear hfz19_7
       try clear hfz19_8
       try clear hfz19_9
       try clear hfz26_0
       try clear hfz26_1
       try clear hfz26_10
       try clear hfz26_11
       try clear hfz26_12
       try clear hfz26_2
       try clear hfz26_3
       try clear hfz26_4
       try clear hfz26_5
       try clear hfz26_6
       try clear hfz26_7
       try clear hfz26_8
       try clear hfz26_9
       try clear hfz28_0
       try clear hfz28_1
       try clear hfz28_10
       try clear hfz28_11
       try clear hfz28_12
       try clear hfz28_2
       try clear hfz28_3
       try clear hfz28_4
       try clear hfz28_5
       try clear hfz28_6
       try clear hfz28_7
       try clear hfz28_8
       try clear hfz28_9
       try clear p2
       obtain ⟨kq, x60_23, rfl, HA, HJ23, HO_10, BK355, BK356, HB⟩ := hcut
       cases kq with
       | zero => exact absurd HA.out (by simp [medlarlaw16_HeadCut.j1])
       | succ kj23 =>
        have H := HA.out
        clear HA
        simp only [medlarlaw16_HeadCut.j1] at H
        by_cases c38 : x60_23 = true
        ·subst c38
         have H1 : (some false) = some r := by rw [if_pos rfl] at H; exact H
         clear H
         have H := H1
         clear H1
         exact absurd ((Option.some.inj H).trans hT.out) Bool.false_ne_true
        ·replace c38 := Bool.eq_false_iff.mpr c38
         subst c38
         have H1 : (if a2 ≥ 0 then (medlarlaw16_HeadCut.j2 kj23 a2 l3 t357 t358 (decide (a2 < (t358.length : Int)))) else (medlarlaw16_HeadCut.j2 kj23 a2 l3 t357 t358 false)) = some r := by rw [if_neg (show ¬ (false = true) by decide)] at H; exact H
         clear H
         have H := H1
         clear H1
         have HC39 := ak_ H
         clear H
         go_upto_region 10 with (fail)
         go_cut [68] (fun v68 wc => ∃ (kq : Nat) (x68_38 : Bool), v68 = .bool x68_38 ∧ Aside0 (medlarlaw16_HeadCut.j2 kq a2 l3 t357 t358 x68_38 = some r) ∧ Aside0 (kq ≤ kj23) ∧ Aside0 (Kd.R (Kd.int .u8) 5 wc w.heap.size (fun _ => True) v359 t358) ∧ Aside0 (wc.heap[gb355]? = some (.cells #[.int .i64 a0_0, .int .i64 a0_1, .int .i64 a0_2, (.slice A0_3 l0_3.length c0_3), .bool a0_4, .bool a0_5, .int .u64 a0_6, .int .u64 a0_7, .int .u64 a0_8, .int .u64 a0_9, .int .u64 a0_10, .int .u64 a0_11, .int .i64 a0_12] 31 (0, 0))) ∧ Aside0 (wc.heap[gb356]? = some (.cells #[.int .i64 a1_0, .int .i64 a1_1, .int .i64 a1_2, (.slice A1_3 l1_3.length c1_3), .bool a1_4, .bool a1_5, .int .u64 a1_6, .int .u64 a1_7, .int .u64 a1_8, .int .u64 a1_9, .int .u64 a1_10, .int .u64 a1_11, .int .i64 a1_12] 31 (0, 0))) ∧ Aside0 (Below w.heap.size w wc))
         case first =>
          have H := HC39.out
          clear HC39
          by_cases c40 : a2 ≥ 0
          ·rw [if_pos c40] at H
           have c40b0 : decide (0 ≤ a2) = true := decide_eq_true c40
           clear c40
           (first | rw [c40b0] | (simp only [i64_w, i32_w]; rw [c40b0]) | skip)
           have H' := ak_ H
           clear H
           obtain ⟨Ao41, co41, eo41⟩ := Kd.R_slice HO_10.out
           subst eo41
           go_wp2
           go_meet
           case rel => exact ⟨_, (decide (a2 < (t358.length : Int))), (by first | rfl | (simp; done) | (simp [*]; done)), H', ⟨by have := HJ5.out; have := HJ23.out; first | omega | exact Nat.le_refl _⟩, ⟨by (with_reducible repeat (first | apply Kd.R_alloc | apply Kd.R_drewN | apply Kd.R_drew)); exact HO_10.out⟩, ⟨by (with_reducible repeat (first | refine kn_ ?_ _ | refine kd_ ?_ | refine ka_ ?_ _)); exact BK355.out⟩, ⟨by (with_reducible repeat (first | refine kn_ ?_ _ | refine kd_ ?_ | refine ka_ ?_ _)); exact BK356.out⟩, ⟨by repeat (first | (with_reducible first | exact HB.out | apply ba_ | apply bn_ | apply bd_ | refine below_set ?_ GE355.out | refine below_set ?_ GE356.out) | exact HB.out)⟩⟩
          ·rw [if_neg c40] at H
           have c40b0 : decide (0 ≤ a2) = false := decide_eq_false c40
           clear c40
           (first | rw [c40b0] | (simp only [i64_w, i32_w]; rw [c40b0]) | skip)
           have H' := ak_ H
           clear H
           go_wp2
           go_meet
           case rel => exact ⟨_, (false), (by first | rfl | (simp; done) | (simp [*]; done)), H', ⟨by have := HJ5.out; have := HJ23.out; first | omega | exact Nat.le_refl _⟩, ⟨by (with_reducible repeat (first | apply Kd.R_alloc | apply Kd.R_drewN | apply Kd.R_drew)); exact HO_10.out⟩, ⟨by (with_reducible repeat (first | refine kn_ ?_ _ | refine kd_ ?_ | refine ka_ ?_ _)); exact BK355.out⟩, ⟨by (with_reducible repeat (first | refine kn_ ?_ _ | refine kd_ ?_ | refine ka_ ?_ _)); exact BK356.out⟩, ⟨by repeat (first | (with_reducible first | exact HB.out | apply ba_ | apply bn_ | apply bd_ | refine below_set ?_ GE355.out | refine below_set ?_ GE356.out) | exact HB.out)⟩⟩
         case rest =>
          clear HC39
          try clear c1
          try clear c2
          try clear p2
          try clear c3
          try clear hcv3
          try clear c4
          try clear c7
          try clear c10
          try clear c10b0
          try clear c10b1
          try clear c11
          try clear c13
          try clear c13b0
          try clear c13b1
          try clear c14
          try clear c15
          try clear c17
          try clear c20
          try clear c23
          try clear c23b0
          try clear c23b1
          try clear c25
          try clear c26
          try clear c30
          try clear c30b0
          try clear c30b1
          try clear hcv33
          try clear hcv34
          try clear c38
          try clear c40
          try clear c40b0
          try clear hcz12_0
          try clear hcz12_1
          try clear hcz12_10
          try clear hcz12_11
          try clear hcz12_12
          try clear hcz12_2
          try clear hcz12_3
          try clear hcz12_4
          try clear hcz12_5
          try clear hcz12_6
          try clear hcz12_7
          try clear hcz12_8
          try clear hcz12_9
          try clear hcz15_0
          try clear hcz15_1
          try clear hcz15_10
          try clear hcz15_11
          try clear hcz15_12
          try clear hcz15_2
          try clear hcz15_3
          try clear hcz15_4
          try clear hcz15_5
          try clear hcz15_6
          try clear hcz15_7
          try clear hcz15_8
          try clear hcz15_9
          try clear hcz16_0
          try clear hcz16_1
          try clear hcz16_10
          try clear hcz16_11
          try clear hcz16_12
          try clear hcz16_2
          try clear hcz16_3
          try clear hcz16_4
          try clear hcz16_5
          try clear hcz16_6
          try clear hcz16_7
          try clear hcz16_8
          try clear hcz16_9
          try clear hcz18_0
          try clear hcz18_1
          try clear hcz18_10
          try clear hcz18_11
          try clear hcz18_12
          try clear hcz18_2
          try clear hcz18_3
          try clear hcz18_4
          try clear hcz18_5
          try clear hcz18_6
          try clear hcz18_7
          try clear hcz18_8
          try clear hcz18_9
          try clear hcz19_0
          try clear hcz19_1
          try clear hcz19_10
          try clear hcz19_11
          try clear hcz19_12
          try clear hcz19_2
          try clear hcz19_3
          try clear hcz19_4
          try clear hcz19_5
          try clear hcz19_6
          try clear hcz19_7
          try clear hcz19_8
          try clear hcz19_9
          try clear hcz26_0
          try clear hcz26_1
          try clear hcz26_10
          try clear hcz26_11
          try clear hcz26_12
          try clear hcz26_2
          try clear hcz26_3
          try clear hcz26_4
          try clear hcz26_5
          try clear hcz26_6
          try clear hcz26_7
          try clear hcz26_8
          try clear hcz26_9
          try clear hcz28_0
          try clear hcz28_1
          try clear hcz28_10
          try clear hcz28_11
          try clear hcz28_12
          try clear hcz28_2
          try clear hcz28_3
          try clear hcz28_4
          try clear hcz28_5
          try clear hcz28_6
          try clear hcz28_7
          try clear hcz28_8
          try clear hcz28_9
          try clear hfz12_0
          try clear hfz12_1
          try clear hfz12_10
          try clear hfz12_11
          try clear hfz12_12
          try clear hfz12_2
          try clear hfz12_3
          try clear hfz12_4
          try clear hfz12_5
          try clear hfz12_6
          try clear hfz12_7
          try clear hfz12_8
          try clear hfz12_9
          try clear hfz15_0
          try clear hfz15_1
          try clear hfz15_10
          try clear hfz15_11
          try clear hfz15_12
          try clear hfz15_2
          try clear hfz15_3
          try clear hfz15_4
          try clear hfz15_5
          try clear hfz15_6
          try clear hfz15_7
          try clear hfz15_8
          try clear hfz15_9
          try clear hfz16_0
          try clear hfz16_1
          try clear hfz16_10
          try clear hfz16_11
          try clear hfz16_12
          try clear hfz16_2
          try clear hfz16_3
          try clear hfz16_4
          try clear hfz16_5
          try clear hfz16_6
          try clear hfz16_7
          try clear hfz16_8
          try clear hfz16_9
          try clear hfz18_0
          try clear hfz18_1
          try clear hfz18_10
          try clear hfz18_11
          try clear hfz18_12
          try clear hfz18_2
          try clear hfz18_3
          try clear hfz18_4
          try clear hfz18_5
          try clear hfz18_6
          try clear hfz18_7
          try clear hfz18_8
          try clear hfz18_9
          try clear hfz19_0
          try clear hfz19_1
          try clear hfz19_10
          try clear hfz19_11
          try clear hfz19_12
          try clear hfz19_2
          try clear hfz19_3
          try clear hfz19_4
          try clear hfz19_5
          try clear hfz19_6
          try clear hfz19_7
          try clear hfz19_8
          try clear hfz19_9
          try clear hfz26_0
          try clear hfz26_1
          try clear hfz26_10
          try clear hfz26_11
          try clear hfz26_12
          try clear hfz26_2
          try clear hfz26_3
          try clear hfz26_4
          try clear hfz26_5
          try clear hfz26_6
          try clear hfz26_7
          try clear hfz26_8
          try clear hfz26_9
          try clear hfz28_0
          try clear hfz28_1
          try clear hfz28_10
          try clear hfz28_11
          try clear hfz28_12
          try clear hfz28_2
          try clear hfz28_3
          try clear hfz28_4
          try clear hfz28_5
          try clear hfz28_6
          try clear hfz28_7
          try clear hfz28_8
          try clear hfz28_9
          try clear p2
          obtain ⟨kq, x68_38, rfl, HA, HJ38, HO_10, BK355, BK356, HB⟩ := hcut
          cases kq with
          | zero => exact absurd HA.out (by simp [medlarlaw16_HeadCut.j2])
          | succ kj38 =>
           have H := HA.out
           clear HA
           simp only [medlarlaw16_HeadCut.j2] at H
           by_cases c42 : x68_38 = true
           ·subst c42
            have H1 : (if 0 ≤ a2 then (if a2 ≤ (t358.length : Int) then ((head_From.f kj38 (t358.take (a2 : Int).toNat)).bind fun bt371 => (if bt371.2.2.2.2.2.2.2.2.2.2.2.2.2 = 2 then (if ([] : List Int).length + t358.length < 140737488355328 then ((some (([] : List Int) ++ t358 : List Int)).bind fun y388 => (if y388.length + l3.length < 140737488355328 then ((head_From.f kj38 (y388 ++ l3)).bind fun bt394 => (if t357 = true then (some ((bt394.2.2.2.2.2.2.2.2.2.2.2.2.2 == 0) == ((l3.length : Int) == 0))) else (some false))) else (none))) else (none)) else (some false))) else (none)) else (none)) = some r := by rw [if_pos rfl] at H; exact H
            clear H
            have H := H1
            clear H1
            by_cases c43 : 0 ≤ a2
            ·rw [if_pos c43] at H
             have c43b0 := eq_true c43
             have c43b1 : decide (0 ≤ a2) = true := decide_eq_true c43
             clear c43
             by_cases c44 : a2 ≤ (t358.length : Int)
             ·rw [if_pos c44] at H
              have c44b0 := eq_true c44
              have c44b1 : decide (a2 ≤ (t358.length : Int)) = true := decide_eq_true c44
              clear c44
              obtain ⟨y367, hy367⟩ : ∃ y_ : List Int, y_ = (t358.take (a2 : Int).toNat) := ⟨_, rfl⟩
              replace H : ((head_From.f kj38 y367).bind fun bt371 => (if bt371.2.2.2.2.2.2.2.2.2.2.2.2.2 = 2 then (if ([] : List Int).length + t358.length < 140737488355328 then ((some (([] : List Int) ++ t358 : List Int)).bind fun y388 => (if y388.length + l3.length < 140737488355328 then ((head_From.f kj38 (y388 ++ l3)).bind fun bt394 => (if t357 = true then (some ((bt394.2.2.2.2.2.2.2.2.2.2.2.2.2 == 0) == ((l3.length : Int) == 0))) else (some false))) else (none))) else (none)) else (some false))) = some r := by first | (rw [hy367]; with_reducible exact H) | (have H2_ := (Option.bind_some _ _).symm.trans H; rw [hy367]; with_reducible exact H2_) | (have H2_ := (Option.bind_some _ _).symm.trans H; with_reducible exact H2_) | with_reducible exact H | (rw [hy367]; exact H) | exact H
              have Ny367 := ak_ hy367
              clear hy367
              replace H := Option.bind_eq_some_iff.mp H
              obtain ⟨⟨t371, t372, t373, t374, t377, t378, t379, t380, t381, t382, t383, t384, t385, t386⟩, A450, H⟩ := H
              replace H : (if t386 = 2 then (if ([] : List Int).length + t358.length < 140737488355328 then ((some (([] : List Int) ++ t358 : List Int)).bind fun y388 => (if y388.length + l3.length < 140737488355328 then ((head_From.f kj38 (y388 ++ l3)).bind fun bt394 => (if t357 = true then (some ((bt394.2.2.2.2.2.2.2.2.2.2.2.2.2 == 0) == ((l3.length : Int) == 0))) else (some false))) else (none))) else (none)) else (some false)) = some r := H
              have A45 := ak_ A450
              clear A450
              by_cases c46 : t386 = 2
              ·rw [if_pos c46] at H
               have c46b0 : (t386 == 2) = true := beq_iff_eq.mpr c46
               have c46b1 : (t386 != 2) = false := bne_eq_false_iff_eq.mpr c46
               clear c46
               by_cases c47 : ([] : List Int).length + t358.length < 140737488355328
               ·rw [if_pos c47] at H
                have LMc47 := ak_ c47
                clear c47
                obtain ⟨y388, hy388⟩ : ∃ y_ : List Int, y_ = (([] : List Int) ++ t358) := ⟨_, rfl⟩
                replace H : (if y388.length + l3.length < 140737488355328 then ((head_From.f kj38 (y388 ++ l3)).bind fun bt394 => (if t357 = true then (some ((bt394.2.2.2.2.2.2.2.2.2.2.2.2.2 == 0) == ((l3.length : Int) == 0))) else (some false))) else (none)) = some r := by first | (rw [hy388]; with_reducible exact H) | (have H2_ := (Option.bind_some _ _).symm.trans H; rw [hy388]; with_reducible exact H2_) | (have H2_ := (Option.bind_some _ _).symm.trans H; with_reducible exact H2_) | with_reducible exact H | (rw [hy388]; exact H) | exact H
                have Ny388 := ak_ hy388
                clear hy388
                by_cases c48 : y388.length + l3.length < 140737488355328
                ·rw [if_pos c48] at H
                 have LMc48 := ak_ c48
                 clear c48
                 obtain ⟨y391, hy391⟩ : ∃ y_ : List Int, y_ = (y388 ++ l3) := ⟨_, rfl⟩
                 replace H : ((head_From.f kj38 y391).bind fun bt394 => (if t357 = true then (some ((bt394.2.2.2.2.2.2.2.2.2.2.2.2.2 == 0) == ((l3.length : Int) == 0))) else (some false))) = some r := by first | (rw [hy391]; with_reducible exact H) | (have H2_ := (Option.bind_some _ _).symm.trans H; rw [hy391]; with_reducible exact H2_) | (have H2_ := (Option.bind_some _ _).symm.trans H; with_reducible exact H2_) | with_reducible exact H | (rw [hy391]; exact H) | exact H
                 have Ny391 := ak_ hy391
                 clear hy391
                 replace H := Option.bind_eq_some_iff.mp H
                 obtain ⟨⟨t394, t395, t396, t397, t400, t401, t402, t403, t404, t405, t406, t407, t408, t409⟩, A490, H⟩ := H
                 replace H : (if t357 = true then (some ((t409 == 0) == ((l3.length : Int) == 0))) else (some false)) = some r := H
                 have A49 := ak_ A490
                 clear A490
                 by_cases c50 : t357 = true
                 ·subst c50
                  have H1 : (some ((t409 == 0) == ((l3.length : Int) == 0))) = some r := by rw [if_pos rfl] at H; exact H
                  clear H
                  have H := H1
                  clear H1
                  obtain rfl := Option.some.inj H
                  obtain ⟨Ao52, co52, eo52⟩ := Kd.R_slice HO_10.out
                  subst eo52
                  have q51 : (a2 : Int) ≤ ((t358.length : Int) : Int) := od_ (by first | (with_reducible assumption) | assumption)
                  obtain ⟨i051, hi051, _, hsz51, _⟩ := info_parts info5
                  have hroom51 : t358.length ≤ co52 := (Kd.R_reads' HO_10.out).2.1
                  have hC51 : Kd.C (Kd.int .u8) _ Ao52 t358.length t358 := (Kd.R_reads' HO_10.out).2.2
                  have hcut51 := cut_to (P := Try.prog) 35 5 .i64 Try.underlying35 hi051 Ao52 t358.length co52 a2 (od_ (by first | (with_reducible assumption) | assumption)) q51 hroom51
                  have hr51 := Kd.C_take (m := (a2 : Int).toNat) hC51 (by omega)
                  have hy51 : y367.length = (a2 : Int).toNat := (by rw [Ny367.out, List.length_take]; omega)
                  rw [← Ny367.out] at hr51
                  rw [← hy51] at hcut51
                  have HR370 := ak_ hr51
                  have HC370 := ak_ (show y367.length ≤ co52 from by omega)
                  clear hr51 hC51 hroom51 hi051 hsz51
                  have KY51 := ak_ hy51
                  clear hy51
                  have KL51 := ak_ (show (a2 : Int).toNat ≤ t358.length from by omega)
                  replace q51 := eq_true q51
                  go_wp2_with (first | ((with_reducible refine gate_callee (f := 19) rfl ?_); refine goesL_ (some 73) rfl rfl Try.func19 (by kernel_rfl) rfl #[.slice Ao52 y367.length co52] rfl (by (try simp only [map_toArray, map_cons, map_nil]); first | done | rfl | (simp only [length_drop, length_take]; rfl)) ?_; (with_reducible refine (head_From.calls kj38 _ _ y367 t371 t372 t373 t374 t377 t378 t379 t380 t381 t382 t383 t384 t385 t386 _ ?side1 ?side2 A45.out).mono ?_); (case side1 => repeat (first | exact (by repeat (first | (with_reducible exact HR370.out) | (with_reducible refine Kd.C_alloc ?_ _) | (with_reducible refine Kd.C_drewN ?_ _) | (with_reducible refine Kd.C_drew ?_) | exact HR370.out)) | (with_reducible refine Kd.C_alloc ?_ _) | (with_reducible refine Kd.C_drewN ?_ _) | (with_reducible refine Kd.C_drew ?_))); (case side2 => exact HC370.out); rintro e w53 ⟨v375, rfl, ho0, hb⟩; refine ⟨_, rfl, ?_⟩; have n0_ := ak_ (Kd.R_below (by (with_reducible repeat (first | apply Kd.R_alloc | apply Kd.R_drewN | apply Kd.R_drew)); exact HO_10.out) hb); have n1_ := ak_ (Kd.R_lower ho0 (bz_ (by repeat (first | (with_reducible first | exact HB.out | apply ba_ | apply bn_ | apply bd_ | refine below_set ?_ GE355.out | refine below_set ?_ GE356.out) | exact HB.out)))); have n2_ := ak_ (kb_ (g := gb355) (o := .cells #[.int .i64 a0_0, .int .i64 a0_1, .int .i64 a0_2, .slice A0_3 l0_3.length c0_3, .bool a0_4, .bool a0_5, .int .u64 a0_6, .int .u64 a0_7, .int .u64 a0_8, .int .u64 a0_9, .int .u64 a0_10, .int .u64 a0_11, .int .i64 a0_12] 31 (0, 0)) (by (with_reducible repeat (first | refine kn_ ?_ _ | refine kd_ ?_ | refine ka_ ?_ _)); exact BK355.out) hb); have n3_ := ak_ (kb_ (g := gb356) (o := .cells #[.int .i64 a1_0, .int .i64 a1_1, .int .i64 a1_2, .slice A1_3 l1_3.length c1_3, .bool a1_4, .bool a1_5, .int .u64 a1_6, .int .u64 a1_7, .int .u64 a1_8, .int .u64 a1_9, .int .u64 a1_10, .int .u64 a1_11, .int .i64 a1_12] 31 (0, 0)) (by (with_reducible repeat (first | refine kn_ ?_ _ | refine kd_ ?_ | refine ka_ ?_ _)); exact BK356.out) hb); have n4_ := ak_ (Kd.C_below (by repeat (first | (with_reducible exact HR370.out) | (with_reducible refine Kd.C_alloc ?_ _) | (with_reducible refine Kd.C_drewN ?_ _) | (with_reducible refine Kd.C_drew ?_) | exact HR370.out)) hb); have n5_ := ak_ (bt_ (by repeat (first | (with_reducible first | exact HB.out | apply ba_ | apply bn_ | apply bd_ | refine below_set ?_ GE355.out | refine below_set ?_ GE356.out) | exact HB.out)) hb); clear HO_10; clear BK355; clear BK356; clear HR370; clear HB; have HO_10 := n0_; have HO376 := n1_; have BK355 := n2_; have BK356 := n3_; have HR370 := n4_; have HB := n5_; clear n0_ n1_ n2_ n3_ n4_ n5_; (try clear hb); (try clear hb2); (try clear hk); (try clear hi); (try clear ho0)) | ((with_reducible refine gate_dst (N := 14) rfl ?_); (try (refine gate_guard (by rfl) ?_; dsimp only)); refine box_event ?hg (N := 14) ?hd (cs := #[.int .i64 0, .int .i64 0, .int .i64 0, .slice none 0 0, .bool false, .bool false, .int .u64 0, .int .u64 0, .int .u64 0, .int .u64 0, .int .u64 0, .int .u64 0, .int .i64 0]) (t := 31) ?hr ?_; (case hd => rfl); (case hg => rfl); (case hr => first | (go_simp; done) | (go_simp; rfl)); intro gb387 hg w54 hbox hb; have n0_ := ak_ (Kd.R_below (by (with_reducible repeat (first | apply Kd.R_alloc | apply Kd.R_drewN | apply Kd.R_drew)); exact HO_10.out) hb); have n1_ := ak_ (Kd.R_below (by (with_reducible repeat (first | apply Kd.R_alloc | apply Kd.R_drewN | apply Kd.R_drew)); exact HO376.out) hb); have n2_ := ak_ (kb_ (g := gb355) (o := .cells #[.int .i64 a0_0, .int .i64 a0_1, .int .i64 a0_2, .slice A0_3 l0_3.length c0_3, .bool a0_4, .bool a0_5, .int .u64 a0_6, .int .u64 a0_7, .int .u64 a0_8, .int .u64 a0_9, .int .u64 a0_10, .int .u64 a0_11, .int .i64 a0_12] 31 (0, 0)) (by (with_reducible repeat (first | refine kn_ ?_ _ | refine kd_ ?_ | refine ka_ ?_ _)); exact BK355.out) hb); have n3_ := ak_ (kb_ (g := gb356) (o := .cells #[.int .i64 a1_0, .int .i64 a1_1, .int .i64 a1_2, .slice A1_3 l1_3.length c1_3, .bool a1_4, .bool a1_5, .int .u64 a1_6, .int .u64 a1_7, .int .u64 a1_8, .int .u64 a1_9, .int .u64 a1_10, .int .u64 a1_11, .int .i64 a1_12] 31 (0, 0)) (by (with_reducible repeat (first | refine kn_ ?_ _ | refine kd_ ?_ | refine ka_ ?_ _)); exact BK356.out) hb); have n4_ := ak_ (Kd.C_below (by repeat (first | (with_reducible exact HR370.out) | (with_reducible refine Kd.C_alloc ?_ _) | (with_reducible refine Kd.C_drewN ?_ _) | (with_reducible refine Kd.C_drew ?_) | exact HR370.out)) hb); have n5_ := ak_ (bt_ (by repeat (first | (with_reducible first | exact HB.out | apply ba_ | apply bn_ | apply bd_ | refine below_set ?_ GE355.out | refine below_set ?_ GE356.out) | exact HB.out)) hb); have n6_ := ak_ (hbox); have n7_ := ak_ ((by rw [hg]; exact (bz_ (by repeat (first | (with_reducible first | exact HB.out | apply ba_ | apply bn_ | apply bd_ | refine below_set ?_ GE355.out | refine below_set ?_ GE356.out) | exact HB.out))) : w.heap.size ≤ gb387)); have n8_ := ak_ ((by rw [hg]; exact (bz_ (by repeat (first | (with_reducible first | exact HB.out | apply ba_ | apply bn_ | apply bd_ | refine below_set ?_ GE355.out | refine below_set ?_ GE356.out) | exact HB.out))) : w.heap.size ≤ gb387)); have n9_ := ak_ ((by rw [hg]; exact Nat.ne_of_lt (blk_lt (g := gb355) (o := .cells #[.int .i64 a0_0, .int .i64 a0_1, .int .i64 a0_2, .slice A0_3 l0_3.length c0_3, .bool a0_4, .bool a0_5, .int .u64 a0_6, .int .u64 a0_7, .int .u64 a0_8, .int .u64 a0_9, .int .u64 a0_10, .int .u64 a0_11, .int .i64 a0_12] 31 (0, 0)) (by (with_reducible repeat (first | refine kn_ ?_ _ | refine kd_ ?_ | refine ka_ ?_ _)); exact BK355.out)) : gb355 ≠ gb387)); have n10_ := ak_ ((by rw [hg]; exact Nat.ne_of_gt (blk_lt (g := gb355) (o := .cells #[.int .i64 a0_0, .int .i64 a0_1, .int .i64 a0_2, .slice A0_3 l0_3.length c0_3, .bool a0_4, .bool a0_5, .int .u64 a0_6, .int .u64 a0_7, .int .u64 a0_8, .int .u64 a0_9, .int .u64 a0_10, .int .u64 a0_11, .int .i64 a0_12] 31 (0, 0)) (by (with_reducible repeat (first | refine kn_ ?_ _ | refine kd_ ?_ | refine ka_ ?_ _)); exact BK355.out)) : gb387 ≠ gb355)); have n11_ := ak_ ((by rw [hg]; exact Nat.ne_of_lt (blk_lt (g := gb356) (o := .cells #[.int .i64 a1_0, .int .i64 a1_1, .int .i64 a1_2, .slice A1_3 l1_3.length c1_3, .bool a1_4, .bool a1_5, .int .u64 a1_6, .int .u64 a1_7, .int .u64 a1_8, .int .u64 a1_9, .int .u64 a1_10, .int .u64 a1_11, .int .i64 a1_12] 31 (0, 0)) (by (with_reducible repeat (first | refine kn_ ?_ _ | refine kd_ ?_ | refine ka_ ?_ _)); exact BK356.out)) : gb356 ≠ gb387)); have n12_ := ak_ ((by rw [hg]; exact Nat.ne_of_gt (blk_lt (g := gb356) (o := .cells #[.int .i64 a1_0, .int .i64 a1_1, .int .i64 a1_2, .slice A1_3 l1_3.length c1_3, .bool a1_4, .bool a1_5, .int .u64 a1_6, .int .u64 a1_7, .int .u64 a1_8, .int .u64 a1_9, .int .u64 a1_10, .int .u64 a1_11, .int .i64 a1_12] 31 (0, 0)) (by (with_reducible repeat (first | refine kn_ ?_ _ | refine kd_ ?_ | refine ka_ ?_ _)); exact BK356.out)) : gb387 ≠ gb356)); clear HO_10; clear HO376; clear BK355; clear BK356; clear HR370; clear HB; have HO_10 := n0_; have HO376 := n1_; have BK355 := n2_; have BK356 := n3_; have HR370 := n4_; have HB := n5_; have BK387 := n6_; have GW387 := n7_; have GE387 := n8_; have NB355_387 := n9_; have NB387_355 := n10_; have NB356_387 := n11_; have NB387_356 := n12_; clear n0_ n1_ n2_ n3_ n4_ n5_ n6_ n7_ n8_ n9_ n10_ n11_ n12_; clear hb hbox hg; have hnb55 := NB387_355.out; have hnc55 := NB355_387.out; have hnb56 := NB387_356.out; have hnc56 := NB356_387.out; have hcz57_0 : w54.cell? ⟨gb387, 0, none⟩ = some (.int .i64 0) := (kc_ BK387.out 0).trans rfl; have hcz57_1 : w54.cell? ⟨gb387, 1, none⟩ = some (.int .i64 0) := (kc_ BK387.out 1).trans rfl; have hcz57_2 : w54.cell? ⟨gb387, 2, none⟩ = some (.int .i64 0) := (kc_ BK387.out 2).trans rfl; have hcz57_3 : w54.cell? ⟨gb387, 3, none⟩ = some (.slice none 0 0) := (kc_ BK387.out 3).trans rfl; have hcz57_4 : w54.cell? ⟨gb387, 4, none⟩ = some (.bool false) := (kc_ BK387.out 4).trans rfl; have hcz57_5 : w54.cell? ⟨gb387, 5, none⟩ = some (.bool false) := (kc_ BK387.out 5).trans rfl; have hcz57_6 : w54.cell? ⟨gb387, 6, none⟩ = some (.int .u64 0) := (kc_ BK387.out 6).trans rfl; have hcz57_7 : w54.cell? ⟨gb387, 7, none⟩ = some (.int .u64 0) := (kc_ BK387.out 7).trans rfl; have hcz57_8 : w54.cell? ⟨gb387, 8, none⟩ = some (.int .u64 0) := (kc_ BK387.out 8).trans rfl; have hcz57_9 : w54.cell? ⟨gb387, 9, none⟩ = some (.int .u64 0) := (kc_ BK387.out 9).trans rfl; have hcz57_10 : w54.cell? ⟨gb387, 10, none⟩ = some (.int .u64 0) := (kc_ BK387.out 10).trans rfl; have hcz57_11 : w54.cell? ⟨gb387, 11, none⟩ = some (.int .u64 0) := (kc_ BK387.out 11).trans rfl; have hcz57_12 : w54.cell? ⟨gb387, 12, none⟩ = some (.int .i64 0) := (kc_ BK387.out 12).trans rfl; have hfz57_0 := kf_ BK387.out 0; have hfz57_1 := kf_ BK387.out 1; have hfz57_2 := kf_ BK387.out 2; have hfz57_3 := kf_ BK387.out 3; have hfz57_4 := kf_ BK387.out 4; have hfz57_5 := kf_ BK387.out 5; have hfz57_6 := kf_ BK387.out 6; have hfz57_7 := kf_ BK387.out 7; have hfz57_8 := kf_ BK387.out 8; have hfz57_9 := kf_ BK387.out 9; have hfz57_10 := kf_ BK387.out 10; have hfz57_11 := kf_ BK387.out 11; have hfz57_12 := kf_ BK387.out 12; obtain ⟨Ao58, co58, eo58⟩ := Kd.R_slice HO376.out; subst eo58) | ((with_reducible refine gate_builtin (b := .append) (xs := #[.const (.slice none 0 0), .tmp 79]) rfl ?_); (try (refine gate_guard (by rfl) ?_; dsimp only)); at_builtin; refine Kd.R_append_rows (Kd.int .u8) (w0 := w) w.heap.size rfl (.const (.slice none 0 0)) (.tmp 79) 35 5 (.int .u8 0) 1 rfl Try.underlying35 info5 rfl (by decide) (by omega) (.slice none 0 0) ([] : List Int) t358 _ _ _ (fun k_ => some k_ ≠ (.slice Ao52 t358.length co52 : Value).ownBlock) (fun _ => False) rfl rfl ?aO ?aR (fun _ _ h => h) (fun _ h => h.elim) ?aF ?aB ?aS ?aL ?_; (case aR => refine (Kd.R_reads' (e := 5) (base := w.heap.size) (ok := fun k_ => True) (n := t358.length) (c := co52) ?_).2.2; exact (by (with_reducible repeat (first | apply Kd.R_alloc | apply Kd.R_drewN | apply Kd.R_drew)); exact (Kd.R_mono (Kd.R_far (p := ⟨gb387, 12, none⟩) (Kd.R_far (p := ⟨gb387, 11, none⟩) (Kd.R_far (p := ⟨gb387, 10, none⟩) (Kd.R_far (p := ⟨gb387, 9, none⟩) (Kd.R_far (p := ⟨gb387, 8, none⟩) (Kd.R_far (p := ⟨gb387, 7, none⟩) (Kd.R_far (p := ⟨gb387, 6, none⟩) (Kd.R_far (p := ⟨gb387, 5, none⟩) (Kd.R_far (p := ⟨gb387, 4, none⟩) (Kd.R_far (p := ⟨gb387, 3, none⟩) (Kd.R_far (p := ⟨gb387, 2, none⟩) (Kd.R_far (p := ⟨gb387, 1, none⟩) (Kd.R_far (p := ⟨gb387, 0, none⟩) (Kd.R_types HO_10.out BK387.out (by decide)) (fun _ hk => hk.2) (.int .i64 t371)) (fun _ hk => hk.2) (.int .i64 t372)) (fun _ hk => hk.2) (.int .i64 t373)) (fun _ hk => hk.2) (.slice Ao58 t374.length co58)) (fun _ hk => hk.2) (.bool t377)) (fun _ hk => hk.2) (.bool t378)) (fun _ hk => hk.2) (.int .u64 t379)) (fun _ hk => hk.2) (.int .u64 t380)) (fun _ hk => hk.2) (.int .u64 t381)) (fun _ hk => hk.2) (.int .u64 t382)) (fun _ hk => hk.2) (.int .u64 t383)) (fun _ hk => hk.2) (.int .u64 t384)) (fun _ hk => hk.2) (.int .i64 t385)) (fun _ h_ => h_.1)))); (case aB => exact (by repeat (first | (with_reducible first | exact HB.out | apply ba_ | apply bn_ | apply bd_ | refine below_set ?_ GE355.out | refine below_set ?_ GE356.out | refine below_set ?_ GE387.out) | exact HB.out))); (case aF => exact (fun k_ hk => Kd.fresh' (Kd.R_lt (by (with_reducible repeat (first | apply Kd.R_alloc | apply Kd.R_drewN | apply Kd.R_drew)); exact (Kd.R_mono (Kd.R_far (p := ⟨gb387, 12, none⟩) (Kd.R_far (p := ⟨gb387, 11, none⟩) (Kd.R_far (p := ⟨gb387, 10, none⟩) (Kd.R_far (p := ⟨gb387, 9, none⟩) (Kd.R_far (p := ⟨gb387, 8, none⟩) (Kd.R_far (p := ⟨gb387, 7, none⟩) (Kd.R_far (p := ⟨gb387, 6, none⟩) (Kd.R_far (p := ⟨gb387, 5, none⟩) (Kd.R_far (p := ⟨gb387, 4, none⟩) (Kd.R_far (p := ⟨gb387, 3, none⟩) (Kd.R_far (p := ⟨gb387, 2, none⟩) (Kd.R_far (p := ⟨gb387, 1, none⟩) (Kd.R_far (p := ⟨gb387, 0, none⟩) (Kd.R_types HO_10.out BK387.out (by decide)) (fun _ hk => hk.2) (.int .i64 t371)) (fun _ hk => hk.2) (.int .i64 t372)) (fun _ hk => hk.2) (.int .i64 t373)) (fun _ hk => hk.2) (.slice Ao58 t374.length co58)) (fun _ hk => hk.2) (.bool t377)) (fun _ hk => hk.2) (.bool t378)) (fun _ hk => hk.2) (.int .u64 t379)) (fun _ hk => hk.2) (.int .u64 t380)) (fun _ hk => hk.2) (.int .u64 t381)) (fun _ hk => hk.2) (.int .u64 t382)) (fun _ hk => hk.2) (.int .u64 t383)) (fun _ hk => hk.2) (.int .u64 t384)) (fun _ hk => hk.2) (.int .i64 t385)) (fun _ h_ => h_.1)))) k_ hk)); (case aO => exact ((Kd.R_nil _ _ _ _ (fun k_ => some k_ ≠ (.slice Ao52 t358.length co52 : Value).ownBlock)))); (case aS => exact (bz_ (by repeat (first | (with_reducible first | exact HB.out | apply ba_ | apply bn_ | apply bd_ | refine below_set ?_ GE355.out | refine below_set ?_ GE356.out | refine below_set ?_ GE387.out) | exact HB.out)))); (case aL => have := LMc47.out; omega); intro v389 w59 ho hb hg hat; rw [← Ny388.out] at ho; have n0_ := ak_ (Kd.R_after (Kd.R_apart_nil (by (with_reducible repeat (first | apply Kd.R_alloc | apply Kd.R_drewN | apply Kd.R_drew)); exact (Kd.R_mono (Kd.R_far (p := ⟨gb387, 12, none⟩) (Kd.R_far (p := ⟨gb387, 11, none⟩) (Kd.R_far (p := ⟨gb387, 10, none⟩) (Kd.R_far (p := ⟨gb387, 9, none⟩) (Kd.R_far (p := ⟨gb387, 8, none⟩) (Kd.R_far (p := ⟨gb387, 7, none⟩) (Kd.R_far (p := ⟨gb387, 6, none⟩) (Kd.R_far (p := ⟨gb387, 5, none⟩) (Kd.R_far (p := ⟨gb387, 4, none⟩) (Kd.R_far (p := ⟨gb387, 3, none⟩) (Kd.R_far (p := ⟨gb387, 2, none⟩) (Kd.R_far (p := ⟨gb387, 1, none⟩) (Kd.R_far (p := ⟨gb387, 0, none⟩) (Kd.R_types HO_10.out BK387.out (by decide)) (fun _ hk => hk.2) (.int .i64 t371)) (fun _ hk => hk.2) (.int .i64 t372)) (fun _ hk => hk.2) (.int .i64 t373)) (fun _ hk => hk.2) (.slice Ao58 t374.length co58)) (fun _ hk => hk.2) (.bool t377)) (fun _ hk => hk.2) (.bool t378)) (fun _ hk => hk.2) (.int .u64 t379)) (fun _ hk => hk.2) (.int .u64 t380)) (fun _ hk => hk.2) (.int .u64 t381)) (fun _ hk => hk.2) (.int .u64 t382)) (fun _ hk => hk.2) (.int .u64 t383)) (fun _ hk => hk.2) (.int .u64 t384)) (fun _ hk => hk.2) (.int .i64 t385)) (fun _ h_ => h_.1)))) hg hat); have n1_ := ak_ (blk_grown (g := gb355) (o := .cells #[.int .i64 a0_0, .int .i64 a0_1, .int .i64 a0_2, .slice A0_3 l0_3.length c0_3, .bool a0_4, .bool a0_5, .int .u64 a0_6, .int .u64 a0_7, .int .u64 a0_8, .int .u64 a0_9, .int .u64 a0_10, .int .u64 a0_11, .int .i64 a0_12] 31 (0, 0)) (by (with_reducible repeat (first | refine kn_ ?_ _ | refine kd_ ?_ | refine ka_ ?_ _)); refine blk_far ?_ NB355_387.out _; (with_reducible repeat (first | refine kn_ ?_ _ | refine kd_ ?_ | refine ka_ ?_ _)); refine blk_far ?_ NB355_387.out _; (with_reducible repeat (first | refine kn_ ?_ _ | refine kd_ ?_ | refine ka_ ?_ _)); refine blk_far ?_ NB355_387.out _; (with_reducible repeat (first | refine kn_ ?_ _ | refine kd_ ?_ | refine ka_ ?_ _)); refine blk_far ?_ NB355_387.out _; (with_reducible repeat (first | refine kn_ ?_ _ | refine kd_ ?_ | refine ka_ ?_ _)); refine blk_far ?_ NB355_387.out _; (with_reducible repeat (first | refine kn_ ?_ _ | refine kd_ ?_ | refine ka_ ?_ _)); refine blk_far ?_ NB355_387.out _; (with_reducible repeat (first | refine kn_ ?_ _ | refine kd_ ?_ | refine ka_ ?_ _)); refine blk_far ?_ NB355_387.out _; (with_reducible repeat (first | refine kn_ ?_ _ | refine kd_ ?_ | refine ka_ ?_ _)); refine blk_far ?_ NB355_387.out _; (with_reducible repeat (first | refine kn_ ?_ _ | refine kd_ ?_ | refine ka_ ?_ _)); refine blk_far ?_ NB355_387.out _; (with_reducible repeat (first | refine kn_ ?_ _ | refine kd_ ?_ | refine ka_ ?_ _)); refine blk_far ?_ NB355_387.out _; (with_reducible repeat (first | refine kn_ ?_ _ | refine kd_ ?_ | refine ka_ ?_ _)); refine blk_far ?_ NB355_387.out _; (with_reducible repeat (first | refine kn_ ?_ _ | refine kd_ ?_ | refine ka_ ?_ _)); refine blk_far ?_ NB355_387.out _; (with_reducible repeat (first | refine kn_ ?_ _ | refine kd_ ?_ | refine ka_ ?_ _)); refine blk_far ?_ NB355_387.out _; (with_reducible repeat (first | refine kn_ ?_ _ | refine kd_ ?_ | refine ka_ ?_ _)); exact BK355.out) hg (by simp [Value.ownBlock])); have n2_ := ak_ (blk_grown (g := gb356) (o := .cells #[.int .i64 a1_0, .int .i64 a1_1, .int .i64 a1_2, .slice A1_3 l1_3.length c1_3, .bool a1_4, .bool a1_5, .int .u64 a1_6, .int .u64 a1_7, .int .u64 a1_8, .int .u64 a1_9, .int .u64 a1_10, .int .u64 a1_11, .int .i64 a1_12] 31 (0, 0)) (by (with_reducible repeat (first | refine kn_ ?_ _ | refine kd_ ?_ | refine ka_ ?_ _)); refine blk_far ?_ NB356_387.out _; (with_reducible repeat (first | refine kn_ ?_ _ | refine kd_ ?_ | refine ka_ ?_ _)); refine blk_far ?_ NB356_387.out _; (with_reducible repeat (first | refine kn_ ?_ _ | refine kd_ ?_ | refine ka_ ?_ _)); refine blk_far ?_ NB356_387.out _; (with_reducible repeat (first | refine kn_ ?_ _ | refine kd_ ?_ | refine ka_ ?_ _)); refine blk_far ?_ NB356_387.out _; (with_reducible repeat (first | refine kn_ ?_ _ | refine kd_ ?_ | refine ka_ ?_ _)); refine blk_far ?_ NB356_387.out _; (with_reducible repeat (first | refine kn_ ?_ _ | refine kd_ ?_ | refine ka_ ?_ _)); refine blk_far ?_ NB356_387.out _; (with_reducible repeat (first | refine kn_ ?_ _ | refine kd_ ?_ | refine ka_ ?_ _)); refine blk_far ?_ NB356_387.out _; (with_reducible repeat (first | refine kn_ ?_ _ | refine kd_ ?_ | refine ka_ ?_ _)); refine blk_far ?_ NB356_387.out _; (with_reducible repeat (first | refine kn_ ?_ _ | refine kd_ ?_ | refine ka_ ?_ _)); refine blk_far ?_ NB356_387.out _; (with_reducible repeat (first | refine kn_ ?_ _ | refine kd_ ?_ | refine ka_ ?_ _)); refine blk_far ?_ NB356_387.out _; (with_reducible repeat (first | refine kn_ ?_ _ | refine kd_ ?_ | refine ka_ ?_ _)); refine blk_far ?_ NB356_387.out _; (with_reducible repeat (first | refine kn_ ?_ _ | refine kd_ ?_ | refine ka_ ?_ _)); refine blk_far ?_ NB356_387.out _; (with_reducible repeat (first | refine kn_ ?_ _ | refine kd_ ?_ | refine ka_ ?_ _)); refine blk_far ?_ NB356_387.out _; (with_reducible repeat (first | refine kn_ ?_ _ | refine kd_ ?_ | refine ka_ ?_ _)); exact BK356.out) hg (by simp [Value.ownBlock])); have n3_ := ak_ (Kd.R_grown (by (with_reducible repeat (first | apply Kd.R_alloc | apply Kd.R_drewN | apply Kd.R_drew)); exact (Kd.R_mono (Kd.R_far (p := ⟨gb387, 12, none⟩) (Kd.R_far (p := ⟨gb387, 11, none⟩) (Kd.R_far (p := ⟨gb387, 10, none⟩) (Kd.R_far (p := ⟨gb387, 9, none⟩) (Kd.R_far (p := ⟨gb387, 8, none⟩) (Kd.R_far (p := ⟨gb387, 7, none⟩) (Kd.R_far (p := ⟨gb387, 6, none⟩) (Kd.R_far (p := ⟨gb387, 5, none⟩) (Kd.R_far (p := ⟨gb387, 4, none⟩) (Kd.R_far (p := ⟨gb387, 3, none⟩) (Kd.R_far (p := ⟨gb387, 2, none⟩) (Kd.R_far (p := ⟨gb387, 1, none⟩) (Kd.R_far (p := ⟨gb387, 0, none⟩) (Kd.R_types HO376.out BK387.out (by decide)) (fun _ hk => hk.2) (.int .i64 t371)) (fun _ hk => hk.2) (.int .i64 t372)) (fun _ hk => hk.2) (.int .i64 t373)) (fun _ hk => hk.2) (.slice Ao58 t374.length co58)) (fun _ hk => hk.2) (.bool t377)) (fun _ hk => hk.2) (.bool t378)) (fun _ hk => hk.2) (.int .u64 t379)) (fun _ hk => hk.2) (.int .u64 t380)) (fun _ hk => hk.2) (.int .u64 t381)) (fun _ hk => hk.2) (.int .u64 t382)) (fun _ hk => hk.2) (.int .u64 t383)) (fun _ hk => hk.2) (.int .u64 t384)) (fun _ hk => hk.2) (.int .i64 t385)) (fun _ h_ => h_.1))) hg (fun _ _ => by simp [Value.ownBlock])); have n4_ := ak_ (blk_grown (g := gb387) (o := .cells #[.int .i64 t371, .int .i64 t372, .int .i64 t373, .slice Ao58 t374.length co58, .bool t377, .bool t378, .int .u64 t379, .int .u64 t380, .int .u64 t381, .int .u64 t382, .int .u64 t383, .int .u64 t384, .int .i64 t385] 31 (0, 0)) (by (with_reducible repeat (first | refine kn_ ?_ _ | refine kd_ ?_ | refine ka_ ?_ _)); refine blk_put (cs := #[.int .i64 t371, .int .i64 t372, .int .i64 t373, .slice Ao58 t374.length co58, .bool t377, .bool t378, .int .u64 t379, .int .u64 t380, .int .u64 t381, .int .u64 t382, .int .u64 t383, .int .u64 t384, .int .i64 0]) ?_ 12 _ rfl; (with_reducible repeat (first | refine kn_ ?_ _ | refine kd_ ?_ | refine ka_ ?_ _)); refine blk_put (cs := #[.int .i64 t371, .int .i64 t372, .int .i64 t373, .slice Ao58 t374.length co58, .bool t377, .bool t378, .int .u64 t379, .int .u64 t380, .int .u64 t381, .int .u64 t382, .int .u64 t383, .int .u64 0, .int .i64 0]) ?_ 11 _ rfl; (with_reducible repeat (first | refine kn_ ?_ _ | refine kd_ ?_ | refine ka_ ?_ _)); refine blk_put (cs := #[.int .i64 t371, .int .i64 t372, .int .i64 t373, .slice Ao58 t374.length co58, .bool t377, .bool t378, .int .u64 t379, .int .u64 t380, .int .u64 t381, .int .u64 t382, .int .u64 0, .int .u64 0, .int .i64 0]) ?_ 10 _ rfl; (with_reducible repeat (first | refine kn_ ?_ _ | refine kd_ ?_ | refine ka_ ?_ _)); refine blk_put (cs := #[.int .i64 t371, .int .i64 t372, .int .i64 t373, .slice Ao58 t374.length co58, .bool t377, .bool t378, .int .u64 t379, .int .u64 t380, .int .u64 t381, .int .u64 0, .int .u64 0, .int .u64 0, .int .i64 0]) ?_ 9 _ rfl; (with_reducible repeat (first | refine kn_ ?_ _ | refine kd_ ?_ | refine ka_ ?_ _)); refine blk_put (cs := #[.int .i64 t371, .int .i64 t372, .int .i64 t373, .slice Ao58 t374.length co58, .bool t377, .bool t378, .int .u64 t379, .int .u64 t380, .int .u64 0, .int .u64 0, .int .u64 0, .int .u64 0, .int .i64 0]) ?_ 8 _ rfl; (with_reducible repeat (first | refine kn_ ?_ _ | refine kd_ ?_ | refine ka_ ?_ _)); refine blk_put (cs := #[.int .i64 t371, .int .i64 t372, .int .i64 t373, .slice Ao58 t374.length co58, .bool t377, .bool t378, .int .u64 t379, .int .u64 0, .int .u64 0, .int .u64 0, .int .u64 0, .int .u64 0, .int .i64 0]) ?_ 7 _ rfl; (with_reducible repeat (first | refine kn_ ?_ _ | refine kd_ ?_ | refine ka_ ?_ _)); refine blk_put (cs := #[.int .i64 t371, .int .i64 t372, .int .i64 t373, .slice Ao58 t374.length co58, .bool t377, .bool t378, .int .u64 0, .int .u64 0, .int .u64 0, .int .u64 0, .int .u64 0, .int .u64 0, .int .i64 0]) ?_ 6 _ rfl; (with_reducible repeat (first | refine kn_ ?_ _ | refine kd_ ?_ | refine ka_ ?_ _)); refine blk_put (cs := #[.int .i64 t371, .int .i64 t372, .int .i64 t373, .slice Ao58 t374.length co58, .bool t377, .bool false, .int .u64 0, .int .u64 0, .int .u64 0, .int .u64 0, .int .u64 0, .int .u64 0, .int .i64 0]) ?_ 5 _ rfl; (with_reducible repeat (first | refine kn_ ?_ _ | refine kd_ ?_ | refine ka_ ?_ _)); refine blk_put (cs := #[.int .i64 t371, .int .i64 t372, .int .i64 t373, .slice Ao58 t374.length co58, .bool false, .bool false, .int .u64 0, .int .u64 0, .int .u64 0, .int .u64 0, .int .u64 0, .int .u64 0, .int .i64 0]) ?_ 4 _ rfl; (with_reducible repeat (first | refine kn_ ?_ _ | refine kd_ ?_ | refine ka_ ?_ _)); refine blk_put (cs := #[.int .i64 t371, .int .i64 t372, .int .i64 t373, .slice none 0 0, .bool false, .bool false, .int .u64 0, .int .u64 0, .int .u64 0, .int .u64 0, .int .u64 0, .int .u64 0, .int .i64 0]) ?_ 3 _ rfl; (with_reducible repeat (first | refine kn_ ?_ _ | refine kd_ ?_ | refine ka_ ?_ _)); refine blk_put (cs := #[.int .i64 t371, .int .i64 t372, .int .i64 0, .slice none 0 0, .bool false, .bool false, .int .u64 0, .int .u64 0, .int .u64 0, .int .u64 0, .int .u64 0, .int .u64 0, .int .i64 0]) ?_ 2 _ rfl; (with_reducible repeat (first | refine kn_ ?_ _ | refine kd_ ?_ | refine ka_ ?_ _)); refine blk_put (cs := #[.int .i64 t371, .int .i64 0, .int .i64 0, .slice none 0 0, .bool false, .bool false, .int .u64 0, .int .u64 0, .int .u64 0, .int .u64 0, .int .u64 0, .int .u64 0, .int .i64 0]) ?_ 1 _ rfl; (with_reducible repeat (first | refine kn_ ?_ _ | refine kd_ ?_ | refine ka_ ?_ _)); refine blk_put (cs := #[.int .i64 0, .int .i64 0, .int .i64 0, .slice none 0 0, .bool false, .bool false, .int .u64 0, .int .u64 0, .int .u64 0, .int .u64 0, .int .u64 0, .int .u64 0, .int .i64 0]) ?_ 0 _ rfl; (with_reducible repeat (first | refine kn_ ?_ _ | refine kd_ ?_ | refine ka_ ?_ _)); exact BK387.out) hg (by simp [Value.ownBlock])); have n5_ := ak_ (hb); have n6_ := ak_ ((show Kd.C (Kd.int .u8) w59 Ao52 y367.length y367 from by rw [Ny367.out]; exact Kd.C_take (m := (a2 : Int).toNat) ((Kd.R_reads' (Kd.R_after (Kd.R_apart_nil (by (with_reducible repeat (first | apply Kd.R_alloc | apply Kd.R_drewN | apply Kd.R_drew)); exact (Kd.R_mono (Kd.R_far (p := ⟨gb387, 12, none⟩) (Kd.R_far (p := ⟨gb387, 11, none⟩) (Kd.R_far (p := ⟨gb387, 10, none⟩) (Kd.R_far (p := ⟨gb387, 9, none⟩) (Kd.R_far (p := ⟨gb387, 8, none⟩) (Kd.R_far (p := ⟨gb387, 7, none⟩) (Kd.R_far (p := ⟨gb387, 6, none⟩) (Kd.R_far (p := ⟨gb387, 5, none⟩) (Kd.R_far (p := ⟨gb387, 4, none⟩) (Kd.R_far (p := ⟨gb387, 3, none⟩) (Kd.R_far (p := ⟨gb387, 2, none⟩) (Kd.R_far (p := ⟨gb387, 1, none⟩) (Kd.R_far (p := ⟨gb387, 0, none⟩) (Kd.R_types HO_10.out BK387.out (by decide)) (fun _ hk => hk.2) (.int .i64 t371)) (fun _ hk => hk.2) (.int .i64 t372)) (fun _ hk => hk.2) (.int .i64 t373)) (fun _ hk => hk.2) (.slice Ao58 t374.length co58)) (fun _ hk => hk.2) (.bool t377)) (fun _ hk => hk.2) (.bool t378)) (fun _ hk => hk.2) (.int .u64 t379)) (fun _ hk => hk.2) (.int .u64 t380)) (fun _ hk => hk.2) (.int .u64 t381)) (fun _ hk => hk.2) (.int .u64 t382)) (fun _ hk => hk.2) (.int .u64 t383)) (fun _ hk => hk.2) (.int .u64 t384)) (fun _ hk => hk.2) (.int .i64 t385)) (fun _ h_ => h_.1)))) hg hat)).2.2) KL51.out)); have n7_ := ak_ (ho); clear HO_10; clear BK355; clear BK356; clear HO376; clear BK387; clear HB; clear HR370; have HO_10 := n0_; have BK355 := n1_; have BK356 := n2_; have HO376 := n3_; have BK387 := n4_; have HB := n5_; have HR370 := n6_; have HO390 := n7_; clear n0_ n1_ n2_ n3_ n4_ n5_ n6_ n7_; clear ho hb hg hat) | ((with_reducible refine gate_builtin (b := .append) (xs := #[.tmp 80, .tmp 81]) rfl ?_); (try (refine gate_guard (by rfl) ?_; dsimp only)); at_builtin; refine Kd.R_append_rows (Kd.int .u8) (w0 := w) w.heap.size rfl (.tmp 80) (.tmp 81) 35 5 (.int .u8 0) 1 rfl Try.underlying35 info5 rfl (by decide) (by omega) v389 y388 l3 _ _ _ (fun k_ => some k_ ≠ (.slice Ao52 t358.length co52 : Value).ownBlock) (fun _ => False) rfl rfl ?aO ?aR (fun _ _ h => h) (fun _ h => h.elim) ?aF ?aB ?aS ?aL ?_; (case aR => repeat (first | exact (Kd.C_below HR3.out HB.out) | (with_reducible refine Kd.C_alloc ?_ _) | (with_reducible refine Kd.C_drewN ?_ _) | (with_reducible refine Kd.C_drew ?_))); (case aB => exact (by repeat (first | (with_reducible first | exact HB.out | apply ba_ | apply bn_ | apply bd_ | refine below_set ?_ GE355.out | refine below_set ?_ GE356.out | refine below_set ?_ GE387.out) | exact HB.out))); (case aF => exact (fun k_ hk => Kd.fresh' (Kd.R_lt (by (with_reducible repeat (first | apply Kd.R_alloc | apply Kd.R_drewN | apply Kd.R_drew)); exact HO_10.out)) k_ hk)); (case aO => exact (by (with_reducible repeat (first | apply Kd.R_alloc | apply Kd.R_drewN | apply Kd.R_drew)); exact HO390.out)); (case aS => exact (bz_ (by repeat (first | (with_reducible first | exact HB.out | apply ba_ | apply bn_ | apply bd_ | refine below_set ?_ GE355.out | refine below_set ?_ GE356.out | refine below_set ?_ GE387.out) | exact HB.out)))); (case aL => have := LMc48.out; omega); intro v392 w60 ho hb hg hat; rw [← Ny391.out] at ho; have n0_ := ak_ (Kd.R_after (ok := (fun _ => True)) (by (with_reducible repeat (first | apply Kd.R_alloc | apply Kd.R_drewN | apply Kd.R_drew)); exact HO_10.out) hg hat); have n1_ := ak_ (blk_grown (g := gb355) (o := .cells #[.int .i64 a0_0, .int .i64 a0_1, .int .i64 a0_2, .slice A0_3 l0_3.length c0_3, .bool a0_4, .bool a0_5, .int .u64 a0_6, .int .u64 a0_7, .int .u64 a0_8, .int .u64 a0_9, .int .u64 a0_10, .int .u64 a0_11, .int .i64 a0_12] 31 (0, 0)) (by (with_reducible repeat (first | refine kn_ ?_ _ | refine kd_ ?_ | refine ka_ ?_ _)); exact BK355.out) hg (Kd.R_ne HO390.out BK355.out (by decide))); have n2_ := ak_ (blk_grown (g := gb356) (o := .cells #[.int .i64 a1_0, .int .i64 a1_1, .int .i64 a1_2, .slice A1_3 l1_3.length c1_3, .bool a1_4, .bool a1_5, .int .u64 a1_6, .int .u64 a1_7, .int .u64 a1_8, .int .u64 a1_9, .int .u64 a1_10, .int .u64 a1_11, .int .i64 a1_12] 31 (0, 0)) (by (with_reducible repeat (first | refine kn_ ?_ _ | refine kd_ ?_ | refine ka_ ?_ _)); exact BK356.out) hg (Kd.R_ne HO390.out BK356.out (by decide))); have n3_ := ak_ (Kd.R_over' (by (with_reducible repeat (first | apply Kd.R_alloc | apply Kd.R_drewN | apply Kd.R_drew)); exact HO376.out) (Kd.R_typed (by (with_reducible repeat (first | apply Kd.R_alloc | apply Kd.R_drewN | apply Kd.R_drew)); exact HO390.out)) (by decide) hg); have n4_ := ak_ (blk_grown (g := gb387) (o := .cells #[.int .i64 t371, .int .i64 t372, .int .i64 t373, .slice Ao58 t374.length co58, .bool t377, .bool t378, .int .u64 t379, .int .u64 t380, .int .u64 t381, .int .u64 t382, .int .u64 t383, .int .u64 t384, .int .i64 t385] 31 (0, 0)) (by (with_reducible repeat (first | refine kn_ ?_ _ | refine kd_ ?_ | refine ka_ ?_ _)); exact BK387.out) hg (Kd.R_ne HO390.out BK387.out (by decide))); have n5_ := ak_ (hb); have n6_ := ak_ ((show Kd.C (Kd.int .u8) w60 Ao52 y367.length y367 from by rw [Ny367.out]; exact Kd.C_take (m := (a2 : Int).toNat) ((Kd.R_reads' (Kd.R_after (ok := (fun _ => True)) (by (with_reducible repeat (first | apply Kd.R_alloc | apply Kd.R_drewN | apply Kd.R_drew)); exact HO_10.out) hg hat)).2.2) KL51.out)); have n7_ := ak_ (ho); clear HO_10; clear BK355; clear BK356; clear HO376; clear BK387; clear HB; clear HR370; clear HO390; have HO_10 := n0_; have BK355 := n1_; have BK356 := n2_; have HO376 := n3_; have BK387 := n4_; have HB := n5_; have HR370 := n6_; have HO393 := n7_; clear n0_ n1_ n2_ n3_ n4_ n5_ n6_ n7_; clear ho hb hg hat; obtain ⟨Ao61, co61, eo61⟩ := Kd.R_slice HO393.out; subst eo61) | ((with_reducible refine gate_callee (f := 19) rfl ?_); refine goesL_ (some 83) rfl rfl Try.func19 (by kernel_rfl) rfl #[.slice Ao61 y391.length co61] rfl (by (try simp only [map_toArray, map_cons, map_nil]); first | done | rfl | (simp only [length_drop, length_take]; rfl)) ?_; (with_reducible refine (head_From.calls kj38 _ _ y391 t394 t395 t396 t397 t400 t401 t402 t403 t404 t405 t406 t407 t408 t409 _ ?side1 ?side2 A49.out).mono ?_); (case side1 => repeat (first | exact (Kd.R_reads' HO393.out).2.2 | (with_reducible refine Kd.C_alloc ?_ _) | (with_reducible refine Kd.C_drewN ?_ _) | (with_reducible refine Kd.C_drew ?_))); (case side2 => exact (Kd.R_reads' HO393.out).2.1); rintro e w62 ⟨v398, rfl, ho0, hb⟩; refine ⟨_, rfl, ?_⟩; have n0_ := ak_ (Kd.R_below (by (with_reducible repeat (first | apply Kd.R_alloc | apply Kd.R_drewN | apply Kd.R_drew)); exact HO_10.out) hb); have n1_ := ak_ (Kd.R_elder' (by (with_reducible repeat (first | apply Kd.R_alloc | apply Kd.R_drewN | apply Kd.R_drew)); exact HO376.out) (Kd.R_base ho0) hb); have n2_ := ak_ (Kd.R_below (by (with_reducible repeat (first | apply Kd.R_alloc | apply Kd.R_drewN | apply Kd.R_drew)); exact HO393.out) hb); have n3_ := ak_ (Kd.R_lower (Kd.R_new' ho0 (Kd.R_lt (by (with_reducible repeat (first | apply Kd.R_alloc | apply Kd.R_drewN | apply Kd.R_drew)); exact HO376.out))) (bz_ (by repeat (first | (with_reducible first | exact HB.out | apply ba_ | apply bn_ | apply bd_ | refine below_set ?_ GE355.out | refine below_set ?_ GE356.out | refine below_set ?_ GE387.out) | exact HB.out)))); have n4_ := ak_ (kb_ (g := gb355) (o := .cells #[.int .i64 a0_0, .int .i64 a0_1, .int .i64 a0_2, .slice A0_3 l0_3.length c0_3, .bool a0_4, .bool a0_5, .int .u64 a0_6, .int .u64 a0_7, .int .u64 a0_8, .int .u64 a0_9, .int .u64 a0_10, .int .u64 a0_11, .int .i64 a0_12] 31 (0, 0)) (by (with_reducible repeat (first | refine kn_ ?_ _ | refine kd_ ?_ | refine ka_ ?_ _)); exact BK355.out) hb); have n5_ := ak_ (kb_ (g := gb356) (o := .cells #[.int .i64 a1_0, .int .i64 a1_1, .int .i64 a1_2, .slice A1_3 l1_3.length c1_3, .bool a1_4, .bool a1_5, .int .u64 a1_6, .int .u64 a1_7, .int .u64 a1_8, .int .u64 a1_9, .int .u64 a1_10, .int .u64 a1_11, .int .i64 a1_12] 31 (0, 0)) (by (with_reducible repeat (first | refine kn_ ?_ _ | refine kd_ ?_ | refine ka_ ?_ _)); exact BK356.out) hb); have n6_ := ak_ (kb_ (g := gb387) (o := .cells #[.int .i64 t371, .int .i64 t372, .int .i64 t373, .slice Ao58 t374.length co58, .bool t377, .bool t378, .int .u64 t379, .int .u64 t380, .int .u64 t381, .int .u64 t382, .int .u64 t383, .int .u64 t384, .int .i64 t385] 31 (0, 0)) (by (with_reducible repeat (first | refine kn_ ?_ _ | refine kd_ ?_ | refine ka_ ?_ _)); exact BK387.out) hb); have n7_ := ak_ (Kd.C_below (by repeat (first | (with_reducible exact HR370.out) | (with_reducible refine Kd.C_alloc ?_ _) | (with_reducible refine Kd.C_drewN ?_ _) | (with_reducible refine Kd.C_drew ?_) | exact HR370.out)) hb); have n8_ := ak_ (bt_ (by repeat (first | (with_reducible first | exact HB.out | apply ba_ | apply bn_ | apply bd_ | refine below_set ?_ GE355.out | refine below_set ?_ GE356.out | refine below_set ?_ GE387.out) | exact HB.out)) hb); clear HO_10; clear HO376; clear HO393; clear BK355; clear BK356; clear BK387; clear HR370; clear HB; have HO_10 := n0_; have HO376 := n1_; have HO393 := n2_; have HO399 := n3_; have BK355 := n4_; have BK356 := n5_; have BK387 := n6_; have HR370 := n7_; have HB := n8_; clear n0_ n1_ n2_ n3_ n4_ n5_ n6_ n7_ n8_; (try clear hb); (try clear hb2); (try clear hk); (try clear hi); (try clear ho0)) | ((with_reducible refine gate_dst (N := 16) rfl ?_); (try (refine gate_guard (by rfl) ?_; dsimp only)); refine box_event ?hg (N := 16) ?hd (cs := #[.int .i64 0, .int .i64 0, .int .i64 0, .slice none 0 0, .bool false, .bool false, .int .u64 0, .int .u64 0, .int .u64 0, .int .u64 0, .int .u64 0, .int .u64 0, .int .i64 0]) (t := 31) ?hr ?_; (case hd => rfl); (case hg => rfl); (case hr => first | (go_simp; done) | (go_simp; rfl)); intro gb410 hg w63 hbox hb; have n0_ := ak_ (Kd.R_below (by (with_reducible repeat (first | apply Kd.R_alloc | apply Kd.R_drewN | apply Kd.R_drew)); exact HO_10.out) hb); have n1_ := ak_ (Kd.R_below (by (with_reducible repeat (first | apply Kd.R_alloc | apply Kd.R_drewN | apply Kd.R_drew)); exact HO376.out) hb); have n2_ := ak_ (Kd.R_below (by (with_reducible repeat (first | apply Kd.R_alloc | apply Kd.R_drewN | apply Kd.R_drew)); exact HO393.out) hb); have n3_ := ak_ (Kd.R_below (by (with_reducible repeat (first | apply Kd.R_alloc | apply Kd.R_drewN | apply Kd.R_drew)); exact HO399.out) hb); have n4_ := ak_ (kb_ (g := gb355) (o := .cells #[.int .i64 a0_0, .int .i64 a0_1, .int .i64 a0_2, .slice A0_3 l0_3.length c0_3, .bool a0_4, .bool a0_5, .int .u64 a0_6, .int .u64 a0_7, .int .u64 a0_8, .int .u64 a0_9, .int .u64 a0_10, .int .u64 a0_11, .int .i64 a0_12] 31 (0, 0)) (by (with_reducible repeat (first | refine kn_ ?_ _ | refine kd_ ?_ | refine ka_ ?_ _)); exact BK355.out) hb); have n5_ := ak_ (kb_ (g := gb356) (o := .cells #[.int .i64 a1_0, .int .i64 a1_1, .int .i64 a1_2, .slice A1_3 l1_3.length c1_3, .bool a1_4, .bool a1_5, .int .u64 a1_6, .int .u64 a1_7, .int .u64 a1_8, .int .u64 a1_9, .int .u64 a1_10, .int .u64 a1_11, .int .i64 a1_12] 31 (0, 0)) (by (with_reducible repeat (first | refine kn_ ?_ _ | refine kd_ ?_ | refine ka_ ?_ _)); exact BK356.out) hb); have n6_ := ak_ (kb_ (g := gb387) (o := .cells #[.int .i64 t371, .int .i64 t372, .int .i64 t373, .slice Ao58 t374.length co58, .bool t377, .bool t378, .int .u64 t379, .int .u64 t380, .int .u64 t381, .int .u64 t382, .int .u64 t383, .int .u64 t384, .int .i64 t385] 31 (0, 0)) (by (with_reducible repeat (first | refine kn_ ?_ _ | refine kd_ ?_ | refine ka_ ?_ _)); exact BK387.out) hb); have n7_ := ak_ (Kd.C_below (by repeat (first | (with_reducible exact HR370.out) | (with_reducible refine Kd.C_alloc ?_ _) | (with_reducible refine Kd.C_drewN ?_ _) | (with_reducible refine Kd.C_drew ?_) | exact HR370.out)) hb); have n8_ := ak_ (bt_ (by repeat (first | (with_reducible first | exact HB.out | apply ba_ | apply bn_ | apply bd_ | refine below_set ?_ GE355.out | refine below_set ?_ GE356.out | refine below_set ?_ GE387.out) | exact HB.out)) hb); have n9_ := ak_ (hbox); have n10_ := ak_ ((by rw [hg]; exact (bz_ (by repeat (first | (with_reducible first | exact HB.out | apply ba_ | apply bn_ | apply bd_ | refine below_set ?_ GE355.out | refine below_set ?_ GE356.out | refine below_set ?_ GE387.out) | exact HB.out))) : w.heap.size ≤ gb410)); have n11_ := ak_ ((by rw [hg]; exact (bz_ (by repeat (first | (with_reducible first | exact HB.out | apply ba_ | apply bn_ | apply bd_ | refine below_set ?_ GE355.out | refine below_set ?_ GE356.out | refine below_set ?_ GE387.out) | exact HB.out))) : w.heap.size ≤ gb410)); have n12_ := ak_ ((by rw [hg]; exact Nat.ne_of_lt (blk_lt (g := gb355) (o := .cells #[.int .i64 a0_0, .int .i64 a0_1, .int .i64 a0_2, .slice A0_3 l0_3.length c0_3, .bool a0_4, .bool a0_5, .int .u64 a0_6, .int .u64 a0_7, .int .u64 a0_8, .int .u64 a0_9, .int .u64 a0_10, .int .u64 a0_11, .int .i64 a0_12] 31 (0, 0)) (by (with_reducible repeat (first | refine kn_ ?_ _ | refine kd_ ?_ | refine ka_ ?_ _)); exact BK355.out)) : gb355 ≠ gb410)); have n13_ := ak_ ((by rw [hg]; exact Nat.ne_of_gt (blk_lt (g := gb355) (o := .cells #[.int .i64 a0_0, .int .i64 a0_1, .int .i64 a0_2, .slice A0_3 l0_3.length c0_3, .bool a0_4, .bool a0_5, .int .u64 a0_6, .int .u64 a0_7, .int .u64 a0_8, .int .u64 a0_9, .int .u64 a0_10, .int .u64 a0_11, .int .i64 a0_12] 31 (0, 0)) (by (with_reducible repeat (first | refine kn_ ?_ _ | refine kd_ ?_ | refine ka_ ?_ _)); exact BK355.out)) : gb410 ≠ gb355)); have n14_ := ak_ ((by rw [hg]; exact Nat.ne_of_lt (blk_lt (g := gb356) (o := .cells #[.int .i64 a1_0, .int .i64 a1_1, .int .i64 a1_2, .slice A1_3 l1_3.length c1_3, .bool a1_4, .bool a1_5, .int .u64 a1_6, .int .u64 a1_7, .int .u64 a1_8, .int .u64 a1_9, .int .u64 a1_10, .int .u64 a1_11, .int .i64 a1_12] 31 (0, 0)) (by (with_reducible repeat (first | refine kn_ ?_ _ | refine kd_ ?_ | refine ka_ ?_ _)); exact BK356.out)) : gb356 ≠ gb410)); have n15_ := ak_ ((by rw [hg]; exact Nat.ne_of_gt (blk_lt (g := gb356) (o := .cells #[.int .i64 a1_0, .int .i64 a1_1, .int .i64 a1_2, .slice A1_3 l1_3.length c1_3, .bool a1_4, .bool a1_5, .int .u64 a1_6, .int .u64 a1_7, .int .u64 a1_8, .int .u64 a1_9, .int .u64 a1_10, .int .u64 a1_11, .int .i64 a1_12] 31 (0, 0)) (by (with_reducible repeat (first | refine kn_ ?_ _ | refine kd_ ?_ | refine ka_ ?_ _)); exact BK356.out)) : gb410 ≠ gb356)); have n16_ := ak_ ((by rw [hg]; exact Nat.ne_of_lt (blk_lt (g := gb387) (o := .cells #[.int .i64 t371, .int .i64 t372, .int .i64 t373, .slice Ao58 t374.length co58, .bool t377, .bool t378, .int .u64 t379, .int .u64 t380, .int .u64 t381, .int .u64 t382, .int .u64 t383, .int .u64 t384, .int .i64 t385] 31 (0, 0)) (by (with_reducible repeat (first | refine kn_ ?_ _ | refine kd_ ?_ | refine ka_ ?_ _)); exact BK387.out)) : gb387 ≠ gb410)); have n17_ := ak_ ((by rw [hg]; exact Nat.ne_of_gt (blk_lt (g := gb387) (o := .cells #[.int .i64 t371, .int .i64 t372, .int .i64 t373, .slice Ao58 t374.length co58, .bool t377, .bool t378, .int .u64 t379, .int .u64 t380, .int .u64 t381, .int .u64 t382, .int .u64 t383, .int .u64 t384, .int .i64 t385] 31 (0, 0)) (by (with_reducible repeat (first | refine kn_ ?_ _ | refine kd_ ?_ | refine ka_ ?_ _)); exact BK387.out)) : gb410 ≠ gb387)); clear HO_10; clear HO376; clear HO393; clear HO399; clear BK355; clear BK356; clear BK387; clear HR370; clear HB; have HO_10 := n0_; have HO376 := n1_; have HO393 := n2_; have HO399 := n3_; have BK355 := n4_; have BK356 := n5_; have BK387 := n6_; have HR370 := n7_; have HB := n8_; have BK410 := n9_; have GW410 := n10_; have GE410 := n11_; have NB355_410 := n12_; have NB410_355 := n13_; have NB356_410 := n14_; have NB410_356 := n15_; have NB387_410 := n16_; have NB410_387 := n17_; clear n0_ n1_ n2_ n3_ n4_ n5_ n6_ n7_ n8_ n9_ n10_ n11_ n12_ n13_ n14_ n15_ n16_ n17_; clear hb hbox hg; have hnb64 := NB410_355.out; have hnc64 := NB355_410.out; have hnb65 := NB410_356.out; have hnc65 := NB356_410.out; have hnb66 := NB410_387.out; have hnc66 := NB387_410.out; have hcz67_0 : w63.cell? ⟨gb410, 0, none⟩ = some (.int .i64 0) := (kc_ BK410.out 0).trans rfl; have hcz67_1 : w63.cell? ⟨gb410, 1, none⟩ = some (.int .i64 0) := (kc_ BK410.out 1).trans rfl; have hcz67_2 : w63.cell? ⟨gb410, 2, none⟩ = some (.int .i64 0) := (kc_ BK410.out 2).trans rfl; have hcz67_3 : w63.cell? ⟨gb410, 3, none⟩ = some (.slice none 0 0) := (kc_ BK410.out 3).trans rfl; have hcz67_4 : w63.cell? ⟨gb410, 4, none⟩ = some (.bool false) := (kc_ BK410.out 4).trans rfl; have hcz67_5 : w63.cell? ⟨gb410, 5, none⟩ = some (.bool false) := (kc_ BK410.out 5).trans rfl; have hcz67_6 : w63.cell? ⟨gb410, 6, none⟩ = some (.int .u64 0) := (kc_ BK410.out 6).trans rfl; have hcz67_7 : w63.cell? ⟨gb410, 7, none⟩ = some (.int .u64 0) := (kc_ BK410.out 7).trans rfl; have hcz67_8 : w63.cell? ⟨gb410, 8, none⟩ = some (.int .u64 0) := (kc_ BK410.out 8).trans rfl; have hcz67_9 : w63.cell? ⟨gb410, 9, none⟩ = some (.int .u64 0) := (kc_ BK410.out 9).trans rfl; have hcz67_10 : w63.cell? ⟨gb410, 10, none⟩ = some (.int .u64 0) := (kc_ BK410.out 10).trans rfl; have hcz67_11 : w63.cell? ⟨gb410, 11, none⟩ = some (.int .u64 0) := (kc_ BK410.out 11).trans rfl; have hcz67_12 : w63.cell? ⟨gb410, 12, none⟩ = some (.int .i64 0) := (kc_ BK410.out 12).trans rfl; have hfz67_0 := kf_ BK410.out 0; have hfz67_1 := kf_ BK410.out 1; have hfz67_2 := kf_ BK410.out 2; have hfz67_3 := kf_ BK410.out 3; have hfz67_4 := kf_ BK410.out 4; have hfz67_5 := kf_ BK410.out 5; have hfz67_6 := kf_ BK410.out 6; have hfz67_7 := kf_ BK410.out 7; have hfz67_8 := kf_ BK410.out 8; have hfz67_9 := kf_ BK410.out 9; have hfz67_10 := kf_ BK410.out 10; have hfz67_11 := kf_ BK410.out 11; have hfz67_12 := kf_ BK410.out 12; obtain ⟨Ao68, co68, eo68⟩ := Kd.R_slice HO399.out; subst eo68))
                  go_ret
                  exact ⟨by first | rfl | (simp <;> rfl) | (simp [*] <;> rfl), by repeat (first | (with_reducible first | exact HB.out | apply ba_ | apply bn_ | apply bd_ | refine below_set ?_ GE355.out | refine below_set ?_ GE356.out | refine below_set ?_ GE387.out | refine below_set ?_ GE410.out) | exact HB.out)⟩
                 ·replace c50 := Bool.eq_false_iff.mpr c50
                  subst c50
                  have H1 : (some false) = some r := by rw [if_neg (show ¬ (false = true) by decide)] at H; exact H
                  clear H
                  have H := H1
                  clear H1
                  exact absurd ((Option.some.inj H).trans hT.out) Bool.false_ne_true
                ·rw [if_neg c48] at H
                 exact absurd H (by simp)
               ·rw [if_neg c47] at H
                exact absurd H (by simp)
              ·rw [if_neg c46] at H
               have c46b0 : (t386 == 2) = false := beq_eq_false_iff_ne.mpr c46
               have c46b1 : (t386 != 2) = true := bne_iff_ne.mpr c46
               exact absurd ((Option.some.inj H).trans hT.out) Bool.false_ne_true
             ·rw [if_neg c44] at H
              exact absurd H (by simp)
            ·rw [if_neg c43] at H
             exact absurd H (by simp)
           ·replace c42 := Bool.eq_false_iff.mpr c42
            subst c42
            have H1 : (if ([] : List Int).length + t358.length < 140737488355328 then ((some (([] : List Int) ++ t358 : List Int)).bind fun y411 => (if y411.length + l3.length < 140737488355328 then ((head_From.f kj38 (y411 ++ l3)).bind fun bt417 => (if t357 = true then (some ((bt417.2.2.2.2.2.2.2.2.2.2.2.2.2 == 0) == ((l3.length : Int) == 0))) else (some false))) else (none))) else (none)) = some r := by rw [if_neg (show ¬ (false = true) by decide)] at H; exact H
            clear H
            have H := H1
            clear H1
            by_cases c69 : ([] : List Int).length + t358.length < 140737488355328
            ·rw [if_pos c69] at H
             have LMc69 := ak_ c69
             clear c69
             obtain ⟨y411, hy411⟩ : ∃ y_ : List Int, y_ = (([] : List Int) ++ t358) := ⟨_, rfl⟩
             replace H : (if y411.length + l3.length < 140737488355328 then ((head_From.f kj38 (y411 ++ l3)).bind fun bt417 => (if t357 = true then (some ((bt417.2.2.2.2.2.2.2.2.2.2.2.2.2 == 0) == ((l3.length : Int) == 0))) else (some false))) else (none)) = some r := by first | (rw [hy411]; with_reducible exact H) | (have H2_ := (Option.bind_some _ _).symm.trans H; rw [hy411]; with_reducible exact H2_) | (have H2_ := (Option.bind_some _ _).symm.trans H; with_reducible exact H2_) | with_reducible exact H | (rw [hy411]; exact H) | exact H
             have Ny411 := ak_ hy411
             clear hy411
             by_cases c70 : y411.length + l3.length < 140737488355328
             ·rw [if_pos c70] at H
              have LMc70 := ak_ c70
              clear c70
              obtain ⟨y414, hy414⟩ : ∃ y_ : List Int, y_ = (y411 ++ l3) := ⟨_, rfl⟩
              replace H : ((head_From.f kj38 y414).bind fun bt417 => (if t357 = true then (some ((bt417.2.2.2.2.2.2.2.2.2.2.2.2.2 == 0) == ((l3.length : Int) == 0))) else (some false))) = some r := by first | (rw [hy414]; with_reducible exact H) | (have H2_ := (Option.bind_some _ _).symm.trans H; rw [hy414]; with_reducible exact H2_) | (have H2_ := (Option.bind_some _ _).symm.trans H; with_reducible exact H2_) | with_reducible exact H | (rw [hy414]; exact H) | exact H
              have Ny414 := ak_ hy414
              clear hy414
              replace H := Option.bind_eq_some_iff.mp H
              obtain ⟨⟨t417, t418, t419, t420, t423, t424, t425, t426, t427, t428, t429, t430, t431, t432⟩, A710, H⟩ := H
              replace H : (if t357 = true then (some ((t432 == 0) == ((l3.length : Int) == 0))) else (some false)) = some r := H
              have A71 := ak_ A710
              clear A710
              by_cases c72 : t357 = true
              ·subst c72
               have H1 : (some ((t432 == 0) == ((l3.length : Int) == 0))) = some r := by rw [if_pos rfl] at H; exact H
               clear H
               have H := H1
               clear H1
               obtain rfl := Option.some.inj H
               obtain ⟨Ao74, co74, eo74⟩ := Kd.R_slice HO_10.out
               subst eo74
               go_wp2_with (first | ((with_reducible refine gate_builtin (b := .append) (xs := #[.const (.slice none 0 0), .tmp 79]) rfl ?_); (try (refine gate_guard (by rfl) ?_; dsimp only)); at_builtin; refine Kd.R_append_rows (Kd.int .u8) (w0 := w) w.heap.size rfl (.const (.slice none 0 0)) (.tmp 79) 35 5 (.int .u8 0) 1 rfl Try.underlying35 info5 rfl (by decide) (by omega) (.slice none 0 0) ([] : List Int) t358 _ _ _ (fun k_ => some k_ ≠ (.slice Ao74 t358.length co74 : Value).ownBlock) (fun _ => False) rfl rfl ?aO ?aR (fun _ _ h => h) (fun _ h => h.elim) ?aF ?aB ?aS ?aL ?_; (case aR => repeat (first | exact (Kd.R_reads' HO_10.out).2.2 | (with_reducible refine Kd.C_alloc ?_ _) | (with_reducible refine Kd.C_drewN ?_ _) | (with_reducible refine Kd.C_drew ?_))); (case aB => exact (by repeat (first | (with_reducible first | exact HB.out | apply ba_ | apply bn_ | apply bd_ | refine below_set ?_ GE355.out | refine below_set ?_ GE356.out) | exact HB.out))); (case aF => exact (fun k_ hk => Kd.fresh' (Kd.R_lt (by (with_reducible repeat (first | apply Kd.R_alloc | apply Kd.R_drewN | apply Kd.R_drew)); exact HO_10.out)) k_ hk)); (case aO => exact ((Kd.R_nil _ _ _ _ (fun k_ => some k_ ≠ (.slice Ao74 t358.length co74 : Value).ownBlock)))); (case aS => exact (bz_ (by repeat (first | (with_reducible first | exact HB.out | apply ba_ | apply bn_ | apply bd_ | refine below_set ?_ GE355.out | refine below_set ?_ GE356.out) | exact HB.out)))); (case aL => have := LMc69.out; omega); intro v412 w73 ho hb hg hat; rw [← Ny411.out] at ho; have n0_ := ak_ (Kd.R_after (Kd.R_apart_nil (by (with_reducible repeat (first | apply Kd.R_alloc | apply Kd.R_drewN | apply Kd.R_drew)); exact HO_10.out)) hg hat); have n1_ := ak_ (blk_grown (g := gb355) (o := .cells #[.int .i64 a0_0, .int .i64 a0_1, .int .i64 a0_2, .slice A0_3 l0_3.length c0_3, .bool a0_4, .bool a0_5, .int .u64 a0_6, .int .u64 a0_7, .int .u64 a0_8, .int .u64 a0_9, .int .u64 a0_10, .int .u64 a0_11, .int .i64 a0_12] 31 (0, 0)) (by (with_reducible repeat (first | refine kn_ ?_ _ | refine kd_ ?_ | refine ka_ ?_ _)); exact BK355.out) hg (by simp [Value.ownBlock])); have n2_ := ak_ (blk_grown (g := gb356) (o := .cells #[.int .i64 a1_0, .int .i64 a1_1, .int .i64 a1_2, .slice A1_3 l1_3.length c1_3, .bool a1_4, .bool a1_5, .int .u64 a1_6, .int .u64 a1_7, .int .u64 a1_8, .int .u64 a1_9, .int .u64 a1_10, .int .u64 a1_11, .int .i64 a1_12] 31 (0, 0)) (by (with_reducible repeat (first | refine kn_ ?_ _ | refine kd_ ?_ | refine ka_ ?_ _)); exact BK356.out) hg (by simp [Value.ownBlock])); have n3_ := ak_ (hb); have n4_ := ak_ (ho); clear HO_10; clear BK355; clear BK356; clear HB; have HO_10 := n0_; have BK355 := n1_; have BK356 := n2_; have HB := n3_; have HO413 := n4_; clear n0_ n1_ n2_ n3_ n4_; clear ho hb hg hat) | ((with_reducible refine gate_builtin (b := .append) (xs := #[.tmp 80, .tmp 81]) rfl ?_); (try (refine gate_guard (by rfl) ?_; dsimp only)); at_builtin; refine Kd.R_append_rows (Kd.int .u8) (w0 := w) w.heap.size rfl (.tmp 80) (.tmp 81) 35 5 (.int .u8 0) 1 rfl Try.underlying35 info5 rfl (by decide) (by omega) v412 y411 l3 _ _ _ (fun k_ => some k_ ≠ (.slice Ao74 t358.length co74 : Value).ownBlock) (fun _ => False) rfl rfl ?aO ?aR (fun _ _ h => h) (fun _ h => h.elim) ?aF ?aB ?aS ?aL ?_; (case aR => repeat (first | exact (Kd.C_below HR3.out HB.out) | (with_reducible refine Kd.C_alloc ?_ _) | (with_reducible refine Kd.C_drewN ?_ _) | (with_reducible refine Kd.C_drew ?_))); (case aB => exact (by repeat (first | (with_reducible first | exact HB.out | apply ba_ | apply bn_ | apply bd_ | refine below_set ?_ GE355.out | refine below_set ?_ GE356.out) | exact HB.out))); (case aF => exact (fun k_ hk => Kd.fresh' (Kd.R_lt (by (with_reducible repeat (first | apply Kd.R_alloc | apply Kd.R_drewN | apply Kd.R_drew)); exact HO_10.out)) k_ hk)); (case aO => exact (by (with_reducible repeat (first | apply Kd.R_alloc | apply Kd.R_drewN | apply Kd.R_drew)); exact HO413.out)); (case aS => exact (bz_ (by repeat (first | (with_reducible first | exact HB.out | apply ba_ | apply bn_ | apply bd_ | refine below_set ?_ GE355.out | refine below_set ?_ GE356.out) | exact HB.out)))); (case aL => have := LMc70.out; omega); intro v415 w75 ho hb hg hat; rw [← Ny414.out] at ho; have n0_ := ak_ (Kd.R_after (ok := (fun _ => True)) (by (with_reducible repeat (first | apply Kd.R_alloc | apply Kd.R_drewN | apply Kd.R_drew)); exact HO_10.out) hg hat); have n1_ := ak_ (blk_grown (g := gb355) (o := .cells #[.int .i64 a0_0, .int .i64 a0_1, .int .i64 a0_2, .slice A0_3 l0_3.length c0_3, .bool a0_4, .bool a0_5, .int .u64 a0_6, .int .u64 a0_7, .int .u64 a0_8, .int .u64 a0_9, .int .u64 a0_10, .int .u64 a0_11, .int .i64 a0_12] 31 (0, 0)) (by (with_reducible repeat (first | refine kn_ ?_ _ | refine kd_ ?_ | refine ka_ ?_ _)); exact BK355.out) hg (Kd.R_ne HO413.out BK355.out (by decide))); have n2_ := ak_ (blk_grown (g := gb356) (o := .cells #[.int .i64 a1_0, .int .i64 a1_1, .int .i64 a1_2, .slice A1_3 l1_3.length c1_3, .bool a1_4, .bool a1_5, .int .u64 a1_6, .int .u64 a1_7, .int .u64 a1_8, .int .u64 a1_9, .int .u64 a1_10, .int .u64 a1_11, .int .i64 a1_12] 31 (0, 0)) (by (with_reducible repeat (first | refine kn_ ?_ _ | refine kd_ ?_ | refine ka_ ?_ _)); exact BK356.out) hg (Kd.R_ne HO413.out BK356.out (by decide))); have n3_ := ak_ (hb); have n4_ := ak_ (ho); clear HO_10; clear BK355; clear BK356; clear HB; clear HO413; have HO_10 := n0_; have BK355 := n1_; have BK356 := n2_; have HB := n3_; have HO416 := n4_; clear n0_ n1_ n2_ n3_ n4_; clear ho hb hg hat; obtain ⟨Ao76, co76, eo76⟩ := Kd.R_slice HO416.out; subst eo76) | ((with_reducible refine gate_callee (f := 19) rfl ?_); refine goesL_ (some 83) rfl rfl Try.func19 (by kernel_rfl) rfl #[.slice Ao76 y414.length co76] rfl (by (try simp only [map_toArray, map_cons, map_nil]); first | done | rfl | (simp only [length_drop, length_take]; rfl)) ?_; (with_reducible refine (head_From.calls kj38 _ _ y414 t417 t418 t419 t420 t423 t424 t425 t426 t427 t428 t429 t430 t431 t432 _ ?side1 ?side2 A71.out).mono ?_); (case side1 => repeat (first | exact (Kd.R_reads' HO416.out).2.2 | (with_reducible refine Kd.C_alloc ?_ _) | (with_reducible refine Kd.C_drewN ?_ _) | (with_reducible refine Kd.C_drew ?_))); (case side2 => exact (Kd.R_reads' HO416.out).2.1); rintro e w77 ⟨v421, rfl, ho0, hb⟩; refine ⟨_, rfl, ?_⟩; have n0_ := ak_ (Kd.R_below (by (with_reducible repeat (first | apply Kd.R_alloc | apply Kd.R_drewN | apply Kd.R_drew)); exact HO_10.out) hb); have n1_ := ak_ (Kd.R_below (by (with_reducible repeat (first | apply Kd.R_alloc | apply Kd.R_drewN | apply Kd.R_drew)); exact HO416.out) hb); have n2_ := ak_ (Kd.R_lower ho0 (bz_ (by repeat (first | (with_reducible first | exact HB.out | apply ba_ | apply bn_ | apply bd_ | refine below_set ?_ GE355.out | refine below_set ?_ GE356.out) | exact HB.out)))); have n3_ := ak_ (kb_ (g := gb355) (o := .cells #[.int .i64 a0_0, .int .i64 a0_1, .int .i64 a0_2, .slice A0_3 l0_3.length c0_3, .bool a0_4, .bool a0_5, .int .u64 a0_6, .int .u64 a0_7, .int .u64 a0_8, .int .u64 a0_9, .int .u64 a0_10, .int .u64 a0_11, .int .i64 a0_12] 31 (0, 0)) (by (with_reducible repeat (first | refine kn_ ?_ _ | refine kd_ ?_ | refine ka_ ?_ _)); exact BK355.out) hb); have n4_ := ak_ (kb_ (g := gb356) (o := .cells #[.int .i64 a1_0, .int .i64 a1_1, .int .i64 a1_2, .slice A1_3 l1_3.length c1_3, .bool a1_4, .bool a1_5, .int .u64 a1_6, .int .u64 a1_7, .int .u64 a1_8, .int .u64 a1_9, .int .u64 a1_10, .int .u64 a1_11, .int .i64 a1_12] 31 (0, 0)) (by (with_reducible repeat (first | refine kn_ ?_ _ | refine kd_ ?_ | refine ka_ ?_ _)); exact BK356.out) hb); have n5_ := ak_ (bt_ (by repeat (first | (with_reducible first | exact HB.out | apply ba_ | apply bn_ | apply bd_ | refine below_set ?_ GE355.out | refine below_set ?_ GE356.out) | exact HB.out)) hb); clear HO_10; clear HO416; clear BK355; clear BK356; clear HB; have HO_10 := n0_; have HO416 := n1_; have HO422 := n2_; have BK355 := n3_; have BK356 := n4_; have HB := n5_; clear n0_ n1_ n2_ n3_ n4_ n5_; (try clear hb); (try clear hb2); (try clear hk); (try clear hi); (try clear ho0)) | ((with_reducible refine gate_dst (N := 16) rfl ?_); (try (refine gate_guard (by rfl) ?_; dsimp only)); refine box_event ?hg (N := 16) ?hd (cs := #[.int .i64 0, .int .i64 0, .int .i64 0, .slice none 0 0, .bool false, .bool false, .int .u64 0, .int .u64 0, .int .u64 0, .int .u64 0, .int .u64 0, .int .u64 0, .int .i64 0]) (t := 31) ?hr ?_; (case hd => rfl); (case hg => rfl); (case hr => first | (go_simp; done) | (go_simp; rfl)); intro gb433 hg w78 hbox hb; have n0_ := ak_ (Kd.R_below (by (with_reducible repeat (first | apply Kd.R_alloc | apply Kd.R_drewN | apply Kd.R_drew)); exact HO_10.out) hb); have n1_ := ak_ (Kd.R_below (by (with_reducible repeat (first | apply Kd.R_alloc | apply Kd.R_drewN | apply Kd.R_drew)); exact HO416.out) hb); have n2_ := ak_ (Kd.R_below (by (with_reducible repeat (first | apply Kd.R_alloc | apply Kd.R_drewN | apply Kd.R_drew)); exact HO422.out) hb); have n3_ := ak_ (kb_ (g := gb355) (o := .cells #[.int .i64 a0_0, .int .i64 a0_1, .int .i64 a0_2, .slice A0_3 l0_3.length c0_3, .bool a0_4, .bool a0_5, .int .u64 a0_6, .int .u64 a0_7, .int .u64 a0_8, .int .u64 a0_9, .int .u64 a0_10, .int .u64 a0_11, .int .i64 a0_12] 31 (0, 0)) (by (with_reducible repeat (first | refine kn_ ?_ _ | refine kd_ ?_ | refine ka_ ?_ _)); exact BK355.out) hb); have n4_ := ak_ (kb_ (g := gb356) (o := .cells #[.int .i64 a1_0, .int .i64 a1_1, .int .i64 a1_2, .slice A1_3 l1_3.length c1_3, .bool a1_4, .bool a1_5, .int .u64 a1_6, .int .u64 a1_7, .int .u64 a1_8, .int .u64 a1_9, .int .u64 a1_10, .int .u64 a1_11, .int .i64 a1_12] 31 (0, 0)) (by (with_reducible repeat (first | refine kn_ ?_ _ | refine kd_ ?_ | refine ka_ ?_ _)); exact BK356.out) hb); have n5_ := ak_ (bt_ (by repeat (first | (with_reducible first | exact HB.out | apply ba_ | apply bn_ | apply bd_ | refine below_set ?_ GE355.out | refine below_set ?_ GE356.out) | exact HB.out)) hb); have n6_ := ak_ (hbox); have n7_ := ak_ ((by rw [hg]; exact (bz_ (by repeat (first | (with_reducible first | exact HB.out | apply ba_ | apply bn_ | apply bd_ | refine below_set ?_ GE355.out | refine below_set ?_ GE356.out) | exact HB.out))) : w.heap.size ≤ gb433)); have n8_ := ak_ ((by rw [hg]; exact (bz_ (by repeat (first | (with_reducible first | exact HB.out | apply ba_ | apply bn_ | apply bd_ | refine below_set ?_ GE355.out | refine below_set ?_ GE356.out) | exact HB.out))) : w.heap.size ≤ gb433)); have n9_ := ak_ ((by rw [hg]; exact Nat.ne_of_lt (blk_lt (g := gb355) (o := .cells #[.int .i64 a0_0, .int .i64 a0_1, .int .i64 a0_2, .slice A0_3 l0_3.length c0_3, .bool a0_4, .bool a0_5, .int .u64 a0_6, .int .u64 a0_7, .int .u64 a0_8, .int .u64 a0_9, .int .u64 a0_10, .int .u64 a0_11, .int .i64 a0_12] 31 (0, 0)) (by (with_reducible repeat (first | refine kn_ ?_ _ | refine kd_ ?_ | refine ka_ ?_ _)); exact BK355.out)) : gb355 ≠ gb433)); have n10_ := ak_ ((by rw [hg]; exact Nat.ne_of_gt (blk_lt (g := gb355) (o := .cells #[.int .i64 a0_0, .int .i64 a0_1, .int .i64 a0_2, .slice A0_3 l0_3.length c0_3, .bool a0_4, .bool a0_5, .int .u64 a0_6, .int .u64 a0_7, .int .u64 a0_8, .int .u64 a0_9, .int .u64 a0_10, .int .u64 a0_11, .int .i64 a0_12] 31 (0, 0)) (by (with_reducible repeat (first | refine kn_ ?_ _ | refine kd_ ?_ | refine ka_ ?_ _)); exact BK355.out)) : gb433 ≠ gb355)); have n11_ := ak_ ((by rw [hg]; exact Nat.ne_of_lt (blk_lt (g := gb356) (o := .cells #[.int .i64 a1_0, .int .i64 a1_1, .int .i64 a1_2, .slice A1_3 l1_3.length c1_3, .bool a1_4, .bool a1_5, .int .u64 a1_6, .int .u64 a1_7, .int .u64 a1_8, .int .u64 a1_9, .int .u64 a1_10, .int .u64 a1_11, .int .i64 a1_12] 31 (0, 0)) (by (with_reducible repeat (first | refine kn_ ?_ _ | refine kd_ ?_ | refine ka_ ?_ _)); exact BK356.out)) : gb356 ≠ gb433)); have n12_ := ak_ ((by rw [hg]; exact Nat.ne_of_gt (blk_lt (g := gb356) (o := .cells #[.int .i64 a1_0, .int .i64 a1_1, .int .i64 a1_2, .slice A1_3 l1_3.length c1_3, .bool a1_4, .bool a1_5, .int .u64 a1_6, .int .u64 a1_7, .int .u64 a1_8, .int .u64 a1_9, .int .u64 a1_10, .int .u64 a1_11, .int .i64 a1_12] 31 (0, 0)) (by (with_reducible repeat (first | refine kn_ ?_ _ | refine kd_ ?_ | refine ka_ ?_ _)); exact BK356.out)) : gb433 ≠ gb356)); clear HO_10; clear HO416; clear HO422; clear BK355; clear BK356; clear HB; have HO_10 := n0_; have HO416 := n1_; have HO422 := n2_; have BK355 := n3_; have BK356 := n4_; have HB := n5_; have BK433 := n6_; have GW433 := n7_; have GE433 := n8_; have NB355_433 := n9_; have NB433_355 := n10_; have NB356_433 := n11_; have NB433_356 := n12_; clear n0_ n1_ n2_ n3_ n4_ n5_ n6_ n7_ n8_ n9_ n10_ n11_ n12_; clear hb hbox hg; have hnb79 := NB433_355.out; have hnc79 := NB355_433.out; have hnb80 := NB433_356.out; have hnc80 := NB356_433.out; have hcz81_0 : w78.cell? ⟨gb433, 0, none⟩ = some (.int .i64 0) := (kc_ BK433.out 0).trans rfl; have hcz81_1 : w78.cell? ⟨gb433, 1, none⟩ = some (.int .i64 0) := (kc_ BK433.out 1).trans rfl; have hcz81_2 : w78.cell? ⟨gb433, 2, none⟩ = some (.int .i64 0) := (kc_ BK433.out 2).trans rfl; have hcz81_3 : w78.cell? ⟨gb433, 3, none⟩ = some (.slice none 0 0) := (kc_ BK433.out 3).trans rfl; have hcz81_4 : w78.cell? ⟨gb433, 4, none⟩ = some (.bool false) := (kc_ BK433.out 4).trans rfl; have hcz81_5 : w78.cell? ⟨gb433, 5, none⟩ = some (.bool false) := (kc_ BK433.out 5).trans rfl; have hcz81_6 : w78.cell? ⟨gb433, 6, none⟩ = some (.int .u64 0) := (kc_ BK433.out 6).trans rfl; have hcz81_7 : w78.cell? ⟨gb433, 7, none⟩ = some (.int .u64 0) := (kc_ BK433.out 7).trans rfl; have hcz81_8 : w78.cell? ⟨gb433, 8, none⟩ = some (.int .u64 0) := (kc_ BK433.out 8).trans rfl; have hcz81_9 : w78.cell? ⟨gb433, 9, none⟩ = some (.int .u64 0) := (kc_ BK433.out 9).trans rfl; have hcz81_10 : w78.cell? ⟨gb433, 10, none⟩ = some (.int .u64 0) := (kc_ BK433.out 10).trans rfl; have hcz81_11 : w78.cell? ⟨gb433, 11, none⟩ = some (.int .u64 0) := (kc_ BK433.out 11).trans rfl; have hcz81_12 : w78.cell? ⟨gb433, 12, none⟩ = some (.int .i64 0) := (kc_ BK433.out 12).trans rfl; have hfz81_0 := kf_ BK433.out 0; have hfz81_1 := kf_ BK433.out 1; have hfz81_2 := kf_ BK433.out 2; have hfz81_3 := kf_ BK433.out 3; have hfz81_4 := kf_ BK433.out 4; have hfz81_5 := kf_ BK433.out 5; have hfz81_6 := kf_ BK433.out 6; have hfz81_7 := kf_ BK433.out 7; have hfz81_8 := kf_ BK433.out 8; have hfz81_9 := kf_ BK433.out 9; have hfz81_10 := kf_ BK433.out 10; have hfz81_11 := kf_ BK433.out 11; have hfz81_12 := kf_ BK433.out 12; obtain ⟨Ao82, co82, eo82⟩ := Kd.R_slice HO422.out; subst eo82))
               go_ret
               exact ⟨by first | rfl | (simp <;> rfl) | (simp [*] <;> rfl), by repeat (first | (with_reducible first | exact HB.out | apply ba_ | apply bn_ | apply bd_ | refine below_set ?_ GE355.out | refine below_set ?_ GE356.out | refine below_set ?_ GE433.out) | exact HB.out)⟩
              ·replace c72 := Bool.eq_false_iff.mpr c72
               subst c72
               have H1 : (some false) = some r := by rw [if_neg (show ¬ (false = true) by decide)] at H; exact H
               clear H
               have H := H1
               clear H1
               exact absurd ((Option.some.inj H).trans hT.out) Bool.false_ne_true
             ·rw [if_neg c70] at H
              exact absurd H (by simp)
            ·rw [if_neg c69] at H
             exact absurd H (by simp)
     ·rw [if_neg c23] at H
      have c23b0 : (t361 == 0) = false := beq_eq_false_iff_ne.mpr c23
      have c23b1 : (t361 != 0) = true := bne_iff_ne.mpr c23
      obtain rfl := Option.some.inj H
      have hnb83 := NB355_356.out
      have hnc83 := NB356_355.out
      have hcz84_0 : wc.cell? ⟨gb355, 0, none⟩ = some (.int .i64 a0_0) := (kc_ BK355.out 0).trans rfl
      have hcz84_1 : wc.cell? ⟨gb355, 1, none⟩ = some (.int .i64 a0_1) := (kc_ BK355.out 1).trans rfl
      have hcz84_2 : wc.cell? ⟨gb355, 2, none⟩ = some (.int .i64 a0_2) := (kc_ BK355.out 2).trans rfl
      have hcz84_3 : wc.cell? ⟨gb355, 3, none⟩ = some (.slice A0_3 l0_3.length c0_3) := (kc_ BK355.out 3).trans rfl
      have hcz84_4 : wc.cell? ⟨gb355, 4, none⟩ = some (.bool a0_4) := (kc_ BK355.out 4).trans rfl
      have hcz84_5 : wc.cell? ⟨gb355, 5, none⟩ = some (.bool a0_5) := (kc_ BK355.out 5).trans rfl
      have hcz84_6 : wc.cell? ⟨gb355, 6, none⟩ = some (.int .u64 a0_6) := (kc_ BK355.out 6).trans rfl
      have hcz84_7 : wc.cell? ⟨gb355, 7, none⟩ = some (.int .u64 a0_7) := (kc_ BK355.out 7).trans rfl
      have hcz84_8 : wc.cell? ⟨gb355, 8, none⟩ = some (.int .u64 a0_8) := (kc_ BK355.out 8).trans rfl
      have hcz84_9 : wc.cell? ⟨gb355, 9, none⟩ = some (.int .u64 a0_9) := (kc_ BK355.out 9).trans rfl
      have hcz84_10 : wc.cell? ⟨gb355, 10, none⟩ = some (.int .u64 a0_10) := (kc_ BK355.out 10).trans rfl
      have hcz84_11 : wc.cell? ⟨gb355, 11, none⟩ = some (.int .u64 a0_11) := (kc_ BK355.out 11).trans rfl
      have hcz84_12 : wc.cell? ⟨gb355, 12, none⟩ = some (.int .i64 a0_12) := (kc_ BK355.out 12).trans rfl
      have hfz84_0 := kf_ BK355.out 0
      have hfz84_1 := kf_ BK355.out 1
      have hfz84_2 := kf_ BK355.out 2
      have hfz84_3 := kf_ BK355.out 3
      have hfz84_4 := kf_ BK355.out 4
      have hfz84_5 := kf_ BK355.out 5
      have hfz84_6 := kf_ BK355.out 6
      have hfz84_7 := kf_ BK355.out 7
      have hfz84_8 := kf_ BK355.out 8
      have hfz84_9 := kf_ BK355.out 9
      have hfz84_10 := kf_ BK355.out 10
      have hfz84_11 := kf_ BK355.out 11
      have hfz84_12 := kf_ BK355.out 12
      go_wp2_with (first | ((with_reducible refine gate_callee (f := 17) rfl ?_); refine goesL_ (some 37) rfl rfl Try.func17 (by kernel_rfl) rfl #[.agg #[.int .i64 a0_0, .int .i64 a0_1, .int .i64 a0_2, .slice A0_3 l0_3.length c0_3, .bool a0_4, .bool a0_5, .int .u64 a0_6, .int .u64 a0_7, .int .u64 a0_8, .int .u64 a0_9, .int .u64 a0_10, .int .u64 a0_11, .int .i64 a0_12]] rfl (by (try simp only [map_toArray, map_cons, map_nil]); first | done | rfl | (simp only [length_drop, length_take]; rfl)) ?_; (with_reducible refine (head_Bytes.calls kj5 a0_0 a0_1 a0_2 _ _ l0_3 a0_4 a0_5 a0_6 a0_7 a0_8 a0_9 a0_10 a0_11 a0_12 t358 t361 _ ?side1 ?side2 A21.out).mono ?_); (case side1 => repeat (first | exact (Kd.C_below HR0_3.out HB.out) | (with_reducible refine Kd.C_alloc ?_ _) | (with_reducible refine Kd.C_drewN ?_ _) | (with_reducible refine Kd.C_drew ?_))); (case side2 => exact HC0_3.out); rintro e w85 ⟨v359, rfl, ho0, hb⟩; refine ⟨_, rfl, ?_⟩; have n0_ := ak_ (Kd.R_lower ho0 (bz_ (by repeat (first | (with_reducible first | exact HB.out | apply ba_ | apply bn_ | apply bd_ | refine below_set ?_ GE355.out | refine below_set ?_ GE356.out) | exact HB.out)))); have n1_ := ak_ (kb_ (g := gb355) (o := .cells #[.int .i64 a0_0, .int .i64 a0_1, .int .i64 a0_2, .slice A0_3 l0_3.length c0_3, .bool a0_4, .bool a0_5, .int .u64 a0_6, .int .u64 a0_7, .int .u64 a0_8, .int .u64 a0_9, .int .u64 a0_10, .int .u64 a0_11, .int .i64 a0_12] 31 (0, 0)) (by (with_reducible repeat (first | refine kn_ ?_ _ | refine kd_ ?_ | refine ka_ ?_ _)); exact BK355.out) hb); have n2_ := ak_ (kb_ (g := gb356) (o := .cells #[.int .i64 a1_0, .int .i64 a1_1, .int .i64 a1_2, .slice A1_3 l1_3.length c1_3, .bool a1_4, .bool a1_5, .int .u64 a1_6, .int .u64 a1_7, .int .u64 a1_8, .int .u64 a1_9, .int .u64 a1_10, .int .u64 a1_11, .int .i64 a1_12] 31 (0, 0)) (by (with_reducible repeat (first | refine kn_ ?_ _ | refine kd_ ?_ | refine ka_ ?_ _)); exact BK356.out) hb); have n3_ := ak_ (bt_ (by repeat (first | (with_reducible first | exact HB.out | apply ba_ | apply bn_ | apply bd_ | refine below_set ?_ GE355.out | refine below_set ?_ GE356.out) | exact HB.out)) hb); clear BK355; clear BK356; clear HB; have HO360 := n0_; have BK355 := n1_; have BK356 := n2_; have HB := n3_; clear n0_ n1_ n2_ n3_; (try clear hb); (try clear hb2); (try clear hk); (try clear hi); (try clear ho0); have hcz86_0 : w85.cell? ⟨gb356, 0, none⟩ = some (.int .i64 a1_0) := (kc_ BK356.out 0).trans rfl; have hcz86_1 : w85.cell? ⟨gb356, 1, none⟩ = some (.int .i64 a1_1) := (kc_ BK356.out 1).trans rfl; have hcz86_2 : w85.cell? ⟨gb356, 2, none⟩ = some (.int .i64 a1_2) := (kc_ BK356.out 2).trans rfl; have hcz86_3 : w85.cell? ⟨gb356, 3, none⟩ = some (.slice A1_3 l1_3.length c1_3) := (kc_ BK356.out 3).trans rfl; have hcz86_4 : w85.cell? ⟨gb356, 4, none⟩ = some (.bool a1_4) := (kc_ BK356.out 4).trans rfl; have hcz86_5 : w85.cell? ⟨gb356, 5, none⟩ = some (.bool a1_5) := (kc_ BK356.out 5).trans rfl; have hcz86_6 : w85.cell? ⟨gb356, 6, none⟩ = some (.int .u64 a1_6) := (kc_ BK356.out 6).trans rfl; have hcz86_7 : w85.cell? ⟨gb356, 7, none⟩ = some (.int .u64 a1_7) := (kc_ BK356.out 7).trans rfl; have hcz86_8 : w85.cell? ⟨gb356, 8, none⟩ = some (.int .u64 a1_8) := (kc_ BK356.out 8).trans rfl; have hcz86_9 : w85.cell? ⟨gb356, 9, none⟩ = some (.int .u64 a1_9) := (kc_ BK356.out 9).trans rfl; have hcz86_10 : w85.cell? ⟨gb356, 10, none⟩ = some (.int .u64 a1_10) := (kc_ BK356.out 10).trans rfl; have hcz86_11 : w85.cell? ⟨gb356, 11, none⟩ = some (.int .u64 a1_11) := (kc_ BK356.out 11).trans rfl; have hcz86_12 : w85.cell? ⟨gb356, 12, none⟩ = some (.int .i64 a1_12) := (kc_ BK356.out 12).trans rfl; have hfz86_0 := kf_ BK356.out 0; have hfz86_1 := kf_ BK356.out 1; have hfz86_2 := kf_ BK356.out 2; have hfz86_3 := kf_ BK356.out 3; have hfz86_4 := kf_ BK356.out 4; have hfz86_5 := kf_ BK356.out 5; have hfz86_6 := kf_ BK356.out 6; have hfz86_7 := kf_ BK356.out 7; have hfz86_8 := kf_ BK356.out 8; have hfz86_9 := kf_ BK356.out 9; have hfz86_10 := kf_ BK356.out 10; have hfz86_11 := kf_ BK356.out 11; have hfz86_12 := kf_ BK356.out 12) | ((with_reducible refine gate_callee (f := 17) rfl ?_); refine goesL_ (some 42) rfl rfl Try.func17 (by kernel_rfl) rfl #[.agg #[.int .i64 a1_0, .int .i64 a1_1, .int .i64 a1_2, .slice A1_3 l1_3.length c1_3, .bool a1_4, .bool a1_5, .int .u64 a1_6, .int .u64 a1_7, .int .u64 a1_8, .int .u64 a1_9, .int .u64 a1_10, .int .u64 a1_11, .int .i64 a1_12]] rfl (by (try simp only [map_toArray, map_cons, map_nil]); first | done | rfl | (simp only [length_drop, length_take]; rfl)) ?_; (with_reducible refine (head_Bytes.calls kj5 a1_0 a1_1 a1_2 _ _ l1_3 a1_4 a1_5 a1_6 a1_7 a1_8 a1_9 a1_10 a1_11 a1_12 t362 t365 _ ?side1 ?side2 A22.out).mono ?_); (case side1 => repeat (first | exact (Kd.C_below HR1_3.out HB.out) | (with_reducible refine Kd.C_alloc ?_ _) | (with_reducible refine Kd.C_drewN ?_ _) | (with_reducible refine Kd.C_drew ?_))); (case side2 => exact HC1_3.out); rintro e w87 ⟨v363, rfl, ho0, hb⟩; refine ⟨_, rfl, ?_⟩; have n0_ := ak_ (Kd.R_elder' (by (with_reducible repeat (first | apply Kd.R_alloc | apply Kd.R_drewN | apply Kd.R_drew)); exact HO360.out) (Kd.R_base ho0) hb); have n1_ := ak_ (Kd.R_lower (Kd.R_new' ho0 (Kd.R_lt (by (with_reducible repeat (first | apply Kd.R_alloc | apply Kd.R_drewN | apply Kd.R_drew)); exact HO360.out))) (bz_ (by repeat (first | (with_reducible first | exact HB.out | apply ba_ | apply bn_ | apply bd_ | refine below_set ?_ GE355.out | refine below_set ?_ GE356.out) | exact HB.out)))); have n2_ := ak_ (kb_ (g := gb355) (o := .cells #[.int .i64 a0_0, .int .i64 a0_1, .int .i64 a0_2, .slice A0_3 l0_3.length c0_3, .bool a0_4, .bool a0_5, .int .u64 a0_6, .int .u64 a0_7, .int .u64 a0_8, .int .u64 a0_9, .int .u64 a0_10, .int .u64 a0_11, .int .i64 a0_12] 31 (0, 0)) (by (with_reducible repeat (first | refine kn_ ?_ _ | refine kd_ ?_ | refine ka_ ?_ _)); exact BK355.out) hb); have n3_ := ak_ (kb_ (g := gb356) (o := .cells #[.int .i64 a1_0, .int .i64 a1_1, .int .i64 a1_2, .slice A1_3 l1_3.length c1_3, .bool a1_4, .bool a1_5, .int .u64 a1_6, .int .u64 a1_7, .int .u64 a1_8, .int .u64 a1_9, .int .u64 a1_10, .int .u64 a1_11, .int .i64 a1_12] 31 (0, 0)) (by (with_reducible repeat (first | refine kn_ ?_ _ | refine kd_ ?_ | refine ka_ ?_ _)); exact BK356.out) hb); have n4_ := ak_ (bt_ (by repeat (first | (with_reducible first | exact HB.out | apply ba_ | apply bn_ | apply bd_ | refine below_set ?_ GE355.out | refine below_set ?_ GE356.out) | exact HB.out)) hb); clear HO360; clear BK355; clear BK356; clear HB; have HO360 := n0_; have HO364 := n1_; have BK355 := n2_; have BK356 := n3_; have HB := n4_; clear n0_ n1_ n2_ n3_ n4_; (try clear hb); (try clear hb2); (try clear hk); (try clear hi); (try clear ho0)))
      go_ret
      exact ⟨by first | rfl | (simp <;> rfl) | (simp [*] <;> rfl), by repeat (first | (with_reducible first | exact HB.out | apply ba_ | apply bn_ | apply bd_ | refine below_set ?_ GE355.out | refine below_set ?_ GE356.out) | exact HB.out)⟩

end Go.Proofs.Ytoljdfgkkkpnbaa.MP
