-- written by a program of this session (wip/tools/mprint.sh) for this seat
import Derived.Test.YtmffkfakcbopcaaMPx0
import Derived.Test.YtmffkfakcbopcaaMPx2
import Derived.Test.YtmffkfakcbopcaaMPx3
import Derived.Test.YtmffkfakcbopcaaMPx5
namespace Go.Proofs.Ytmffkfakcbopcaa.MP
open Go.RowKit Go.Proofs.YtmffkfakcbopcaaW.PrintWords Go.Proofs.YtmffkfakcbopcaaW.PrintLast Go.Proofs.YtmffkfakcbopcaaW.PrintMore
open List (setIfInBounds_toArray set_cons_zero set_cons_succ map_toArray map_cons map_nil length_drop length_take)
attribute [local go_sem] max2_int min2_int max_two min_two max_three min_three max_four min_four   -- for this text's walks alone
set_option linter.unusedVariables false
set_option linter.unusedSimpArgs false

def bA6 (k n : Nat) : Array Bool := (Array.range n).map fun i => decide (i < k)
/-! ### medlarlaw12_LayerCovers: function 12 -/
mutual
def medlarlaw12_LayerCovers.j0 : Nat → Int → Int → List Int → Int → Bool → List (S34) → Bool → Option (Bool)
  | 0, _, _, _, _, _, _, _ => none
  | k + 1, x0, x1, x2, x3, x9, x10, x68 => if x68 = true then (some false) else ((leaf_Has.f k x0 x2 x3).bind fun bt392 => (medlarlaw12_LayerCovers.l0 k x0 x1 x2 x3 x9 x10 0 bt392.1 bt392.2 0 x10 (x10.length : Int) 0))
def medlarlaw12_LayerCovers.l0 : Nat → Int → Int → List Int → Int → Bool → List (S34) → Int → Bool → Int → Int → List (S34) → Int → Int → Option (Bool)
  | 0, _, _, _, _, _, _, _, _, _, _, _, _, _ => none
  | k + 1, x0, x1, x2, x3, x9, x10, x14, x15, x16, x17, x76, x77, x78 => if x78 < x77 then (if 0 ≤ x78 then (if x78 < (x76.length : Int) then ((sub_Has.f k x0 ((rd_T34 x76 x78).f0) ((rd_T34 x76 x78).f1) x3).bind fun bt396 => ((layer_May.f k x0 x1 ((rd_T34 x76 x78).f0) ((rd_T34 x76 x78).f1)).bind fun bt398 => ((sub_Leaves.f k x0 ((rd_T34 x76 x78).f0) ((rd_T34 x76 x78).f1)).bind fun bt400 => ((leaf_Many.f k x0 bt400.1).bind fun bt404 => (if bt396.2 = x16 then (if bt398.2 = 0 then (if bt398.1 = true then (if bt400.2 = 0 then (if bt404.2 = 0 then (if x78 > 0 then (if 0 ≤ (wrap64 (x78 - 1)) then (if (wrap64 (x78 - 1)) < (x10.length : Int) then ((sub_Less.f k ((rd_T34 x10 (wrap64 (x78 - 1))).f0) ((rd_T34 x10 (wrap64 (x78 - 1))).f1) ((rd_T34 x76 x78).f0) ((rd_T34 x76 x78).f1)).bind fun t407 => (medlarlaw12_LayerCovers.j2 k x0 x1 x2 x3 x9 x10 x14 x15 x16 x17 bt396.1 bt404.1 x76 x77 x78 (!t407))) else (none)) else (none)) else (medlarlaw12_LayerCovers.j2 k x0 x1 x2 x3 x9 x10 x14 x15 x16 x17 bt396.1 bt404.1 x76 x77 x78 false)) else (medlarlaw12_LayerCovers.j2 k x0 x1 x2 x3 x9 x10 x14 x15 x16 x17 bt396.1 bt404.1 x76 x77 x78 true)) else (medlarlaw12_LayerCovers.j2 k x0 x1 x2 x3 x9 x10 x14 x15 x16 x17 bt396.1 bt404.1 x76 x77 x78 true)) else (medlarlaw12_LayerCovers.j2 k x0 x1 x2 x3 x9 x10 x14 x15 x16 x17 bt396.1 bt404.1 x76 x77 x78 true)) else (medlarlaw12_LayerCovers.j2 k x0 x1 x2 x3 x9 x10 x14 x15 x16 x17 bt396.1 bt404.1 x76 x77 x78 true)) else (medlarlaw12_LayerCovers.j2 k x0 x1 x2 x3 x9 x10 x14 x15 x16 x17 bt396.1 bt404.1 x76 x77 x78 true)))))) else (none)) else (none)) else (if x16 = 0 then (if ((x14 == 1) != (!x15)) = true then (medlarlaw12_LayerCovers.j3 k x0 x2 x9 x17 true) else (medlarlaw12_LayerCovers.j3 k x0 x2 x9 x17 (decide (x14 > 1)))) else (medlarlaw12_LayerCovers.j3 k x0 x2 x9 x17 (decide (x14 > 1))))
def medlarlaw12_LayerCovers.j2 : Nat → Int → Int → List Int → Int → Bool → List (S34) → Int → Bool → Int → Int → Bool → Int → List (S34) → Int → Int → Bool → Option (Bool)
  | 0, _, _, _, _, _, _, _, _, _, _, _, _, _, _, _, _ => none
  | k + 1, x0, x1, x2, x3, x9, x10, x14, x15, x16, x17, x20, x26, x76, x77, x78, x141 => if x141 = true then (some false) else (if x20 = true then (medlarlaw12_LayerCovers.l0 k x0 x1 x2 x3 x9 x10 (wrap64 (x14 + 1)) x15 x16 (IntKind.u64.wrap (x17 + x26)) x76 x77 (wrap64 (x78 + 1))) else (medlarlaw12_LayerCovers.l0 k x0 x1 x2 x3 x9 x10 x14 x15 x16 (IntKind.u64.wrap (x17 + x26)) x76 x77 (wrap64 (x78 + 1))))
def medlarlaw12_LayerCovers.j3 : Nat → Int → List Int → Bool → Int → Bool → Option (Bool)
  | 0, _, _, _, _, _ => none
  | k + 1, x0, x2, x9, x17, x161 => if x161 = true then (some false) else ((leaf_Gaps.f k x0 x2).bind fun bt408 => ((leaf_Many.f k x0 bt408.1).bind fun bt412 => (if x9 = true then (if bt408.2 = 0 then (if bt412.2 = 0 then (some (x17 == bt412.1)) else (some false)) else (some false)) else (some false))))
end
def medlarlaw12_LayerCovers.f (k : Nat) (a0 : Int) (a1 : Int) (l2 : List Int) (a3 : Int) : Option (Bool) := (medlarlaw12_live.f k).bind fun t385 => (if (l2.length : Int) > 30 then (some t385) else ((layer_Cover.f k a0 a1 l2).bind fun bt386 => (if bt386.2 = 0 then ((layer_Bound.f k a0 a1 (l2.length : Int)).bind fun bt390 => (if bt390.2 = 0 then (medlarlaw12_LayerCovers.j0 k a0 a1 l2 a3 t385 bt386.1 (decide ((IntKind.u64.wrap ((bt386.1.length : Int))) > bt390.1))) else (medlarlaw12_LayerCovers.j0 k a0 a1 l2 a3 t385 bt386.1 true))) else (if t385 = true then (some ((bt386.1.length : Int) == 0)) else (some false)))))
theorem medlarlaw12_LayerCovers.mono_l : ∀ k, (∀ y0 y1 y2 y3 y4 y5 y6, LeO (medlarlaw12_LayerCovers.j0 k y0 y1 y2 y3 y4 y5 y6) (medlarlaw12_LayerCovers.j0 (k + 1) y0 y1 y2 y3 y4 y5 y6)) ∧ (∀ y0 y1 y2 y3 y4 y5 y6 y7 y8 y9 y10 y11 y12, LeO (medlarlaw12_LayerCovers.l0 k y0 y1 y2 y3 y4 y5 y6 y7 y8 y9 y10 y11 y12) (medlarlaw12_LayerCovers.l0 (k + 1) y0 y1 y2 y3 y4 y5 y6 y7 y8 y9 y10 y11 y12)) ∧ (∀ y0 y1 y2 y3 y4 y5 y6 y7 y8 y9 y10 y11 y12 y13 y14 y15, LeO (medlarlaw12_LayerCovers.j2 k y0 y1 y2 y3 y4 y5 y6 y7 y8 y9 y10 y11 y12 y13 y14 y15) (medlarlaw12_LayerCovers.j2 (k + 1) y0 y1 y2 y3 y4 y5 y6 y7 y8 y9 y10 y11 y12 y13 y14 y15)) ∧ (∀ y0 y1 y2 y3 y4, LeO (medlarlaw12_LayerCovers.j3 k y0 y1 y2 y3 y4) (medlarlaw12_LayerCovers.j3 (k + 1) y0 y1 y2 y3 y4))
  | 0 => ⟨fun _ _ _ _ _ _ _ r h => by simp [medlarlaw12_LayerCovers.j0] at h, fun _ _ _ _ _ _ _ _ _ _ _ _ _ r h => by simp [medlarlaw12_LayerCovers.l0] at h, fun _ _ _ _ _ _ _ _ _ _ _ _ _ _ _ _ r h => by simp [medlarlaw12_LayerCovers.j2] at h, fun _ _ _ _ _ r h => by simp [medlarlaw12_LayerCovers.j3] at h⟩
  | k + 1 => by
   obtain ⟨ih0, ih1, ih2, ih3⟩ := medlarlaw12_LayerCovers.mono_l k
   refine ⟨?_, ?_, ?_, ?_⟩
   ·intro y0 y1 y2 y3 y4 y5 y6
    unfold medlarlaw12_LayerCovers.j0
    repeat' first
    | (with_reducible exact ih0 _ _ _ _ _ _ _)
    | (with_reducible exact ih1 _ _ _ _ _ _ _ _ _ _ _ _ _)
    | (with_reducible exact ih2 _ _ _ _ _ _ _ _ _ _ _ _ _ _ _ _)
    | (with_reducible exact ih3 _ _ _ _ _)
    | (with_reducible exact layer_Bound.mono _ _ _ _)
    | (with_reducible exact layer_Cover.mono _ _ _ _)
    | (with_reducible exact layer_May.mono _ _ _ _ _)
    | (with_reducible exact leaf_Gaps.mono _ _ _)
    | (with_reducible exact leaf_Has.mono _ _ _ _)
    | (with_reducible exact leaf_Many.mono _ _ _)
    | (with_reducible exact medlarlaw12_live.mono _)
    | (with_reducible exact sub_Has.mono _ _ _ _ _)
    | (with_reducible exact sub_Leaves.mono _ _ _ _)
    | (with_reducible exact sub_Less.mono _ _ _ _ _)
    | (with_reducible exact LeO.refl _)
    | (with_reducible exact LeO.none _)
    | (with_reducible refine LeO.ite ?_ ?_)
    | (with_reducible refine LeO.bind ?_ (fun _ => ?_))
    | exact ih0 _ _ _ _ _ _ _
    | exact ih1 _ _ _ _ _ _ _ _ _ _ _ _ _
    | exact ih2 _ _ _ _ _ _ _ _ _ _ _ _ _ _ _ _
    | exact ih3 _ _ _ _ _
    | exact layer_Bound.mono _ _ _ _
    | exact layer_Cover.mono _ _ _ _
    | exact layer_May.mono _ _ _ _ _
    | exact leaf_Gaps.mono _ _ _
    | exact leaf_Has.mono _ _ _ _
    | exact leaf_Many.mono _ _ _
    | exact medlarlaw12_live.mono _
    | exact sub_Has.mono _ _ _ _ _
    | exact sub_Leaves.mono _ _ _ _
    | exact sub_Less.mono _ _ _ _ _
    | exact LeO.none _
    | refine LeO.ite ?_ ?_
    | refine LeO.bind ?_ (fun _ => ?_)
   ·intro y0 y1 y2 y3 y4 y5 y6 y7 y8 y9 y10 y11 y12
    unfold medlarlaw12_LayerCovers.l0
    repeat' first
    | (with_reducible exact ih0 _ _ _ _ _ _ _)
    | (with_reducible exact ih1 _ _ _ _ _ _ _ _ _ _ _ _ _)
    | (with_reducible exact ih2 _ _ _ _ _ _ _ _ _ _ _ _ _ _ _ _)
    | (with_reducible exact ih3 _ _ _ _ _)
    | (with_reducible exact layer_Bound.mono _ _ _ _)
    | (with_reducible exact layer_Cover.mono _ _ _ _)
    | (with_reducible exact layer_May.mono _ _ _ _ _)
    | (with_reducible exact leaf_Gaps.mono _ _ _)
    | (with_reducible exact leaf_Has.mono _ _ _ _)
    | (with_reducible exact leaf_Many.mono _ _ _)
    | (with_reducible exact medlarlaw12_live.mono _)
    | (with_reducible exact sub_Has.mono _ _ _ _ _)
    | (with_reducible exact sub_Leaves.mono _ _ _ _)
    | (with_reducible exact sub_Less.mono _ _ _ _ _)
    | (with_reducible exact LeO.refl _)
    | (with_reducible exact LeO.none _)
    | (with_reducible refine LeO.ite ?_ ?_)
    | (with_reducible refine LeO.bind ?_ (fun _ => ?_))
    | exact ih0 _ _ _ _ _ _ _
    | exact ih1 _ _ _ _ _ _ _ _ _ _ _ _ _
    | exact ih2 _ _ _ _ _ _ _ _ _ _ _ _ _ _ _ _
    | exact ih3 _ _ _ _ _
    | exact layer_Bound.mono _ _ _ _
    | exact layer_Cover.mono _ _ _ _
    | exact layer_May.mono _ _ _ _ _
    | exact leaf_Gaps.mono _ _ _
    | exact leaf_Has.mono _ _ _ _
    | exact leaf_Many.mono _ _ _
    | exact medlarlaw12_live.mono _
    | exact sub_Has.mono _ _ _ _ _
    | exact sub_Leaves.mono _ _ _ _
    | exact sub_Less.mono _ _ _ _ _
    | exact LeO.none _
    | refine LeO.ite ?_ ?_
    | refine LeO.bind ?_ (fun _ => ?_)
   ·intro y0 y1 y2 y3 y4 y5 y6 y7 y8 y9 y10 y11 y12 y13 y14 y15
    unfold medlarlaw12_LayerCovers.j2
    repeat' first
    | (with_reducible exact ih0 _ _ _ _ _ _ _)
    | (with_reducible exact ih1 _ _ _ _ _ _ _ _ _ _ _ _ _)
    | (with_reducible exact ih2 _ _ _ _ _ _ _ _ _ _ _ _ _ _ _ _)
    | (with_reducible exact ih3 _ _ _ _ _)
    | (with_reducible exact layer_Bound.mono _ _ _ _)
    | (with_reducible exact layer_Cover.mono _ _ _ _)
    | (with_reducible exact layer_May.mono _ _ _ _ _)
    | (with_reducible exact leaf_Gaps.mono _ _ _)
    | (with_reducible exact leaf_Has.mono _ _ _ _)
    | (with_reducible exact leaf_Many.mono _ _ _)
    | (with_reducible exact medlarlaw12_live.mono _)
    | (with_reducible exact sub_Has.mono _ _ _ _ _)
    | (with_reducible exact sub_Leaves.mono _ _ _ _)
    | (with_reducible exact sub_Less.mono _ _ _ _ _)
    | (with_reducible exact LeO.refl _)
    | (with_reducible exact LeO.none _)
    | (with_reducible refine LeO.ite ?_ ?_)
    | (with_reducible refine LeO.bind ?_ (fun _ => ?_))
    | exact ih0 _ _ _ _ _ _ _
    | exact ih1 _ _ _ _ _ _ _ _ _ _ _ _ _
    | exact ih2 _ _ _ _ _ _ _ _ _ _ _ _ _ _ _ _
    | exact ih3 _ _ _ _ _
    | exact layer_Bound.mono _ _ _ _
    | exact layer_Cover.mono _ _ _ _
    | exact layer_May.mono _ _ _ _ _
    | exact leaf_Gaps.mono _ _ _
    | exact leaf_Has.mono _ _ _ _
    | exact leaf_Many.mono _ _ _
    | exact medlarlaw12_live.mono _
    | exact sub_Has.mono _ _ _ _ _
    | exact sub_Leaves.mono _ _ _ _
    | exact sub_Less.mono _ _ _ _ _
    | exact LeO.none _
    | refine LeO.ite ?_ ?_
    | refine LeO.bind ?_ (fun _ => ?_)
   ·intro y0 y1 y2 y3 y4
    unfold medlarlaw12_LayerCovers.j3
    repeat' first
    | (with_reducible exact ih0 _ _ _ _ _ _ _)
    | (with_reducible exact ih1 _ _ _ _ _ _ _ _ _ _ _ _ _)
    | (with_reducible exact ih2 _ _ _ _ _ _ _ _ _ _ _ _ _ _ _ _)
    | (with_reducible exact ih3 _ _ _ _ _)
    | (with_reducible exact layer_Bound.mono _ _ _ _)
    | (with_reducible exact layer_Cover.mono _ _ _ _)
    | (with_reducible exact layer_May.mono _ _ _ _ _)
    | (with_reducible exact leaf_Gaps.mono _ _ _)
    | (with_reducible exact leaf_Has.mono _ _ _ _)
    | (with_reducible exact leaf_Many.mono _ _ _)
    | (with_reducible exact medlarlaw12_live.mono _)
    | (with_reducible exact sub_Has.mono _ _ _ _ _)
    | (with_reducible exact sub_Leaves.mono _ _ _ _)
    | (with_reducible exact sub_Less.mono _ _ _ _ _)
    | (with_reducible exact LeO.refl _)
    | (with_reducible exact LeO.none _)
    | (with_reducible refine LeO.ite ?_ ?_)
    | (with_reducible refine LeO.bind ?_ (fun _ => ?_))
    | exact ih0 _ _ _ _ _ _ _
    | exact ih1 _ _ _ _ _ _ _ _ _ _ _ _ _
    | exact ih2 _ _ _ _ _ _ _ _ _ _ _ _ _ _ _ _
    | exact ih3 _ _ _ _ _
    | exact layer_Bound.mono _ _ _ _
    | exact layer_Cover.mono _ _ _ _
    | exact layer_May.mono _ _ _ _ _
    | exact leaf_Gaps.mono _ _ _
    | exact leaf_Has.mono _ _ _ _
    | exact leaf_Many.mono _ _ _
    | exact medlarlaw12_live.mono _
    | exact sub_Has.mono _ _ _ _ _
    | exact sub_Leaves.mono _ _ _ _
    | exact sub_Less.mono _ _ _ _ _
    | exact LeO.none _
    | refine LeO.ite ?_ ?_
    | refine LeO.bind ?_ (fun _ => ?_)
theorem medlarlaw12_LayerCovers.mono : ∀ a0 a1 a2 a3 k, LeO (medlarlaw12_LayerCovers.f k a0 a1 a2 a3) (medlarlaw12_LayerCovers.f (k + 1) a0 a1 a2 a3) := by
  intro a0 a1 a2 a3 k
  obtain ⟨ih0, ih1, ih2, ih3⟩ := medlarlaw12_LayerCovers.mono_l k
  unfold medlarlaw12_LayerCovers.f
  repeat' first
    | (with_reducible exact ih0 _ _ _ _ _ _ _)
    | (with_reducible exact ih1 _ _ _ _ _ _ _ _ _ _ _ _ _)
    | (with_reducible exact ih2 _ _ _ _ _ _ _ _ _ _ _ _ _ _ _ _)
    | (with_reducible exact ih3 _ _ _ _ _)
    | (with_reducible exact layer_Bound.mono _ _ _ _)
    | (with_reducible exact layer_Cover.mono _ _ _ _)
    | (with_reducible exact layer_May.mono _ _ _ _ _)
    | (with_reducible exact leaf_Gaps.mono _ _ _)
    | (with_reducible exact leaf_Has.mono _ _ _ _)
    | (with_reducible exact leaf_Many.mono _ _ _)
    | (with_reducible exact medlarlaw12_live.mono _)
    | (with_reducible exact sub_Has.mono _ _ _ _ _)
    | (with_reducible exact sub_Leaves.mono _ _ _ _)
    | (with_reducible exact sub_Less.mono _ _ _ _ _)
    | (with_reducible exact LeO.refl _)
    | (with_reducible exact LeO.none _)
    | (with_reducible refine LeO.ite ?_ ?_)
    | (with_reducible refine LeO.bind ?_ (fun _ => ?_))
    | exact ih0 _ _ _ _ _ _ _
    | exact ih1 _ _ _ _ _ _ _ _ _ _ _ _ _
    | exact ih2 _ _ _ _ _ _ _ _ _ _ _ _ _ _ _ _
    | exact ih3 _ _ _ _ _
    | exact layer_Bound.mono _ _ _ _
    | exact layer_Cover.mono _ _ _ _
    | exact layer_May.mono _ _ _ _ _
    | exact leaf_Gaps.mono _ _ _
    | exact leaf_Has.mono _ _ _ _
    | exact leaf_Many.mono _ _ _
    | exact medlarlaw12_live.mono _
    | exact sub_Has.mono _ _ _ _ _
    | exact sub_Leaves.mono _ _ _ _
    | exact sub_Less.mono _ _ _ _ _
    | exact LeO.none _
    | refine LeO.ite ?_ ?_
    | refine LeO.bind ?_ (fun _ => ?_)
def medlarlaw12_LayerCovers.T20 : Bool × List (List Nat × List Nat) := (true, [([], []), ([], []), ([0, 1], [0, 1]), ([2], [2]), ([3], [3]), ([4, 3], [3, 4]), ([3, 5], [3, 5]), ([6, 3], [6]), ([7], [7]), ([8, 7], [7, 8]), ([7, 9], [7, 9]), ([10, 7], [10]), ([11], [11]), ([12, 11], [11, 12]), ([11, 13], [11, 13]), ([14, 11], [14]), ([15], [15]), ([16, 15], [15, 16]), ([15, 17], [15, 17]), ([18, 15], [18]), ([19], [19]), ([20, 19], [19, 20]), ([21, 19, 19], [19, 21]), ([22], [22]), ([22], [22]), ([24, 22], [22, 24]), ([23, 25, 22], [22, 23, 25]), ([26, 22], [22, 26]), ([22], [22]), ([27, 28, 22, 22], [22, 27, 28]), ([29, 22], [22, 29]), ([22, 30, 19], [19, 22, 30]), ([19, 31], [19, 31])])
def medlarlaw12_LayerCovers.B20 : List Nat := [0, 0, 3, 7, 15, 31, 63, 127, 255, 511, 1023, 2047, 4095, 8191, 16383, 32767, 65535, 131071, 262143, 524287, 1048575, 2097151, 4194303, 8388607, 8388607, 25165823, 67108863, 134217727, 8388607, 536870911, 1073741823, 2147483647, 4294967295]
theorem medlarlaw12_LayerCovers.tab20 : rtab .any (opsOf Try.f12 20) = medlarlaw12_LayerCovers.T20 := by kernel_rfl
theorem medlarlaw12_LayerCovers.bits20 : waitsOk medlarlaw12_LayerCovers.T20.2 medlarlaw12_LayerCovers.B20 = true := by kernel_rfl
set_option maxHeartbeats 8000000 in
set_option maxRecDepth 100000 in
theorem medlarlaw12_LayerCovers.calls (k : Nat) (a0 : Int) (a1 : Int) (A2 : Option Addr) (c2 : Nat) (l2 : List Int) (a3 : Int) (r : Bool) (w : World) (hr2 : Kd.C (Kd.int .u64) w A2 l2.length l2) (hc2 : l2.length ≤ c2) (h : medlarlaw12_LayerCovers.f k a0 a1 l2 a3 = some r) (hT : Aside0 (r = true)) :
   Calls Try.prog 12 #[.int .i64 a0, .int .i64 a1, .slice A2 l2.length c2, .int .u64 a3] w fun e w' => e = .returned (.bool r) ∧ Below w.heap.size w w' := by
  have hu34 := Try.underlying34
  have HR2 := ak_ hr2
  have HC2 := ak_ hc2
  clear hr2 hc2
  have HB := ak_ (Below.refl w.heap.size w)
  have H : ((medlarlaw12_live.f k).bind fun t385 => (if (l2.length : Int) > 30 then (some t385) else ((layer_Cover.f k a0 a1 l2).bind fun bt386 => (if bt386.2 = 0 then ((layer_Bound.f k a0 a1 (l2.length : Int)).bind fun bt390 => (if bt390.2 = 0 then (medlarlaw12_LayerCovers.j0 k a0 a1 l2 a3 t385 bt386.1 (decide ((IntKind.u64.wrap ((bt386.1.length : Int))) > bt390.1))) else (medlarlaw12_LayerCovers.j0 k a0 a1 l2 a3 t385 bt386.1 true))) else (if t385 = true then (some ((bt386.1.length : Int) == 0)) else (some false)))))) = some r := h
  clear h
  replace H := Option.bind_eq_some_iff.mp H
  obtain ⟨t385, A50, H⟩ := H
  replace H : (if (l2.length : Int) > 30 then (some t385) else ((layer_Cover.f k a0 a1 l2).bind fun bt386 => (if bt386.2 = 0 then ((layer_Bound.f k a0 a1 (l2.length : Int)).bind fun bt390 => (if bt390.2 = 0 then (medlarlaw12_LayerCovers.j0 k a0 a1 l2 a3 t385 bt386.1 (decide ((IntKind.u64.wrap ((bt386.1.length : Int))) > bt390.1))) else (medlarlaw12_LayerCovers.j0 k a0 a1 l2 a3 t385 bt386.1 true))) else (if t385 = true then (some ((bt386.1.length : Int) == 0)) else (some false))))) = some r := H
  have A5 := ak_ A50
  clear A50
  by_cases c6 : (l2.length : Int) > 30
  ·rw [if_pos c6] at H
   have c6b0 : decide (30 < (l2.length : Int)) = true := decide_eq_true c6
   have c6b1 : decide (30 < l2.length) = true := decide_eq_true (by omega)
   clear c6
   obtain rfl := Option.some.inj H
   go_enter Try.func12, Try.ntmps12
   go_wp2_with (first | ((with_reducible refine gate_callee (f := 30) rfl ?_); refine goesL_ (some 32) rfl rfl Try.func30 (by kernel_rfl) rfl #[] rfl (by (try simp only [map_toArray, map_cons, map_nil]); first | done | rfl | (simp only [length_drop, length_take]; rfl)) ?_; (with_reducible refine (medlarlaw12_live.calls k  t385 _ A5.out).mono ?_); rintro e w7 ⟨rfl, hb⟩; refine ⟨_, rfl, ?_⟩; have n0_ := ak_ (below_step (by repeat (first | (with_reducible first | exact HB.out | apply ba_ | apply bn_ | apply bd_) | exact HB.out)) hb); clear HB; have HB := n0_; clear n0_; (try clear hb); (try clear hb2); (try clear hk); (try clear hi)))
   go_ret
   exact ⟨by first | rfl | (simp <;> rfl) | (simp [*] <;> rfl), by repeat (first | (with_reducible first | exact HB.out | apply ba_ | apply bn_ | apply bd_) | exact HB.out)⟩
  ·rw [if_neg c6] at H
   have c6b0 : decide (30 < (l2.length : Int)) = false := decide_eq_false c6
   have c6b1 : decide (30 < l2.length) = false := decide_eq_false (by omega)
   clear c6
   replace H := Option.bind_eq_some_iff.mp H
   obtain ⟨⟨t386, t387⟩, A80, H⟩ := H
   replace H : (if t387 = 0 then ((layer_Bound.f k a0 a1 (l2.length : Int)).bind fun bt390 => (if bt390.2 = 0 then (medlarlaw12_LayerCovers.j0 k a0 a1 l2 a3 t385 t386 (decide ((IntKind.u64.wrap ((t386.length : Int))) > bt390.1))) else (medlarlaw12_LayerCovers.j0 k a0 a1 l2 a3 t385 t386 true))) else (if t385 = true then (some ((t386.length : Int) == 0)) else (some false))) = some r := H
   have A8 := ak_ A80
   clear A80
   by_cases c9 : t387 = 0
   ·rw [if_pos c9] at H
    have c9b0 : (t387 == 0) = true := beq_iff_eq.mpr c9
    have c9b1 : (t387 != 0) = false := bne_eq_false_iff_eq.mpr c9
    clear c9
    replace H := Option.bind_eq_some_iff.mp H
    obtain ⟨⟨t390, t391⟩, A100, H⟩ := H
    replace H : (if t391 = 0 then (medlarlaw12_LayerCovers.j0 k a0 a1 l2 a3 t385 t386 (decide ((IntKind.u64.wrap ((t386.length : Int))) > t390))) else (medlarlaw12_LayerCovers.j0 k a0 a1 l2 a3 t385 t386 true)) = some r := H
    have A10 := ak_ A100
    clear A100
    have HC11 := ak_ H
    clear H
    go_enter Try.func12, Try.ntmps12
    go_upto_region 8 with (first | ((with_reducible refine gate_callee (f := 30) rfl ?_); refine goesL_ (some 32) rfl rfl Try.func30 (by kernel_rfl) rfl #[] rfl (by (try simp only [map_toArray, map_cons, map_nil]); first | done | rfl | (simp only [length_drop, length_take]; rfl)) ?_; (with_reducible refine (medlarlaw12_live.calls k  t385 _ A5.out).mono ?_); rintro e w12 ⟨rfl, hb⟩; refine ⟨_, rfl, ?_⟩; have n0_ := ak_ (below_step (by repeat (first | (with_reducible first | exact HB.out | apply ba_ | apply bn_ | apply bd_) | exact HB.out)) hb); clear HB; have HB := n0_; clear n0_; (try clear hb); (try clear hb2); (try clear hk); (try clear hi)) | ((with_reducible refine gate_callee (f := 35) rfl ?_); refine goesL_ (some 41) rfl rfl Try.func35 (by kernel_rfl) rfl #[.int .i64 a0, .int .i64 a1, .slice A2 l2.length c2] rfl (by (try simp only [map_toArray, map_cons, map_nil]); first | done | rfl | (simp only [length_drop, length_take]; rfl)) ?_; (with_reducible refine (layer_Cover.calls k a0 a1 _ _ l2 t386 t387 _ ?side1 ?side2 A8.out).mono ?_); (case side1 => repeat (first | exact (Kd.C_below HR2.out HB.out) | (with_reducible refine Kd.C_alloc ?_ _) | (with_reducible refine Kd.C_drewN ?_ _) | (with_reducible refine Kd.C_drew ?_))); (case side2 => exact HC2.out); rintro e w13 ⟨v388, rfl, ho0, hb⟩; refine ⟨_, rfl, ?_⟩; have n0_ := ak_ (Kd.R_lower ho0 (below_size (by repeat (first | (with_reducible first | exact HB.out | apply ba_ | apply bn_ | apply bd_) | exact HB.out)))); have n1_ := ak_ (below_step (by repeat (first | (with_reducible first | exact HB.out | apply ba_ | apply bn_ | apply bd_) | exact HB.out)) hb); clear HB; have HO389 := n0_; have HB := n1_; clear n0_ n1_; (try clear hb); (try clear hb2); (try clear hk); (try clear hi); (try clear ho0)) | ((with_reducible refine gate_callee (f := 34) rfl ?_); refine goesL_ (some 57) rfl rfl Try.func34 (by kernel_rfl) rfl #[.int .i64 a0, .int .i64 a1, .int .i64 (l2.length : Int)] rfl (by (try simp only [map_toArray, map_cons, map_nil]); first | done | rfl | (simp only [length_drop, length_take]; rfl)) ?_; (with_reducible refine (layer_Bound.calls k a0 a1 (l2.length : Int) t390 t391 _ A10.out).mono ?_); rintro e w14 ⟨rfl, hb⟩; refine ⟨_, rfl, ?_⟩; have n0_ := ak_ (Kd.R_below (by (with_reducible repeat (first | apply Kd.R_alloc | apply Kd.R_drewN | apply Kd.R_drew)); exact HO389.out) hb); have n1_ := ak_ (below_step (by repeat (first | (with_reducible first | exact HB.out | apply ba_ | apply bn_ | apply bd_) | exact HB.out)) hb); clear HO389; clear HB; have HO389 := n0_; have HB := n1_; clear n0_ n1_; (try clear hb); (try clear hb2); (try clear hk); (try clear hi)))
    (try simp only [Act.put, setIfInBounds_toArray, set_cons_zero, set_cons_succ])
    go_cut [68] (fun v68 wc => ∃ (kq : Nat) (x68_10 : Bool), v68 = .bool x68_10 ∧ Aside0 (medlarlaw12_LayerCovers.j0 kq a0 a1 l2 a3 t385 t386 x68_10 = some r) ∧ Aside0 (kq ≤ k) ∧ Aside0 (Kd.R k34 34 wc w.heap.size (fun _ => True) v388 t386) ∧ Aside0 (Below w.heap.size w wc))
    case first =>
     have H := HC11.out
     clear HC11
     by_cases c15 : t391 = 0
     ·rw [if_pos c15] at H
      have c15b0 : (t391 == 0) = true := beq_iff_eq.mpr c15
      have c15b1 : (t391 != 0) = false := bne_eq_false_iff_eq.mpr c15
      clear c15
      (first | rw [c15b0] | (simp only [i64_w, i32_w]; rw [c15b0]) | skip)
      have H' := ak_ H
      clear H
      obtain ⟨Ao16, co16, eo16⟩ := Kd.R_slice HO389.out
      subst eo16
      go_wp2
      go_meet
      case rel => exact ⟨_, (decide ((IntKind.u64.wrap ((t386.length : Int))) > t390)), (by first | rfl | (simp; done) | (simp [*]; done)), H', ⟨by first | omega | exact Nat.le_refl _⟩, ⟨by (with_reducible repeat (first | apply Kd.R_alloc | apply Kd.R_drewN | apply Kd.R_drew)); exact HO389.out⟩, ⟨by repeat (first | (with_reducible first | exact HB.out | apply ba_ | apply bn_ | apply bd_) | exact HB.out)⟩⟩
     ·rw [if_neg c15] at H
      have c15b0 : (t391 == 0) = false := beq_eq_false_iff_ne.mpr c15
      have c15b1 : (t391 != 0) = true := bne_iff_ne.mpr c15
      (first | rw [c15b0] | (simp only [i64_w, i32_w]; rw [c15b0]) | skip)
      have H' := ak_ H
      clear H
      go_wp2
      go_meet
      case rel => exact ⟨_, (true), (by first | rfl | (simp; done) | (simp [*]; done)), H', ⟨by first | omega | exact Nat.le_refl _⟩, ⟨by (with_reducible repeat (first | apply Kd.R_alloc | apply Kd.R_drewN | apply Kd.R_drew)); exact HO389.out⟩, ⟨by repeat (first | (with_reducible first | exact HB.out | apply ba_ | apply bn_ | apply bd_) | exact HB.out)⟩⟩
    case rest =>
     clear HC11
     try clear c1
     try clear c2
     try clear p2
     try clear c3
     try clear c6
     try clear c6b0
     try clear c6b1
     try clear c9
     try clear c9b0
     try clear c9b1
     try clear c12
     try clear c15
     try clear c15b0
     try clear c15b1
     obtain ⟨kq, x68_10, rfl, HA, HJ10, HO_10, HB⟩ := hcut
     cases kq with
     | zero => exact absurd HA.out (by simp [medlarlaw12_LayerCovers.j0])
     | succ kj10 =>
      have H := HA.out
      clear HA
      simp only [medlarlaw12_LayerCovers.j0] at H
      by_cases c17 : x68_10 = true
      ·subst c17
       have H1 : (some false) = some r := by rw [if_pos rfl] at H; exact H
       clear H
       have H := H1
       clear H1
       exact absurd ((Option.some.inj H).trans hT.out) Bool.false_ne_true
      ·replace c17 := Bool.eq_false_iff.mpr c17
       subst c17
       have H1 : ((leaf_Has.f kj10 a0 l2 a3).bind fun bt392 => (medlarlaw12_LayerCovers.l0 kj10 a0 a1 l2 a3 t385 t386 0 bt392.1 bt392.2 0 t386 (t386.length : Int) 0)) = some r := by rw [if_neg (show ¬ (false = true) by decide)] at H; exact H
       clear H
       have H := H1
       clear H1
       replace H := Option.bind_eq_some_iff.mp H
       obtain ⟨⟨t392, t393⟩, A180, H⟩ := H
       replace H : (medlarlaw12_LayerCovers.l0 kj10 a0 a1 l2 a3 t385 t386 0 t392 t393 0 t386 (t386.length : Int) 0) = some r := H
       have A18 := ak_ A180
       clear A180
       have H' := ak_ H
       clear H
       go_wp2_with (first | ((with_reducible refine gate_callee (f := 23) rfl ?_); refine goesL_ (some 73) rfl rfl Try.func23 (by kernel_rfl) rfl #[.int .i64 a0, .slice A2 l2.length c2, .int .u64 a3] rfl (by (try simp only [map_toArray, map_cons, map_nil]); first | done | rfl | (simp only [length_drop, length_take]; rfl)) ?_; (with_reducible refine (leaf_Has.calls kj10 a0 _ _ l2 a3 t392 t393 _ ?side1 ?side2 A18.out).mono ?_); (case side1 => repeat (first | exact (Kd.C_below HR2.out HB.out) | (with_reducible refine Kd.C_alloc ?_ _) | (with_reducible refine Kd.C_drewN ?_ _) | (with_reducible refine Kd.C_drew ?_))); (case side2 => exact HC2.out); rintro e w' ⟨rfl, ⟨nd, rfl⟩⟩; refine ⟨_, rfl, ?_⟩; obtain ⟨Ao19, co19, eo19⟩ := Kd.R_slice HO_10.out; subst eo19))
       go_loopg [14, 17, 78] kj10 (fun kq v14 v17 v78 w' => ∃ (x14_2 : Int) (x17_2 : Int) (x78_2 : Int), v14 = .int .i64 x14_2 ∧ v17 = .int .u64 x17_2 ∧ v78 = .int .i64 x78_2 ∧ Aside0 (medlarlaw12_LayerCovers.l0 kq a0 a1 l2 a3 t385 t386 x14_2 t392 t393 x17_2 t386 (t386.length : Int) x78_2 = some r) ∧ Aside0 (kq ≤ kj10) ∧ Aside0 (Kd.R k34 34 w' w.heap.size (fun _ => True) (.slice Ao19 t386.length co19) t386) ∧ Aside0 (Kd.R k34 34 w' w.heap.size (fun _ => True) (.slice Ao19 t386.length co19) t386) ∧ Aside0 (Below w.heap.size w w'))
       case atStart => exact ⟨(0), (0), (0), (by first | rfl | (simp; done) | (simp [*]; done)), (by first | rfl | (simp; done) | (simp [*]; done)), (by first | rfl | (simp; done) | (simp [*]; done)), H', ⟨Nat.le_refl _⟩, ⟨by (with_reducible repeat (first | apply Kd.R_alloc | apply Kd.R_drewN | apply Kd.R_drew)); exact HO_10.out⟩, ⟨by (with_reducible repeat (first | apply Kd.R_alloc | apply Kd.R_drewN | apply Kd.R_drew)); exact HO_10.out⟩, ⟨by repeat (first | (with_reducible first | exact HB.out | apply ba_ | apply bn_ | apply bd_) | exact HB.out)⟩⟩
       case round =>
        clear H'
        try clear c1
        try clear c2
        try clear p2
        try clear c3
        try clear c6
        try clear c6b0
        try clear c6b1
        try clear c9
        try clear c9b0
        try clear c9b1
        try clear c12
        try clear c15
        try clear c15b0
        try clear c15b1
        try clear c17
        try clear p2
        obtain ⟨x14_2, x17_2, x78_2, rfl, rfl, rfl, HA, HK2, HO_10, HO_76, HB⟩ := hrel
        cases gk with
        | zero => exact absurd HA.out (by simp [medlarlaw12_LayerCovers.l0])
        | succ k2 =>
         have H := HA.out
         clear HA
         simp only [medlarlaw12_LayerCovers.l0] at H
         by_cases c20 : x78_2 < (t386.length : Int)
         ·rw [if_pos c20] at H
          have c20b0 : decide (x78_2 < (t386.length : Int)) = true := decide_eq_true c20
          clear c20
          by_cases c21 : 0 ≤ x78_2
          ·rw [if_pos c21] at H
           have c21b0 : decide (0 ≤ x78_2) = true := decide_eq_true c21
           clear c21
           by_cases c22 : x78_2 < (t386.length : Int)
           ·rw [if_pos c22] at H
            have c22b0 : decide (x78_2 < (t386.length : Int)) = true := decide_eq_true c22
            clear c22
            replace H := Option.bind_eq_some_iff.mp H
            obtain ⟨⟨t396, t397⟩, A230, H⟩ := H
            replace H : ((layer_May.f k2 a0 a1 ((rd_T34 t386 x78_2).f0) ((rd_T34 t386 x78_2).f1)).bind fun bt398 => ((sub_Leaves.f k2 a0 ((rd_T34 t386 x78_2).f0) ((rd_T34 t386 x78_2).f1)).bind fun bt400 => ((leaf_Many.f k2 a0 bt400.1).bind fun bt404 => (if t397 = t393 then (if bt398.2 = 0 then (if bt398.1 = true then (if bt400.2 = 0 then (if bt404.2 = 0 then (if x78_2 > 0 then (if 0 ≤ (wrap64 (x78_2 - 1)) then (if (wrap64 (x78_2 - 1)) < (t386.length : Int) then ((sub_Less.f k2 ((rd_T34 t386 (wrap64 (x78_2 - 1))).f0) ((rd_T34 t386 (wrap64 (x78_2 - 1))).f1) ((rd_T34 t386 x78_2).f0) ((rd_T34 t386 x78_2).f1)).bind fun t407 => (medlarlaw12_LayerCovers.j2 k2 a0 a1 l2 a3 t385 t386 x14_2 t392 t393 x17_2 t396 bt404.1 t386 (t386.length : Int) x78_2 (!t407))) else (none)) else (none)) else (medlarlaw12_LayerCovers.j2 k2 a0 a1 l2 a3 t385 t386 x14_2 t392 t393 x17_2 t396 bt404.1 t386 (t386.length : Int) x78_2 false)) else (medlarlaw12_LayerCovers.j2 k2 a0 a1 l2 a3 t385 t386 x14_2 t392 t393 x17_2 t396 bt404.1 t386 (t386.length : Int) x78_2 true)) else (medlarlaw12_LayerCovers.j2 k2 a0 a1 l2 a3 t385 t386 x14_2 t392 t393 x17_2 t396 bt404.1 t386 (t386.length : Int) x78_2 true)) else (medlarlaw12_LayerCovers.j2 k2 a0 a1 l2 a3 t385 t386 x14_2 t392 t393 x17_2 t396 bt404.1 t386 (t386.length : Int) x78_2 true)) else (medlarlaw12_LayerCovers.j2 k2 a0 a1 l2 a3 t385 t386 x14_2 t392 t393 x17_2 t396 bt404.1 t386 (t386.length : Int) x78_2 true)) else (medlarlaw12_LayerCovers.j2 k2 a0 a1 l2 a3 t385 t386 x14_2 t392 t393 x17_2 t396 bt404.1 t386 (t386.length : Int) x78_2 true))))) = some r := H
            have A23 := ak_ A230
            clear A230
            replace H := Option.bind_eq_some_iff.mp H
            obtain ⟨⟨t398, t399⟩, A240, H⟩ := H
            replace H : ((sub_Leaves.f k2 a0 ((rd_T34 t386 x78_2).f0) ((rd_T34 t386 x78_2).f1)).bind fun bt400 => ((leaf_Many.f k2 a0 bt400.1).bind fun bt404 => (if t397 = t393 then (if t399 = 0 then (if t398 = true then (if bt400.2 = 0 then (if bt404.2 = 0 then (if x78_2 > 0 then (if 0 ≤ (wrap64 (x78_2 - 1)) then (if (wrap64 (x78_2 - 1)) < (t386.length : Int) then ((sub_Less.f k2 ((rd_T34 t386 (wrap64 (x78_2 - 1))).f0) ((rd_T34 t386 (wrap64 (x78_2 - 1))).f1) ((rd_T34 t386 x78_2).f0) ((rd_T34 t386 x78_2).f1)).bind fun t407 => (medlarlaw12_LayerCovers.j2 k2 a0 a1 l2 a3 t385 t386 x14_2 t392 t393 x17_2 t396 bt404.1 t386 (t386.length : Int) x78_2 (!t407))) else (none)) else (none)) else (medlarlaw12_LayerCovers.j2 k2 a0 a1 l2 a3 t385 t386 x14_2 t392 t393 x17_2 t396 bt404.1 t386 (t386.length : Int) x78_2 false)) else (medlarlaw12_LayerCovers.j2 k2 a0 a1 l2 a3 t385 t386 x14_2 t392 t393 x17_2 t396 bt404.1 t386 (t386.length : Int) x78_2 true)) else (medlarlaw12_LayerCovers.j2 k2 a0 a1 l2 a3 t385 t386 x14_2 t392 t393 x17_2 t396 bt404.1 t386 (t386.length : Int) x78_2 true)) else (medlarlaw12_LayerCovers.j2 k2 a0 a1 l2 a3 t385 t386 x14_2 t392 t393 x17_2 t396 bt404.1 t386 (t386.length : Int) x78_2 true)) else (medlarlaw12_LayerCovers.j2 k2 a0 a1 l2 a3 t385 t386 x14_2 t392 t393 x17_2 t396 bt404.1 t386 (t386.length : Int) x78_2 true)) else (medlarlaw12_LayerCovers.j2 k2 a0 a1 l2 a3 t385 t386 x14_2 t392 t393 x17_2 t396 bt404.1 t386 (t386.length : Int) x78_2 true)))) = some r := H
            have A24 := ak_ A240
            clear A240
            replace H := Option.bind_eq_some_iff.mp H
            obtain ⟨⟨t400, t403⟩, A250, H⟩ := H
            replace H : ((leaf_Many.f k2 a0 t400).bind fun bt404 => (if t397 = t393 then (if t399 = 0 then (if t398 = true then (if t403 = 0 then (if bt404.2 = 0 then (if x78_2 > 0 then (if 0 ≤ (wrap64 (x78_2 - 1)) then (if (wrap64 (x78_2 - 1)) < (t386.length : Int) then ((sub_Less.f k2 ((rd_T34 t386 (wrap64 (x78_2 - 1))).f0) ((rd_T34 t386 (wrap64 (x78_2 - 1))).f1) ((rd_T34 t386 x78_2).f0) ((rd_T34 t386 x78_2).f1)).bind fun t407 => (medlarlaw12_LayerCovers.j2 k2 a0 a1 l2 a3 t385 t386 x14_2 t392 t393 x17_2 t396 bt404.1 t386 (t386.length : Int) x78_2 (!t407))) else (none)) else (none)) else (medlarlaw12_LayerCovers.j2 k2 a0 a1 l2 a3 t385 t386 x14_2 t392 t393 x17_2 t396 bt404.1 t386 (t386.length : Int) x78_2 false)) else (medlarlaw12_LayerCovers.j2 k2 a0 a1 l2 a3 t385 t386 x14_2 t392 t393 x17_2 t396 bt404.1 t386 (t386.length : Int) x78_2 true)) else (medlarlaw12_LayerCovers.j2 k2 a0 a1 l2 a3 t385 t386 x14_2 t392 t393 x17_2 t396 bt404.1 t386 (t386.length : Int) x78_2 true)) else (medlarlaw12_LayerCovers.j2 k2 a0 a1 l2 a3 t385 t386 x14_2 t392 t393 x17_2 t396 bt404.1 t386 (t386.length : Int) x78_2 true)) else (medlarlaw12_LayerCovers.j2 k2 a0 a1 l2 a3 t385 t386 x14_2 t392 t393 x17_2 t396 bt404.1 t386 (t386.length : Int) x78_2 true)) else (medlarlaw12_LayerCovers.j2 k2 a0 a1 l2 a3 t385 t386 x14_2 t392 t393 x17_2 t396 bt404.1 t386 (t386.length : Int) x78_2 true))) = some r := H
            have A25 := ak_ A250
            clear A250
            replace H := Option.bind_eq_some_iff.mp H
            obtain ⟨⟨t404, t405⟩, A260, H⟩ := H
            replace H : (if t397 = t393 then (if t399 = 0 then (if t398 = true then (if t403 = 0 then (if t405 = 0 then (if x78_2 > 0 then (if 0 ≤ (wrap64 (x78_2 - 1)) then (if (wrap64 (x78_2 - 1)) < (t386.length : Int) then ((sub_Less.f k2 ((rd_T34 t386 (wrap64 (x78_2 - 1))).f0) ((rd_T34 t386 (wrap64 (x78_2 - 1))).f1) ((rd_T34 t386 x78_2).f0) ((rd_T34 t386 x78_2).f1)).bind fun t407 => (medlarlaw12_LayerCovers.j2 k2 a0 a1 l2 a3 t385 t386 x14_2 t392 t393 x17_2 t396 t404 t386 (t386.length : Int) x78_2 (!t407))) else (none)) else (none)) else (medlarlaw12_LayerCovers.j2 k2 a0 a1 l2 a3 t385 t386 x14_2 t392 t393 x17_2 t396 t404 t386 (t386.length : Int) x78_2 false)) else (medlarlaw12_LayerCovers.j2 k2 a0 a1 l2 a3 t385 t386 x14_2 t392 t393 x17_2 t396 t404 t386 (t386.length : Int) x78_2 true)) else (medlarlaw12_LayerCovers.j2 k2 a0 a1 l2 a3 t385 t386 x14_2 t392 t393 x17_2 t396 t404 t386 (t386.length : Int) x78_2 true)) else (medlarlaw12_LayerCovers.j2 k2 a0 a1 l2 a3 t385 t386 x14_2 t392 t393 x17_2 t396 t404 t386 (t386.length : Int) x78_2 true)) else (medlarlaw12_LayerCovers.j2 k2 a0 a1 l2 a3 t385 t386 x14_2 t392 t393 x17_2 t396 t404 t386 (t386.length : Int) x78_2 true)) else (medlarlaw12_LayerCovers.j2 k2 a0 a1 l2 a3 t385 t386 x14_2 t392 t393 x17_2 t396 t404 t386 (t386.length : Int) x78_2 true)) = some r := H
            have A26 := ak_ A260
            clear A260
            have HC27 := ak_ H
            clear H
            have p394 : 0 ≤ (x78_2 : Int) := of_decide_eq_true (by first | (with_reducible assumption) | assumption)
            have q394 : x78_2 < (t386.length : Int) := of_decide_eq_true (by first | (with_reducible assumption) | assumption)
            obtain ⟨ad394, e394, hx394_0, hx394_1⟩ := at_T34 (Kd.R_reads' HO_76.out).2.2 x78_2 p394 q394
            cases e394
            replace p394 := eq_true p394
            replace q394 := eq_true q394
            go_upto_region 20 with (first | ((with_reducible refine gate_dst (N := 19) rfl ?_); (try (refine gate_guard (by rfl) ?_; dsimp only)); refine box_event ?hg (N := 19) ?hd (cs := #[.int .u64 0, .int .u64 0]) (t := 34) ?hr ?_; (case hd => rfl); (case hg => rfl); (case hr => first | (go_simp; done) | (go_simp; rfl)); intro gb395 hg w28 hbox hb; have n0_ := ak_ (Kd.R_below (Kd.R_elderB (by (with_reducible repeat (first | apply Kd.R_alloc | apply Kd.R_drewN | apply Kd.R_drew)); exact HO_10.out) gb395 (Nat.le_of_eq hg.symm)) hb); have n1_ := ak_ (Kd.R_below (Kd.R_elderB (by (with_reducible repeat (first | apply Kd.R_alloc | apply Kd.R_drewN | apply Kd.R_drew)); exact HO_76.out) gb395 (Nat.le_of_eq hg.symm)) hb); have n2_ := ak_ (below_step (by repeat (first | (with_reducible first | exact HB.out | apply ba_ | apply bn_ | apply bd_) | exact HB.out)) hb); have n3_ := ak_ (hbox); have n4_ := ak_ ((by rw [hg]; exact (below_size (by repeat (first | (with_reducible first | exact HB.out | apply ba_ | apply bn_ | apply bd_) | exact HB.out))) : w.heap.size ≤ gb395)); have n5_ := ak_ ((by rw [hg]; exact (below_size (by repeat (first | (with_reducible first | exact HB.out | apply ba_ | apply bn_ | apply bd_) | exact HB.out))) : w.heap.size ≤ gb395)); clear HO_10; clear HO_76; clear HB; have HO_10 := n0_; have HO_76 := n1_; have HB := n2_; have BK395 := n3_; have GW395 := n4_; have GE395 := n5_; clear n0_ n1_ n2_ n3_ n4_ n5_; clear hb hbox hg; have hcz29_0 : w28.cell? ⟨gb395, 0, none⟩ = some (.int .u64 0) := (blk_cell BK395.out 0).trans rfl; have hcz29_1 : w28.cell? ⟨gb395, 1, none⟩ = some (.int .u64 0) := (blk_cell BK395.out 1).trans rfl; have hfz29_0 := blk_frozen BK395.out 0; have hfz29_1 := blk_frozen BK395.out 1) | ((with_reducible refine gate_callee (f := 20) rfl ?_); refine goesL_ (some 87) rfl rfl Try.func20 (by kernel_rfl) rfl #[.int .i64 a0, .agg #[.int .u64 ((rd_T34 t386 x78_2).f0), .int .u64 ((rd_T34 t386 x78_2).f1)], .int .u64 a3] rfl (by (try simp only [map_toArray, map_cons, map_nil]); first | done | rfl | (simp only [length_drop, length_take]; rfl)) ?_; (with_reducible refine (sub_Has.calls k2 a0 ((rd_T34 t386 x78_2).f0) ((rd_T34 t386 x78_2).f1) a3 t396 t397 _ A23.out).mono ?_); rintro e w30 ⟨rfl, hb⟩; refine ⟨_, rfl, ?_⟩; have n0_ := ak_ (Kd.R_below (by (with_reducible repeat (first | apply Kd.R_alloc | apply Kd.R_drewN | apply Kd.R_drew)); exact (Kd.R_mono (Kd.R_far (p := ⟨gb395, 1, none⟩) (Kd.R_far (p := ⟨gb395, 0, none⟩) (Kd.R_mono HO_10.out (fun k_ hk => (⟨hk, hk.2⟩ : _ ∧ k_ ≠ gb395))) (fun _ hk => hk.2) (.int .u64 ((rd_T34 t386 x78_2).f0))) (fun _ hk => hk.2) (.int .u64 ((rd_T34 t386 x78_2).f1))) (fun _ h_ => h_.1))) hb); have n1_ := ak_ (Kd.R_below (by (with_reducible repeat (first | apply Kd.R_alloc | apply Kd.R_drewN | apply Kd.R_drew)); exact (Kd.R_mono (Kd.R_far (p := ⟨gb395, 1, none⟩) (Kd.R_far (p := ⟨gb395, 0, none⟩) (Kd.R_mono HO_76.out (fun k_ hk => (⟨hk, hk.2⟩ : _ ∧ k_ ≠ gb395))) (fun _ hk => hk.2) (.int .u64 ((rd_T34 t386 x78_2).f0))) (fun _ hk => hk.2) (.int .u64 ((rd_T34 t386 x78_2).f1))) (fun _ h_ => h_.1))) hb); have n2_ := ak_ (blk_below (g := gb395) (o := .cells #[.int .u64 ((rd_T34 t386 x78_2).f0), .int .u64 ((rd_T34 t386 x78_2).f1)] 34 (0, 0)) (by (with_reducible repeat (first | refine kn_ ?_ _ | refine kd_ ?_ | refine ka_ ?_ _)); refine blk_put (cs := #[.int .u64 ((rd_T34 t386 x78_2).f0), .int .u64 0]) ?_ 1 _ rfl; (with_reducible repeat (first | refine kn_ ?_ _ | refine kd_ ?_ | refine ka_ ?_ _)); refine blk_put (cs := #[.int .u64 0, .int .u64 0]) ?_ 0 _ rfl; (with_reducible repeat (first | refine kn_ ?_ _ | refine kd_ ?_ | refine ka_ ?_ _)); exact BK395.out) hb); have n3_ := ak_ (below_step (by repeat (first | (with_reducible first | exact HB.out | apply ba_ | apply bn_ | apply bd_ | refine below_set ?_ GE395.out) | exact HB.out)) hb); clear HO_10; clear HO_76; clear BK395; clear HB; have HO_10 := n0_; have HO_76 := n1_; have BK395 := n2_; have HB := n3_; clear n0_ n1_ n2_ n3_; (try clear hb); (try clear hb2); (try clear hk); (try clear hi); have hcz31_0 : w30.cell? ⟨gb395, 0, none⟩ = some (.int .u64 ((rd_T34 t386 x78_2).f0)) := (blk_cell BK395.out 0).trans rfl; have hcz31_1 : w30.cell? ⟨gb395, 1, none⟩ = some (.int .u64 ((rd_T34 t386 x78_2).f1)) := (blk_cell BK395.out 1).trans rfl; have hfz31_0 := blk_frozen BK395.out 0; have hfz31_1 := blk_frozen BK395.out 1) | ((with_reducible refine gate_callee (f := 37) rfl ?_); refine goesL_ (some 94) rfl rfl Try.func37 (by kernel_rfl) rfl #[.int .i64 a0, .int .i64 a1, .agg #[.int .u64 ((rd_T34 t386 x78_2).f0), .int .u64 ((rd_T34 t386 x78_2).f1)]] rfl (by (try simp only [map_toArray, map_cons, map_nil]); first | done | rfl | (simp only [length_drop, length_take]; rfl)) ?_; (with_reducible refine (layer_May.calls k2 a0 a1 ((rd_T34 t386 x78_2).f0) ((rd_T34 t386 x78_2).f1) t398 t399 _ A24.out).mono ?_); rintro e w32 ⟨rfl, hb⟩; refine ⟨_, rfl, ?_⟩; have n0_ := ak_ (Kd.R_below (by (with_reducible repeat (first | apply Kd.R_alloc | apply Kd.R_drewN | apply Kd.R_drew)); exact HO_10.out) hb); have n1_ := ak_ (Kd.R_below (by (with_reducible repeat (first | apply Kd.R_alloc | apply Kd.R_drewN | apply Kd.R_drew)); exact HO_76.out) hb); have n2_ := ak_ (blk_below (g := gb395) (o := .cells #[.int .u64 ((rd_T34 t386 x78_2).f0), .int .u64 ((rd_T34 t386 x78_2).f1)] 34 (0, 0)) (by (with_reducible repeat (first | refine kn_ ?_ _ | refine kd_ ?_ | refine ka_ ?_ _)); exact BK395.out) hb); have n3_ := ak_ (below_step (by repeat (first | (with_reducible first | exact HB.out | apply ba_ | apply bn_ | apply bd_ | refine below_set ?_ GE395.out) | exact HB.out)) hb); clear HO_10; clear HO_76; clear BK395; clear HB; have HO_10 := n0_; have HO_76 := n1_; have BK395 := n2_; have HB := n3_; clear n0_ n1_ n2_ n3_; (try clear hb); (try clear hb2); (try clear hk); (try clear hi); have hcz33_0 : w32.cell? ⟨gb395, 0, none⟩ = some (.int .u64 ((rd_T34 t386 x78_2).f0)) := (blk_cell BK395.out 0).trans rfl; have hcz33_1 : w32.cell? ⟨gb395, 1, none⟩ = some (.int .u64 ((rd_T34 t386 x78_2).f1)) := (blk_cell BK395.out 1).trans rfl; have hfz33_0 := blk_frozen BK395.out 0; have hfz33_1 := blk_frozen BK395.out 1) | ((with_reducible refine gate_callee (f := 26) rfl ?_); refine goesL_ (some 100) rfl rfl Try.func26 (by kernel_rfl) rfl #[.int .i64 a0, .agg #[.int .u64 ((rd_T34 t386 x78_2).f0), .int .u64 ((rd_T34 t386 x78_2).f1)]] rfl (by (try simp only [map_toArray, map_cons, map_nil]); first | done | rfl | (simp only [length_drop, length_take]; rfl)) ?_; (with_reducible refine (sub_Leaves.calls k2 a0 ((rd_T34 t386 x78_2).f0) ((rd_T34 t386 x78_2).f1) t400 t403 _ A25.out).mono ?_); rintro e w34 ⟨v401, rfl, ho0, hb⟩; refine ⟨_, rfl, ?_⟩; have n0_ := ak_ (Kd.R_below (by (with_reducible repeat (first | apply Kd.R_alloc | apply Kd.R_drewN | apply Kd.R_drew)); exact HO_10.out) hb); have n1_ := ak_ (Kd.R_below (by (with_reducible repeat (first | apply Kd.R_alloc | apply Kd.R_drewN | apply Kd.R_drew)); exact HO_76.out) hb); have n2_ := ak_ (Kd.R_lower ho0 (below_size (by repeat (first | (with_reducible first | exact HB.out | apply ba_ | apply bn_ | apply bd_ | refine below_set ?_ GE395.out) | exact HB.out)))); have n3_ := ak_ (blk_below (g := gb395) (o := .cells #[.int .u64 ((rd_T34 t386 x78_2).f0), .int .u64 ((rd_T34 t386 x78_2).f1)] 34 (0, 0)) (by (with_reducible repeat (first | refine kn_ ?_ _ | refine kd_ ?_ | refine ka_ ?_ _)); exact BK395.out) hb); have n4_ := ak_ (below_step (by repeat (first | (with_reducible first | exact HB.out | apply ba_ | apply bn_ | apply bd_ | refine below_set ?_ GE395.out) | exact HB.out)) hb); clear HO_10; clear HO_76; clear BK395; clear HB; have HO_10 := n0_; have HO_76 := n1_; have HO402 := n2_; have BK395 := n3_; have HB := n4_; clear n0_ n1_ n2_ n3_ n4_; (try clear hb); (try clear hb2); (try clear hk); (try clear hi); (try clear ho0); obtain ⟨Ao35, co35, eo35⟩ := Kd.R_slice HO402.out; subst eo35) | ((with_reducible refine gate_callee (f := 27) rfl ?_); refine goesL_ (some 106) rfl rfl Try.func27 (by kernel_rfl) rfl #[.int .i64 a0, .slice Ao35 t400.length co35] rfl (by (try simp only [map_toArray, map_cons, map_nil]); first | done | rfl | (simp only [length_drop, length_take]; rfl)) ?_; (with_reducible refine (leaf_Many.calls k2 a0 _ _ t400 t404 t405 _ ?side1 ?side2 A26.out).mono ?_); (case side1 => repeat (first | exact (Kd.R_reads' HO402.out).2.2 | (with_reducible refine Kd.C_alloc ?_ _) | (with_reducible refine Kd.C_drewN ?_ _) | (with_reducible refine Kd.C_drew ?_))); (case side2 => exact (Kd.R_reads' HO402.out).2.1); rintro e w36 ⟨rfl, hb⟩; refine ⟨_, rfl, ?_⟩; have n0_ := ak_ (Kd.R_below (by (with_reducible repeat (first | apply Kd.R_alloc | apply Kd.R_drewN | apply Kd.R_drew)); exact HO_10.out) hb); have n1_ := ak_ (Kd.R_below (by (with_reducible repeat (first | apply Kd.R_alloc | apply Kd.R_drewN | apply Kd.R_drew)); exact HO_76.out) hb); have n2_ := ak_ (Kd.R_below (by (with_reducible repeat (first | apply Kd.R_alloc | apply Kd.R_drewN | apply Kd.R_drew)); exact HO402.out) hb); have n3_ := ak_ (blk_below (g := gb395) (o := .cells #[.int .u64 ((rd_T34 t386 x78_2).f0), .int .u64 ((rd_T34 t386 x78_2).f1)] 34 (0, 0)) (by (with_reducible repeat (first | refine kn_ ?_ _ | refine kd_ ?_ | refine ka_ ?_ _)); exact BK395.out) hb); have n4_ := ak_ (below_step (by repeat (first | (with_reducible first | exact HB.out | apply ba_ | apply bn_ | apply bd_ | refine below_set ?_ GE395.out) | exact HB.out)) hb); clear HO_10; clear HO_76; clear HO402; clear BK395; clear HB; have HO_10 := n0_; have HO_76 := n1_; have HO402 := n2_; have BK395 := n3_; have HB := n4_; clear n0_ n1_ n2_ n3_ n4_; (try clear hb); (try clear hb2); (try clear hk); (try clear hi)))
            (try simp only [Act.put, setIfInBounds_toArray, set_cons_zero, set_cons_succ])
            go_cut [141] (fun v141 wc => ∃ (kq : Nat) (x141_26 : Bool), v141 = .bool x141_26 ∧ Aside0 (medlarlaw12_LayerCovers.j2 kq a0 a1 l2 a3 t385 t386 x14_2 t392 t393 x17_2 t396 t404 t386 (t386.length : Int) x78_2 x141_26 = some r) ∧ Aside0 (kq ≤ k2) ∧ Aside0 (Kd.R k34 34 wc w.heap.size (fun k_ => k_ ≠ gb395) (.slice (some ad394) t386.length co19) t386) ∧ Aside0 (Kd.R k34 34 wc w.heap.size (fun k_ => k_ ≠ gb395) (.slice (some ad394) t386.length co19) t386) ∧ Aside0 (wc.heap[gb395]? = some (.cells #[.int .u64 ((rd_T34 t386 x78_2).f0), .int .u64 ((rd_T34 t386 x78_2).f1)] 34 (0, 0))) ∧ Aside0 (Below w.heap.size w wc))
            case first =>
             have H := HC27.out
             clear HC27
             by_cases c37 : t397 = t393
             ·rw [if_pos c37] at H
              have c37b0 : (t397 == t393) = true := beq_iff_eq.mpr c37
              have c37b1 : (t397 != t393) = false := bne_eq_false_iff_eq.mpr c37
              clear c37
              (first | rw [c37b0] | (simp only [i64_w, i32_w]; rw [c37b0]) | skip)
              by_cases c38 : t399 = 0
              ·rw [if_pos c38] at H
               have c38b0 : (t399 == 0) = true := beq_iff_eq.mpr c38
               have c38b1 : (t399 != 0) = false := bne_eq_false_iff_eq.mpr c38
               clear c38
               by_cases c39 : t398 = true
               ·subst c39
                have H1 : (if t403 = 0 then (if t405 = 0 then (if x78_2 > 0 then (if 0 ≤ (wrap64 (x78_2 - 1)) then (if (wrap64 (x78_2 - 1)) < (t386.length : Int) then ((sub_Less.f k2 ((rd_T34 t386 (wrap64 (x78_2 - 1))).f0) ((rd_T34 t386 (wrap64 (x78_2 - 1))).f1) ((rd_T34 t386 x78_2).f0) ((rd_T34 t386 x78_2).f1)).bind fun t407 => (medlarlaw12_LayerCovers.j2 k2 a0 a1 l2 a3 t385 t386 x14_2 t392 t393 x17_2 t396 t404 t386 (t386.length : Int) x78_2 (!t407))) else (none)) else (none)) else (medlarlaw12_LayerCovers.j2 k2 a0 a1 l2 a3 t385 t386 x14_2 t392 t393 x17_2 t396 t404 t386 (t386.length : Int) x78_2 false)) else (medlarlaw12_LayerCovers.j2 k2 a0 a1 l2 a3 t385 t386 x14_2 t392 t393 x17_2 t396 t404 t386 (t386.length : Int) x78_2 true)) else (medlarlaw12_LayerCovers.j2 k2 a0 a1 l2 a3 t385 t386 x14_2 t392 t393 x17_2 t396 t404 t386 (t386.length : Int) x78_2 true)) = some r := by rw [if_pos rfl] at H; exact H
                clear H
                have H := H1
                clear H1
                by_cases c40 : t403 = 0
                ·rw [if_pos c40] at H
                 have c40b0 : (t403 == 0) = true := beq_iff_eq.mpr c40
                 have c40b1 : (t403 != 0) = false := bne_eq_false_iff_eq.mpr c40
                 clear c40
                 by_cases c41 : t405 = 0
                 ·rw [if_pos c41] at H
                  have c41b0 : (t405 == 0) = true := beq_iff_eq.mpr c41
                  have c41b1 : (t405 != 0) = false := bne_eq_false_iff_eq.mpr c41
                  clear c41
                  by_cases c42 : x78_2 > 0
                  ·rw [if_pos c42] at H
                   have c42b0 : decide (0 < x78_2) = true := decide_eq_true c42
                   clear c42
                   obtain ⟨ji43, hji43⟩ : ∃ j_ : Int, (wrap64 (x78_2 - 1)) = j_ := ⟨_, rfl⟩
                   replace H : (if 0 ≤ (ji43) then (if (ji43) < (t386.length : Int) then ((sub_Less.f k2 ((rd_T34 t386 (ji43)).f0) ((rd_T34 t386 (ji43)).f1) ((rd_T34 t386 x78_2).f0) ((rd_T34 t386 x78_2).f1)).bind fun t407 => (medlarlaw12_LayerCovers.j2 k2 a0 a1 l2 a3 t385 t386 x14_2 t392 t393 x17_2 t396 t404 t386 (t386.length : Int) x78_2 (!t407))) else (none)) else (none)) = some r := by first | (rw [hji43] at H; exact H) | (simp only [hji43] at H ⊢; exact H)
                   have hji43w : (IntKind.i64.wrap (x78_2 - 1)) = ji43 := (i64_w _).trans hji43
                   by_cases c44 : 0 ≤ (ji43)
                   ·rw [if_pos c44] at H
                    have c44b0 : decide (0 ≤ (ji43)) = true := decide_eq_true c44
                    clear c44
                    by_cases c45 : (ji43) < (t386.length : Int)
                    ·rw [if_pos c45] at H
                     have c45b0 : decide ((ji43) < (t386.length : Int)) = true := decide_eq_true c45
                     clear c45
                     replace H := Option.bind_eq_some_iff.mp H
                     obtain ⟨t407, A460, H⟩ := H
                     replace H : (medlarlaw12_LayerCovers.j2 k2 a0 a1 l2 a3 t385 t386 x14_2 t392 t393 x17_2 t396 t404 t386 (t386.length : Int) x78_2 (!t407)) = some r := H
                     have A46 := ak_ A460
                     clear A460
                     have H' := ak_ H
                     clear H
                     try go_wp2
                     have n0_ := ak_ (Kd.R_drew HO_10.out)
                     have n1_ := ak_ (Kd.R_drew HO_76.out)
                     have n2_ := ak_ (Kd.R_drew HO402.out)
                     have n3_ := ak_ (kd_ BK395.out)
                     have n4_ := ak_ (bd_ HB.out)
                     clear HO_10
                     clear HO_76
                     clear HO402
                     clear BK395
                     clear HB
                     have HO_10 := n0_
                     have HO_76 := n1_
                     have HO402 := n2_
                     have BK395 := n3_
                     have HB := n4_
                     clear n0_ n1_ n2_ n3_ n4_
                     have p406 : 0 ≤ ((ji43) : Int) := of_decide_eq_true (by first | (with_reducible assumption) | assumption)
                     have q406 : (ji43) < (t386.length : Int) := of_decide_eq_true (by first | (with_reducible assumption) | assumption)
                     obtain ⟨ad406, e406, hx406_0, hx406_1⟩ := at_T34 (Kd.R_reads' HO_10.out).2.2 (ji43) p406 q406
                     obtain rfl : ad394 = ad406 := (by injection e406)
                     replace p406 := eq_true p406
                     replace q406 := eq_true q406
                     refine start_ (n := 33) (S := fun w' => w'.cell? ⟨gb395, 0, none⟩ = some (.int .u64 ((rd_T34 t386 x78_2).f0)) ∧ w'.cell? ⟨gb395, 1, none⟩ = some (.int .u64 ((rd_T34 t386 x78_2).f1)) ∧ w'.cell? (ad394.add (((ji43)).toNat * 2)) = some (.int .u64 ((rd_T34 t386 (ji43)).f0)) ∧ w'.cell? ⟨(ad394.add (((ji43)).toNat * 2)).block, (ad394.add (((ji43)).toNat * 2)).off + 1, none⟩ = some (.int .u64 ((rd_T34 t386 (ji43)).f1))) (ds := []) #[false, false, false, false, false, false, false, false, false, false, false, false, false, false, false, false, false, false, false, false, false, false, false, false, false, false, false, false, false, false, false, false, false] (by kernel_rfl) rfl rfl ⟨(blk_cell BK395.out 0).trans rfl, (blk_cell BK395.out 1).trans rfl, hx406_0, hx406_1⟩ (fun hHeld => ?_); refine with_tabW medlarlaw12_LayerCovers.tab20 medlarlaw12_LayerCovers.bits20 (fun HT_ HW_ => ?_)
                     generalize w36.drew = w47 at HO_10 HO_76 HO402 BK395 HB hx406_0 hx406_1 hHeld ⊢
                     refine pure_ (i := 0) (N := some 109) (v := ?_) (a' := ?_) (bA6 1 33) rfl rfl (any_of HT_.out (by kernel_rfl)) (fun _ _ _ h => h) (Or.inl ⟨by rfl, ?_⟩) ?_ ?_; rotate_left; (intro w'; go_simp; with_reducible rfl); rotate_left; (simp only [Act.put, setIfInBounds_toArray, set_cons_zero, set_cons_succ, i64_w, i32_w]; rfl)
                     refine pure_ (i := 1) (N := some 110) (v := ?_) (a' := ?_) (bA6 2 33) rfl rfl (any_of HT_.out (by kernel_rfl)) (fun _ _ _ h => h) (Or.inl ⟨by rfl, ?_⟩) ?_ ?_; rotate_left; (intro w'; go_simp; with_reducible rfl); rotate_left; (simp only [Act.put, setIfInBounds_toArray, set_cons_zero, set_cons_succ, i64_w, i32_w]; rfl)
                     refine pure_ (i := 2) (N := some 111) (v := ?_) (a' := ?_) (bA6 3 33) rfl rfl (any_of HT_.out (by kernel_rfl)) (fun _ _ _ h => h) (Or.inl ⟨by rfl, ?_⟩) ?_ ?_; rotate_left; (intro w'; go_simp; with_reducible rfl); rotate_left; (simp only [Act.put, setIfInBounds_toArray, set_cons_zero, set_cons_succ, i64_w, i32_w]; rfl)
                     refine pure_ (i := 3) (N := some 112) (v := ?_) (a' := ?_) (bA6 4 33) rfl rfl (any_of HT_.out (by kernel_rfl)) (fun _ _ _ h => h) (Or.inl ⟨by rfl, ?_⟩) ?_ ?_; rotate_left; (intro w'; go_simp; with_reducible rfl); rotate_left; (simp only [Act.put, setIfInBounds_toArray, set_cons_zero, set_cons_succ, i64_w, i32_w]; rfl)
                     refine pure_ (i := 4) (N := some 113) (v := ?_) (a' := ?_) (bA6 5 33) rfl rfl (any_of HT_.out (by kernel_rfl)) (fun _ _ _ h => h) (Or.inl ⟨by rfl, ?_⟩) ?_ ?_; rotate_left; (intro w'; go_simp; with_reducible rfl); rotate_left; (simp only [Act.put, setIfInBounds_toArray, set_cons_zero, set_cons_succ, i64_w, i32_w]; rfl)
                     refine pure_ (i := 5) (N := some 114) (v := ?_) (a' := ?_) (bA6 6 33) rfl rfl (any_of HT_.out (by kernel_rfl)) (fun _ _ _ h => h) (Or.inl ⟨by rfl, ?_⟩) ?_ ?_; rotate_left; (intro w'; go_simp; with_reducible rfl); rotate_left; (simp only [Act.put, setIfInBounds_toArray, set_cons_zero, set_cons_succ, i64_w, i32_w]; rfl)
                     refine pure_ (i := 6) (N := some 115) (v := ?_) (a' := ?_) (bA6 7 33) rfl rfl (any_of HT_.out (by kernel_rfl)) (fun _ _ _ h => h) (Or.inl ⟨by rfl, ?_⟩) ?_ ?_; rotate_left; (intro w'; go_simp; with_reducible rfl); rotate_left; (simp only [Act.put, setIfInBounds_toArray, set_cons_zero, set_cons_succ, i64_w, i32_w]; rfl)
                     refine pure_ (i := 7) (N := some 116) (v := ?_) (a' := ?_) (bA6 8 33) rfl rfl (any_of HT_.out (by kernel_rfl)) (fun _ _ _ h => h) (Or.inl ⟨by rfl, ?_⟩) ?_ ?_; rotate_left; (intro w'; go_simp; with_reducible rfl); rotate_left; (simp only [Act.put, setIfInBounds_toArray, set_cons_zero, set_cons_succ, i64_w, i32_w]; rfl)
                     refine pure_ (i := 8) (N := some 117) (v := ?_) (a' := ?_) (bA6 9 33) rfl rfl (any_of HT_.out (by kernel_rfl)) (fun _ _ _ h => h) (Or.inl ⟨by rfl, ?_⟩) ?_ ?_; rotate_left; (intro w'; go_simp; with_reducible rfl); rotate_left; (simp only [Act.put, setIfInBounds_toArray, set_cons_zero, set_cons_succ, i64_w, i32_w]; rfl)
                     refine pure_ (i := 9) (N := some 118) (v := ?_) (a' := ?_) (bA6 10 33) rfl rfl (any_of HT_.out (by kernel_rfl)) (fun _ _ _ h => h) (Or.inl ⟨by rfl, ?_⟩) ?_ ?_; rotate_left; (intro w'; go_simp; with_reducible rfl); rotate_left; (simp only [Act.put, setIfInBounds_toArray, set_cons_zero, set_cons_succ, i64_w, i32_w]; rfl)
                     refine pure_ (i := 10) (N := some 119) (v := ?_) (a' := ?_) (bA6 11 33) rfl rfl (any_of HT_.out (by kernel_rfl)) (fun _ _ _ h => h) (Or.inl ⟨by rfl, ?_⟩) ?_ ?_; rotate_left; (intro w'; go_simp; with_reducible rfl); rotate_left; (simp only [Act.put, setIfInBounds_toArray, set_cons_zero, set_cons_succ, i64_w, i32_w]; rfl)
                     refine pure_ (i := 11) (N := some 120) (v := ?_) (a' := ?_) (bA6 12 33) rfl rfl (any_of HT_.out (by kernel_rfl)) (fun _ _ _ h => h) (Or.inl ⟨by rfl, ?_⟩) ?_ ?_; rotate_left; (intro w'; go_simp; with_reducible rfl); rotate_left; (simp only [Act.put, setIfInBounds_toArray, set_cons_zero, set_cons_succ, i64_w, i32_w]; rfl)
                     refine pure_ (i := 12) (N := some 121) (v := ?_) (a' := ?_) (bA6 13 33) rfl rfl (any_of HT_.out (by kernel_rfl)) (fun _ _ _ h => h) (Or.inl ⟨by rfl, ?_⟩) ?_ ?_; rotate_left; (intro w'; go_simp; with_reducible rfl); rotate_left; (simp only [Act.put, setIfInBounds_toArray, set_cons_zero, set_cons_succ, i64_w, i32_w]; rfl)
                     refine pure_ (i := 13) (N := some 122) (v := ?_) (a' := ?_) (bA6 14 33) rfl rfl (any_of HT_.out (by kernel_rfl)) (fun _ _ _ h => h) (Or.inl ⟨by rfl, ?_⟩) ?_ ?_; rotate_left; (intro w'; go_simp; with_reducible rfl); rotate_left; (simp only [Act.put, setIfInBounds_toArray, set_cons_zero, set_cons_succ, i64_w, i32_w]; rfl)
                     refine pure_ (i := 14) (N := some 123) (v := ?_) (a' := ?_) (bA6 15 33) rfl rfl (any_of HT_.out (by kernel_rfl)) (fun _ _ _ h => h) (Or.inl ⟨by rfl, ?_⟩) ?_ ?_; rotate_left; (intro w'; go_simp; with_reducible rfl); rotate_left; (simp only [Act.put, setIfInBounds_toArray, set_cons_zero, set_cons_succ, i64_w, i32_w]; rfl)
                     refine pure_ (i := 15) (N := some 124) (v := ?_) (a' := ?_) (bA6 16 33) rfl rfl (any_of HT_.out (by kernel_rfl)) (fun _ _ _ h => h) (Or.inl ⟨by rfl, ?_⟩) ?_ ?_; rotate_left; (intro w'; go_simp; with_reducible rfl); rotate_left; (simp only [Act.put, setIfInBounds_toArray, set_cons_zero, set_cons_succ, i64_w, i32_w]; rfl)
                     refine pure_ (i := 16) (N := some 125) (v := ?_) (a' := ?_) (bA6 17 33) rfl rfl (any_of HT_.out (by kernel_rfl)) (fun _ _ _ h => h) (Or.inl ⟨by rfl, ?_⟩) ?_ ?_; rotate_left; (intro w'; go_simp; with_reducible rfl); rotate_left; (simp only [Act.put, setIfInBounds_toArray, set_cons_zero, set_cons_succ, i64_w, i32_w]; rfl)
                     refine pure_ (i := 17) (N := some 126) (v := ?_) (a' := ?_) (bA6 18 33) rfl rfl (any_of HT_.out (by kernel_rfl)) (fun _ _ _ h => h) (Or.inl ⟨by rfl, ?_⟩) ?_ ?_; rotate_left; (intro w'; go_simp; with_reducible rfl); rotate_left; (simp only [Act.put, setIfInBounds_toArray, set_cons_zero, set_cons_succ, i64_w, i32_w]; rfl)
                     refine pure_ (i := 18) (N := some 127) (v := ?_) (a' := ?_) (bA6 19 33) rfl rfl (any_of HT_.out (by kernel_rfl)) (fun _ _ _ h => h) (Or.inl ⟨by rfl, ?_⟩) ?_ ?_; rotate_left; (intro w'; go_simp; with_reducible rfl); rotate_left; (simp only [Act.put, setIfInBounds_toArray, set_cons_zero, set_cons_succ, i64_w, i32_w]; rfl)
                     refine pure_ (i := 19) (N := some 128) (v := ?_) (a' := ?_) (bA6 20 33) rfl rfl (any_of HT_.out (by kernel_rfl)) (fun _ _ _ h => h) (Or.inl ⟨by rfl, ?_⟩) ?_ ?_; rotate_left; (intro w'; go_simp; with_reducible rfl); rotate_left; (simp only [Act.put, setIfInBounds_toArray, set_cons_zero, set_cons_succ, i64_w, i32_w]; rfl)
                     refine pure_ (i := 20) (N := some 129) (v := ?_) (a' := ?_) (bA6 21 33) rfl rfl (any_of HT_.out (by kernel_rfl)) (fun _ _ _ h => h) (Or.inl ⟨by rfl, ?_⟩) ?_ ?_; rotate_left; (intro w'; go_simp; with_reducible rfl); rotate_left; (simp only [Act.put, setIfInBounds_toArray, set_cons_zero, set_cons_succ, i64_w, i32_w]; rfl)
                     refine pure_ (i := 21) (N := some 130) (v := ?_) (a' := ?_) (bA6 22 33) rfl rfl (any_of HT_.out (by kernel_rfl)) (fun _ _ _ h => h) (Or.inl ⟨by rfl, ?_⟩) ?_ ?_; rotate_left; (intro w'; go_simp; with_reducible rfl); rotate_left; (simp only [Act.put, setIfInBounds_toArray, set_cons_zero, set_cons_succ, i64_w, i32_w]; rfl)
                     refine pure_ (i := 22) (N := some 131) (v := ?_) (a' := ?_) (bA6 23 33) rfl rfl (any_of HT_.out (by kernel_rfl)) (fun _ _ _ h => h) (Or.inl ⟨by rfl, ?_⟩) ?_ ?_; rotate_left; (intro w'; go_simp; with_reducible rfl); rotate_left; (simp only [Act.put, setIfInBounds_toArray, set_cons_zero, set_cons_succ, i64_w, i32_w]; rfl)
                     refine pure_ (i := 23) (N := some 132) (v := ?_) (a' := ?_) (bA6 24 33) rfl rfl (any_of HT_.out (by kernel_rfl)) (fun _ _ _ h => h) (Or.inl ⟨by rfl, ?_⟩) ?_ ?_; rotate_left; (intro w'; go_simp; with_reducible rfl); rotate_left; (simp only [Act.put, setIfInBounds_toArray, set_cons_zero, set_cons_succ, i64_w, i32_w]; rfl)
                     refine pure_ (i := 24) (N := some 133) (v := ?_) (a' := ?_) (bA6 25 33) rfl rfl (any_of HT_.out (by kernel_rfl)) (fun _ _ _ h => h) (Or.inl ⟨by rfl, ?_⟩) ?_ ?_; rotate_left; (intro w'; go_simp; with_reducible rfl); rotate_left; (simp only [Act.put, setIfInBounds_toArray, set_cons_zero, set_cons_succ, i64_w, i32_w]; rfl)
                     refine pure_ (i := 25) (N := some 134) (v := ?_) (a' := ?_) (bA6 26 33) rfl rfl (any_of HT_.out (by kernel_rfl)) (fun _ _ _ h => h) (Or.inl ⟨by rfl, ?_⟩) ?_ ?_; rotate_left; (intro w'; go_simp; with_reducible rfl); rotate_left; (simp only [Act.put, setIfInBounds_toArray, set_cons_zero, set_cons_succ, i64_w, i32_w]; rfl)
                     refine pure_ (i := 26) (N := some 135) (v := ?_) (a' := ?_) (bA6 27 33) rfl rfl (any_of HT_.out (by kernel_rfl)) (fun _ _ _ h => h) (Or.inl ⟨by rfl, ?_⟩) ?_ ?_; rotate_left; (intro w'; go_simp; with_reducible rfl); rotate_left; (simp only [Act.put, setIfInBounds_toArray, set_cons_zero, set_cons_succ, i64_w, i32_w]; rfl)
                     refine take_ (i := 27) (N := some 136) (v := ?_) (a' := ?_) (bA6 28 33) rfl rfl (take_ofW HT_.out HW_.out (by kernel_rfl)) (fun _ _ _ h => h) (Or.inl ⟨by rfl, ?_⟩) hHeld ?_ ?_
                     rotate_left
                     ·rintro w' ⟨s0, s1, s2, s3⟩
                      go_simp
                      with_reducible rfl
                     rotate_left
                     ·simp only [Act.put, setIfInBounds_toArray, set_cons_zero, set_cons_succ, i64_w, i32_w]
                      rfl
                     refine take_ (i := 28) (N := some 137) (v := ?_) (a' := ?_) (bA6 29 33) rfl rfl (take_ofW HT_.out HW_.out (by kernel_rfl)) (fun _ _ _ h => h) (Or.inl ⟨by rfl, ?_⟩) hHeld ?_ ?_
                     rotate_left
                     ·rintro w' ⟨s0, s1, s2, s3⟩
                      go_simp
                      with_reducible rfl
                     rotate_left
                     ·simp only [Act.put, setIfInBounds_toArray, set_cons_zero, set_cons_succ, i64_w, i32_w]
                      rfl
                     refine one_ (i := 29) (N := some 138) (bA6 30 33) rfl rfl (one_of HT_.out (by kernel_rfl)) (by decide) (fun K hK => ?_)
                     refine goes_ Try.func24 (by kernel_rfl) rfl #[.agg #[.int .u64 ((rd_T34 t386 (ji43)).f0), .int .u64 ((rd_T34 t386 (ji43)).f1)], .agg #[.int .u64 ((rd_T34 t386 x78_2).f0), .int .u64 ((rd_T34 t386 x78_2).f1)]] (by rfl) rfl rfl (by (try simp only [map_toArray, map_cons, map_nil]); first | done | (simp only [hji43]; rfl) | rfl | (simp only [length_drop, length_take]; rfl)) ?_
                     with_reducible refine (sub_Less.calls k2 ((rd_T34 t386 (ji43)).f0) ((rd_T34 t386 (ji43)).f1) ((rd_T34 t386 x78_2).f0) ((rd_T34 t386 x78_2).f1) t407 _ A46.out).mono ?_
                     rintro e w48 ⟨rfl, hb⟩
                     have HS2_ := (hb.cell (World.block_lt_of_cell? _ _ (hHeld.2.2.1))).trans (hHeld.2.2.1)
                     have HS3_ := (hb.cell (World.block_lt_of_cell? _ _ (hHeld.2.2.2))).trans (hHeld.2.2.2)
                     refine ⟨_, rfl, ?_⟩
                     have n0_ := ak_ (Kd.R_below (by (with_reducible repeat (first | apply Kd.R_alloc | apply Kd.R_drewN | apply Kd.R_drew)); exact HO_10.out) hb)
                     have n1_ := ak_ (Kd.R_below (by (with_reducible repeat (first | apply Kd.R_alloc | apply Kd.R_drewN | apply Kd.R_drew)); exact HO_76.out) hb)
                     have n2_ := ak_ (Kd.R_below (by (with_reducible repeat (first | apply Kd.R_alloc | apply Kd.R_drewN | apply Kd.R_drew)); exact HO402.out) hb)
                     have n3_ := ak_ (blk_below (g := gb395) (o := .cells #[.int .u64 ((rd_T34 t386 x78_2).f0), .int .u64 ((rd_T34 t386 x78_2).f1)] 34 (0, 0)) (by (with_reducible repeat (first | refine kn_ ?_ _ | refine kd_ ?_ | refine ka_ ?_ _)); exact BK395.out) hb)
                     have n4_ := ak_ (below_step (by repeat (first | (with_reducible first | exact HB.out | apply ba_ | apply bn_ | apply bd_ | refine below_set ?_ GE395.out) | exact HB.out)) hb)
                     clear HO_10
                     clear HO_76
                     clear HO402
                     clear BK395
                     clear HB
                     have HO_10 := n0_
                     have HO_76 := n1_
                     have HO402 := n2_
                     have BK395 := n3_
                     have HB := n4_
                     clear n0_ n1_ n2_ n3_ n4_
                     (try clear hb)
                     (try clear hb2)
                     (try clear hk)
                     (try clear hi)
                     refine hK.out _ _ ⟨(blk_cell BK395.out 0).trans rfl, (blk_cell BK395.out 1).trans rfl, HS2_, HS3_⟩ (fun hHeld => ?_)
                     clear hK K
                     refine norm_ (a' := ?_) ?_ ?_
                     rotate_left
                     ·show Act.put _ (some 138) _ = _
                      simp only [Act.put, setIfInBounds_toArray, set_cons_zero, set_cons_succ, i64_w, i32_w]
                      rfl
                     refine pure_ (i := 30) (N := some 139) (v := ?_) (a' := ?_) (bA6 31 33) rfl rfl (any_of HT_.out (by kernel_rfl)) (fun _ _ _ h => h) (Or.inl ⟨by rfl, ?_⟩) ?_ ?_; rotate_left; (intro w'; go_simp; with_reducible rfl); rotate_left; (simp only [Act.put, setIfInBounds_toArray, set_cons_zero, set_cons_succ, i64_w, i32_w]; rfl)
                     refine pure_ (i := 31) (N := some 140) (v := ?_) (a' := ?_) (bA6 32 33) rfl rfl (any_of HT_.out (by kernel_rfl)) (fun _ _ _ h => h) (Or.inl ⟨by rfl, ?_⟩) ?_ ?_; rotate_left; (intro w'; go_simp; with_reducible rfl); rotate_left; (simp only [Act.put, setIfInBounds_toArray, set_cons_zero, set_cons_succ, i64_w, i32_w]; rfl)
                     refine pure_ (i := 32) (N := some 141) (v := ?_) (a' := ?_) (bA6 33 33) rfl rfl (any_of HT_.out (by kernel_rfl)) (fun _ _ _ h => h) (Or.inl ⟨by rfl, ?_⟩) ?_ ?_; rotate_left; (intro w'; go_simp; with_reducible rfl); rotate_left; (simp only [Act.put, setIfInBounds_toArray, set_cons_zero, set_cons_succ, i64_w, i32_w]; rfl)
                     refine done_ (done_of HT_.out (by kernel_rfl)) ?_
                     try go_wp2
                     go_meet
                     case rel => exact ⟨_, (!t407), (by first | rfl | (simp; done) | (simp [*]; done)), H', ⟨by have := HJ10.out; have := HK2.out; first | omega | exact Nat.le_refl _⟩, ⟨by (with_reducible repeat (first | apply Kd.R_alloc | apply Kd.R_drewN | apply Kd.R_drew)); exact Kd.R_mono HO_10.out (fun _ hk => hk.2)⟩, ⟨by (with_reducible repeat (first | apply Kd.R_alloc | apply Kd.R_drewN | apply Kd.R_drew)); exact Kd.R_mono HO_76.out (fun _ hk => hk.2)⟩, ⟨by (with_reducible repeat (first | refine kn_ ?_ _ | refine kd_ ?_ | refine ka_ ?_ _)); exact BK395.out⟩, ⟨by repeat (first | (with_reducible first | exact HB.out | apply ba_ | apply bn_ | apply bd_ | refine below_set ?_ GE395.out) | exact HB.out)⟩⟩
                    ·rw [if_neg c45] at H
                     exact absurd H (by simp)
                   ·rw [if_neg c44] at H
                    exact absurd H (by simp)
                  ·rw [if_neg c42] at H
                   have c42b0 : decide (0 < x78_2) = false := decide_eq_false c42
                   clear c42
                   have H' := ak_ H
                   clear H
                   try go_wp2
                   have n0_ := ak_ (Kd.R_drew HO_10.out)
                   have n1_ := ak_ (Kd.R_drew HO_76.out)
                   have n2_ := ak_ (Kd.R_drew HO402.out)
                   have n3_ := ak_ (kd_ BK395.out)
                   have n4_ := ak_ (bd_ HB.out)
                   clear HO_10
                   clear HO_76
                   clear HO402
                   clear BK395
                   clear HB
                   have HO_10 := n0_
                   have HO_76 := n1_
                   have HO402 := n2_
                   have BK395 := n3_
                   have HB := n4_
                   clear n0_ n1_ n2_ n3_ n4_
                   refine start_ (n := 33) (S := fun w' => True) (ds := []) #[false, false, false, false, false, false, false, false, false, false, false, false, false, false, false, false, false, false, false, false, false, false, false, false, false, false, false, false, false, false, false, false, false] (by kernel_rfl) rfl rfl trivial (fun hHeld => ?_); refine with_tabW medlarlaw12_LayerCovers.tab20 medlarlaw12_LayerCovers.bits20 (fun HT_ HW_ => ?_)
                   generalize w36.drew = w49 at HO_10 HO_76 HO402 BK395 HB hHeld ⊢
                   refine pure_ (i := 0) (N := some 109) (v := ?_) (a' := ?_) (bA6 1 33) rfl rfl (any_of HT_.out (by kernel_rfl)) (fun _ _ _ h => h) (Or.inl ⟨by rfl, ?_⟩) ?_ ?_; rotate_left; (intro w'; go_simp; with_reducible rfl); rotate_left; (simp only [Act.put, setIfInBounds_toArray, set_cons_zero, set_cons_succ, i64_w, i32_w]; rfl)
                   refine pure_ (i := 1) (N := some 110) (v := ?_) (a' := ?_) (bA6 2 33) rfl rfl (any_of HT_.out (by kernel_rfl)) (fun _ _ _ h => h) (Or.inl ⟨by rfl, ?_⟩) ?_ ?_; rotate_left; (intro w'; go_simp; with_reducible rfl); rotate_left; (simp only [Act.put, setIfInBounds_toArray, set_cons_zero, set_cons_succ, i64_w, i32_w]; rfl)
                   refine pure_ (i := 2) (N := some 111) (v := ?_) (a' := ?_) (bA6 3 33) rfl rfl (any_of HT_.out (by kernel_rfl)) (fun _ _ _ h => h) (Or.inl ⟨by rfl, ?_⟩) ?_ ?_; rotate_left; (intro w'; go_simp; with_reducible rfl); rotate_left; (simp only [Act.put, setIfInBounds_toArray, set_cons_zero, set_cons_succ, i64_w, i32_w]; rfl)
                   refine pure_ (i := 3) (N := some 112) (v := ?_) (a' := ?_) (bA6 4 33) rfl rfl (any_of HT_.out (by kernel_rfl)) (fun _ _ _ h => h) (Or.inl ⟨by rfl, ?_⟩) ?_ ?_; rotate_left; (intro w'; go_simp; with_reducible rfl); rotate_left; (simp only [Act.put, setIfInBounds_toArray, set_cons_zero, set_cons_succ, i64_w, i32_w]; rfl)
                   refine pure_ (i := 4) (N := some 113) (v := ?_) (a' := ?_) (bA6 5 33) rfl rfl (any_of HT_.out (by kernel_rfl)) (fun _ _ _ h => h) (Or.inl ⟨by rfl, ?_⟩) ?_ ?_; rotate_left; (intro w'; go_simp; with_reducible rfl); rotate_left; (simp only [Act.put, setIfInBounds_toArray, set_cons_zero, set_cons_succ, i64_w, i32_w]; rfl)
                   refine pure_ (i := 5) (N := some 114) (v := ?_) (a' := ?_) (bA6 6 33) rfl rfl (any_of HT_.out (by kernel_rfl)) (fun _ _ _ h => h) (Or.inl ⟨by rfl, ?_⟩) ?_ ?_; rotate_left; (intro w'; go_simp; with_reducible rfl); rotate_left; (simp only [Act.put, setIfInBounds_toArray, set_cons_zero, set_cons_succ, i64_w, i32_w]; rfl)
                   refine pure_ (i := 6) (N := some 115) (v := ?_) (a' := ?_) (bA6 7 33) rfl rfl (any_of HT_.out (by kernel_rfl)) (fun _ _ _ h => h) (Or.inl ⟨by rfl, ?_⟩) ?_ ?_; rotate_left; (intro w'; go_simp; with_reducible rfl); rotate_left; (simp only [Act.put, setIfInBounds_toArray, set_cons_zero, set_cons_succ, i64_w, i32_w]; rfl)
                   refine pure_ (i := 7) (N := some 116) (v := ?_) (a' := ?_) (bA6 8 33) rfl rfl (any_of HT_.out (by kernel_rfl)) (fun _ _ _ h => h) (Or.inl ⟨by rfl, ?_⟩) ?_ ?_; rotate_left; (intro w'; go_simp; with_reducible rfl); rotate_left; (simp only [Act.put, setIfInBounds_toArray, set_cons_zero, set_cons_succ, i64_w, i32_w]; rfl)
                   refine pure_ (i := 8) (N := some 117) (v := ?_) (a' := ?_) (bA6 9 33) rfl rfl (any_of HT_.out (by kernel_rfl)) (fun _ _ _ h => h) (Or.inl ⟨by rfl, ?_⟩) ?_ ?_; rotate_left; (intro w'; go_simp; with_reducible rfl); rotate_left; (simp only [Act.put, setIfInBounds_toArray, set_cons_zero, set_cons_succ, i64_w, i32_w]; rfl)
                   refine pure_ (i := 9) (N := some 118) (v := ?_) (a' := ?_) (bA6 10 33) rfl rfl (any_of HT_.out (by kernel_rfl)) (fun _ _ _ h => h) (Or.inl ⟨by rfl, ?_⟩) ?_ ?_; rotate_left; (intro w'; go_simp; with_reducible rfl); rotate_left; (simp only [Act.put, setIfInBounds_toArray, set_cons_zero, set_cons_succ, i64_w, i32_w]; rfl)
                   refine pure_ (i := 10) (N := some 119) (v := ?_) (a' := ?_) (bA6 11 33) rfl rfl (any_of HT_.out (by kernel_rfl)) (fun _ _ _ h => h) (Or.inl ⟨by rfl, ?_⟩) ?_ ?_; rotate_left; (intro w'; go_simp; with_reducible rfl); rotate_left; (simp only [Act.put, setIfInBounds_toArray, set_cons_zero, set_cons_succ, i64_w, i32_w]; rfl)
                   refine pure_ (i := 11) (N := some 120) (v := ?_) (a' := ?_) (bA6 12 33) rfl rfl (any_of HT_.out (by kernel_rfl)) (fun _ _ _ h => h) (Or.inl ⟨by rfl, ?_⟩) ?_ ?_; rotate_left; (intro w'; go_simp; with_reducible rfl); rotate_left; (simp only [Act.put, setIfInBounds_toArray, set_cons_zero, set_cons_succ, i64_w, i32_w]; rfl)
                   refine pure_ (i := 12) (N := some 121) (v := ?_) (a' := ?_) (bA6 13 33) rfl rfl (any_of HT_.out (by kernel_rfl)) (fun _ _ _ h => h) (Or.inl ⟨by rfl, ?_⟩) ?_ ?_; rotate_left; (intro w'; go_simp; with_reducible rfl); rotate_left; (simp only [Act.put, setIfInBounds_toArray, set_cons_zero, set_cons_succ, i64_w, i32_w]; rfl)
                   refine pure_ (i := 13) (N := some 122) (v := ?_) (a' := ?_) (bA6 14 33) rfl rfl (any_of HT_.out (by kernel_rfl)) (fun _ _ _ h => h) (Or.inl ⟨by rfl, ?_⟩) ?_ ?_; rotate_left; (intro w'; go_simp; with_reducible rfl); rotate_left; (simp only [Act.put, setIfInBounds_toArray, set_cons_zero, set_cons_succ, i64_w, i32_w]; rfl)
                   refine pure_ (i := 14) (N := some 123) (v := ?_) (a' := ?_) (bA6 15 33) rfl rfl (any_of HT_.out (by kernel_rfl)) (fun _ _ _ h => h) (Or.inl ⟨by rfl, ?_⟩) ?_ ?_; rotate_left; (intro w'; go_simp; with_reducible rfl); rotate_left; (simp only [Act.put, setIfInBounds_toArray, set_cons_zero, set_cons_succ, i64_w, i32_w]; rfl)
                   refine pure_ (i := 15) (N := some 124) (v := ?_) (a' := ?_) (bA6 16 33) rfl rfl (any_of HT_.out (by kernel_rfl)) (fun _ _ _ h => h) (Or.inl ⟨by rfl, ?_⟩) ?_ ?_; rotate_left; (intro w'; go_simp; with_reducible rfl); rotate_left; (simp only [Act.put, setIfInBounds_toArray, set_cons_zero, set_cons_succ, i64_w, i32_w]; rfl)
                   refine pure_ (i := 16) (N := some 125) (v := ?_) (a' := ?_) (bA6 17 33) rfl rfl (any_of HT_.out (by kernel_rfl)) (fun _ _ _ h => h) (Or.inl ⟨by rfl, ?_⟩) ?_ ?_; rotate_left; (intro w'; go_simp; with_reducible rfl); rotate_left; (simp only [Act.put, setIfInBounds_toArray, set_cons_zero, set_cons_succ, i64_w, i32_w]; rfl)
                   refine pure_ (i := 17) (N := some 126) (v := ?_) (a' := ?_) (bA6 18 33) rfl rfl (any_of HT_.out (by kernel_rfl)) (fun _ _ _ h => h) (Or.inl ⟨by rfl, ?_⟩) ?_ ?_; rotate_left; (intro w'; go_simp; with_reducible rfl); rotate_left; (simp only [Act.put, setIfInBounds_toArray, set_cons_zero, set_cons_succ, i64_w, i32_w]; rfl)
                   refine pure_ (i := 18) (N := some 127) (v := ?_) (a' := ?_) (bA6 19 33) rfl rfl (any_of HT_.out (by kernel_rfl)) (fun _ _ _ h => h) (Or.inl ⟨by rfl, ?_⟩) ?_ ?_; rotate_left; (intro w'; go_simp; with_reducible rfl); rotate_left; (simp only [Act.put, setIfInBounds_toArray, set_cons_zero, set_cons_succ, i64_w, i32_w]; rfl)
                   refine pure_ (i := 19) (N := some 128) (v := ?_) (a' := ?_) (bA6 20 33) rfl rfl (any_of HT_.out (by kernel_rfl)) (fun _ _ _ h => h) (Or.inl ⟨by rfl, ?_⟩) ?_ ?_; rotate_left; (intro w'; go_simp; with_reducible rfl); rotate_left; (simp only [Act.put, setIfInBounds_toArray, set_cons_zero, set_cons_succ, i64_w, i32_w]; rfl)
                   refine pure_ (i := 20) (N := some 129) (v := ?_) (a' := ?_) (bA6 21 33) rfl rfl (any_of HT_.out (by kernel_rfl)) (fun _ _ _ h => h) (Or.inl ⟨by rfl, ?_⟩) ?_ ?_; rotate_left; (intro w'; go_simp; with_reducible rfl); rotate_left; (simp only [Act.put, setIfInBounds_toArray, set_cons_zero, set_cons_succ, i64_w, i32_w]; rfl)
                   refine pure_ (i := 21) (N := some 130) (v := ?_) (a' := ?_) (bA6 22 33) rfl rfl (any_of HT_.out (by kernel_rfl)) (fun _ _ _ h => h) (Or.inl ⟨by rfl, ?_⟩) ?_ ?_; rotate_left; (intro w'; go_simp; with_reducible rfl); rotate_left; (simp only [Act.put, setIfInBounds_toArray, set_cons_zero, set_cons_succ, i64_w, i32_w]; rfl)
                   refine pure_ (i := 22) (N := some 131) (v := ?_) (a' := ?_) (bA6 23 33) rfl rfl (any_of HT_.out (by kernel_rfl)) (fun _ _ _ h => h) (Or.inl ⟨by rfl, ?_⟩) ?_ ?_; rotate_left; (intro w'; go_simp; with_reducible rfl); rotate_left; (simp only [Act.put, setIfInBounds_toArray, set_cons_zero, set_cons_succ, i64_w, i32_w]; rfl)
                   refine pure_ (i := 23) (N := some 132) (v := undef) (a' := ?_) (bA6 24 33) rfl rfl (any_of HT_.out (by kernel_rfl)) (fun _ _ _ h => h) (Or.inr ⟨by rfl, rfl⟩) ?_ ?_
                   rotate_left
                   ·simp only [Act.put, setIfInBounds_toArray, set_cons_zero, set_cons_succ, i64_w, i32_w]
                    rfl
                   refine pure_ (i := 24) (N := some 133) (v := undef) (a' := ?_) (bA6 25 33) rfl rfl (any_of HT_.out (by kernel_rfl)) (fun _ _ _ h => h) (Or.inr ⟨by rfl, rfl⟩) ?_ ?_
                   rotate_left
                   ·simp only [Act.put, setIfInBounds_toArray, set_cons_zero, set_cons_succ, i64_w, i32_w]
                    rfl
                   refine pure_ (i := 25) (N := some 134) (v := undef) (a' := ?_) (bA6 26 33) rfl rfl (any_of HT_.out (by kernel_rfl)) (fun _ _ _ h => h) (Or.inr ⟨by rfl, rfl⟩) ?_ ?_
                   rotate_left
                   ·simp only [Act.put, setIfInBounds_toArray, set_cons_zero, set_cons_succ, i64_w, i32_w]
                    rfl
                   refine pure_ (i := 26) (N := some 135) (v := undef) (a' := ?_) (bA6 27 33) rfl rfl (any_of HT_.out (by kernel_rfl)) (fun _ _ _ h => h) (Or.inr ⟨by rfl, rfl⟩) ?_ ?_
                   rotate_left
                   ·simp only [Act.put, setIfInBounds_toArray, set_cons_zero, set_cons_succ, i64_w, i32_w]
                    rfl
                   refine pure_ (i := 27) (N := some 136) (v := undef) (a' := ?_) (bA6 28 33) rfl rfl (any_of HT_.out (by kernel_rfl)) (fun _ _ _ h => h) (Or.inr ⟨by rfl, rfl⟩) ?_ ?_
                   rotate_left
                   ·simp only [Act.put, setIfInBounds_toArray, set_cons_zero, set_cons_succ, i64_w, i32_w]
                    rfl
                   refine pure_ (i := 28) (N := some 137) (v := undef) (a' := ?_) (bA6 29 33) rfl rfl (any_of HT_.out (by kernel_rfl)) (fun _ _ _ h => h) (Or.inr ⟨by rfl, rfl⟩) ?_ ?_
                   rotate_left
                   ·simp only [Act.put, setIfInBounds_toArray, set_cons_zero, set_cons_succ, i64_w, i32_w]
                    rfl
                   refine pure_ (i := 29) (N := some 138) (v := undef) (a' := ?_) (bA6 30 33) rfl rfl (any_of HT_.out (by kernel_rfl)) (fun _ _ _ h => h) (Or.inr ⟨by rfl, rfl⟩) ?_ ?_
                   rotate_left
                   ·simp only [Act.put, setIfInBounds_toArray, set_cons_zero, set_cons_succ, i64_w, i32_w]
                    rfl
                   refine pure_ (i := 30) (N := some 139) (v := undef) (a' := ?_) (bA6 31 33) rfl rfl (any_of HT_.out (by kernel_rfl)) (fun _ _ _ h => h) (Or.inr ⟨by rfl, rfl⟩) ?_ ?_
                   rotate_left
                   ·simp only [Act.put, setIfInBounds_toArray, set_cons_zero, set_cons_succ, i64_w, i32_w]
                    rfl
                   refine pure_ (i := 31) (N := some 140) (v := ?_) (a' := ?_) (bA6 32 33) rfl rfl (any_of HT_.out (by kernel_rfl)) (fun _ _ _ h => h) (Or.inl ⟨by rfl, ?_⟩) ?_ ?_; rotate_left; (intro w'; go_simp; with_reducible rfl); rotate_left; (simp only [Act.put, setIfInBounds_toArray, set_cons_zero, set_cons_succ, i64_w, i32_w]; rfl)
                   refine pure_ (i := 32) (N := some 141) (v := ?_) (a' := ?_) (bA6 33 33) rfl rfl (any_of HT_.out (by kernel_rfl)) (fun _ _ _ h => h) (Or.inl ⟨by rfl, ?_⟩) ?_ ?_; rotate_left; (intro w'; go_simp; with_reducible rfl); rotate_left; (simp only [Act.put, setIfInBounds_toArray, set_cons_zero, set_cons_succ, i64_w, i32_w]; rfl)
                   refine done_ (done_of HT_.out (by kernel_rfl)) ?_
                   try go_wp2
                   go_meet
                   case rel => exact ⟨_, (false), (by first | rfl | (simp; done) | (simp [*]; done)), H', ⟨by have := HJ10.out; have := HK2.out; first | omega | exact Nat.le_refl _⟩, ⟨by (with_reducible repeat (first | apply Kd.R_alloc | apply Kd.R_drewN | apply Kd.R_drew)); exact Kd.R_mono HO_10.out (fun _ hk => hk.2)⟩, ⟨by (with_reducible repeat (first | apply Kd.R_alloc | apply Kd.R_drewN | apply Kd.R_drew)); exact Kd.R_mono HO_76.out (fun _ hk => hk.2)⟩, ⟨by (with_reducible repeat (first | refine kn_ ?_ _ | refine kd_ ?_ | refine ka_ ?_ _)); exact BK395.out⟩, ⟨by repeat (first | (with_reducible first | exact HB.out | apply ba_ | apply bn_ | apply bd_ | refine below_set ?_ GE395.out) | exact HB.out)⟩⟩
                 ·rw [if_neg c41] at H
                  have c41b0 : (t405 == 0) = false := beq_eq_false_iff_ne.mpr c41
                  have c41b1 : (t405 != 0) = true := bne_iff_ne.mpr c41
                  have H' := ak_ H
                  clear H
                  try go_wp2
                  have n0_ := ak_ (Kd.R_drew HO_10.out)
                  have n1_ := ak_ (Kd.R_drew HO_76.out)
                  have n2_ := ak_ (Kd.R_drew HO402.out)
                  have n3_ := ak_ (kd_ BK395.out)
                  have n4_ := ak_ (bd_ HB.out)
                  clear HO_10
                  clear HO_76
                  clear HO402
                  clear BK395
                  clear HB
                  have HO_10 := n0_
                  have HO_76 := n1_
                  have HO402 := n2_
                  have BK395 := n3_
                  have HB := n4_
                  clear n0_ n1_ n2_ n3_ n4_
                  refine start_ (n := 33) (S := fun w' => True) (ds := []) #[false, false, false, false, false, false, false, false, false, false, false, false, false, false, false, false, false, false, false, false, false, false, false, false, false, false, false, false, false, false, false, false, false] (by kernel_rfl) rfl rfl trivial (fun hHeld => ?_); refine with_tabW medlarlaw12_LayerCovers.tab20 medlarlaw12_LayerCovers.bits20 (fun HT_ HW_ => ?_)
                  generalize w36.drew = w50 at HO_10 HO_76 HO402 BK395 HB hHeld ⊢
                  refine pure_ (i := 0) (N := some 109) (v := ?_) (a' := ?_) (bA6 1 33) rfl rfl (any_of HT_.out (by kernel_rfl)) (fun _ _ _ h => h) (Or.inl ⟨by rfl, ?_⟩) ?_ ?_; rotate_left; (intro w'; go_simp; with_reducible rfl); rotate_left; (simp only [Act.put, setIfInBounds_toArray, set_cons_zero, set_cons_succ, i64_w, i32_w]; rfl)
                  refine pure_ (i := 1) (N := some 110) (v := ?_) (a' := ?_) (bA6 2 33) rfl rfl (any_of HT_.out (by kernel_rfl)) (fun _ _ _ h => h) (Or.inl ⟨by rfl, ?_⟩) ?_ ?_; rotate_left; (intro w'; go_simp; with_reducible rfl); rotate_left; (simp only [Act.put, setIfInBounds_toArray, set_cons_zero, set_cons_succ, i64_w, i32_w]; rfl)
                  refine pure_ (i := 2) (N := some 111) (v := ?_) (a' := ?_) (bA6 3 33) rfl rfl (any_of HT_.out (by kernel_rfl)) (fun _ _ _ h => h) (Or.inl ⟨by rfl, ?_⟩) ?_ ?_; rotate_left; (intro w'; go_simp; with_reducible rfl); rotate_left; (simp only [Act.put, setIfInBounds_toArray, set_cons_zero, set_cons_succ, i64_w, i32_w]; rfl)
                  refine pure_ (i := 3) (N := some 112) (v := ?_) (a' := ?_) (bA6 4 33) rfl rfl (any_of HT_.out (by kernel_rfl)) (fun _ _ _ h => h) (Or.inl ⟨by rfl, ?_⟩) ?_ ?_; rotate_left; (intro w'; go_simp; with_reducible rfl); rotate_left; (simp only [Act.put, setIfInBounds_toArray, set_cons_zero, set_cons_succ, i64_w, i32_w]; rfl)
                  refine pure_ (i := 4) (N := some 113) (v := ?_) (a' := ?_) (bA6 5 33) rfl rfl (any_of HT_.out (by kernel_rfl)) (fun _ _ _ h => h) (Or.inl ⟨by rfl, ?_⟩) ?_ ?_; rotate_left; (intro w'; go_simp; with_reducible rfl); rotate_left; (simp only [Act.put, setIfInBounds_toArray, set_cons_zero, set_cons_succ, i64_w, i32_w]; rfl)
                  refine pure_ (i := 5) (N := some 114) (v := ?_) (a' := ?_) (bA6 6 33) rfl rfl (any_of HT_.out (by kernel_rfl)) (fun _ _ _ h => h) (Or.inl ⟨by rfl, ?_⟩) ?_ ?_; rotate_left; (intro w'; go_simp; with_reducible rfl); rotate_left; (simp only [Act.put, setIfInBounds_toArray, set_cons_zero, set_cons_succ, i64_w, i32_w]; rfl)
                  refine pure_ (i := 6) (N := some 115) (v := ?_) (a' := ?_) (bA6 7 33) rfl rfl (any_of HT_.out (by kernel_rfl)) (fun _ _ _ h => h) (Or.inl ⟨by rfl, ?_⟩) ?_ ?_; rotate_left; (intro w'; go_simp; with_reducible rfl); rotate_left; (simp only [Act.put, setIfInBounds_toArray, set_cons_zero, set_cons_succ, i64_w, i32_w]; rfl)
                  refine pure_ (i := 7) (N := some 116) (v := ?_) (a' := ?_) (bA6 8 33) rfl rfl (any_of HT_.out (by kernel_rfl)) (fun _ _ _ h => h) (Or.inl ⟨by rfl, ?_⟩) ?_ ?_; rotate_left; (intro w'; go_simp; with_reducible rfl); rotate_left; (simp only [Act.put, setIfInBounds_toArray, set_cons_zero, set_cons_succ, i64_w, i32_w]; rfl)
                  refine pure_ (i := 8) (N := some 117) (v := ?_) (a' := ?_) (bA6 9 33) rfl rfl (any_of HT_.out (by kernel_rfl)) (fun _ _ _ h => h) (Or.inl ⟨by rfl, ?_⟩) ?_ ?_; rotate_left; (intro w'; go_simp; with_reducible rfl); rotate_left; (simp only [Act.put, setIfInBounds_toArray, set_cons_zero, set_cons_succ, i64_w, i32_w]; rfl)
                  refine pure_ (i := 9) (N := some 118) (v := ?_) (a' := ?_) (bA6 10 33) rfl rfl (any_of HT_.out (by kernel_rfl)) (fun _ _ _ h => h) (Or.inl ⟨by rfl, ?_⟩) ?_ ?_; rotate_left; (intro w'; go_simp; with_reducible rfl); rotate_left; (simp only [Act.put, setIfInBounds_toArray, set_cons_zero, set_cons_succ, i64_w, i32_w]; rfl)
                  refine pure_ (i := 10) (N := some 119) (v := ?_) (a' := ?_) (bA6 11 33) rfl rfl (any_of HT_.out (by kernel_rfl)) (fun _ _ _ h => h) (Or.inl ⟨by rfl, ?_⟩) ?_ ?_; rotate_left; (intro w'; go_simp; with_reducible rfl); rotate_left; (simp only [Act.put, setIfInBounds_toArray, set_cons_zero, set_cons_succ, i64_w, i32_w]; rfl)
                  refine pure_ (i := 11) (N := some 120) (v := ?_) (a' := ?_) (bA6 12 33) rfl rfl (any_of HT_.out (by kernel_rfl)) (fun _ _ _ h => h) (Or.inl ⟨by rfl, ?_⟩) ?_ ?_; rotate_left; (intro w'; go_simp; with_reducible rfl); rotate_left; (simp only [Act.put, setIfInBounds_toArray, set_cons_zero, set_cons_succ, i64_w, i32_w]; rfl)
                  refine pure_ (i := 12) (N := some 121) (v := ?_) (a' := ?_) (bA6 13 33) rfl rfl (any_of HT_.out (by kernel_rfl)) (fun _ _ _ h => h) (Or.inl ⟨by rfl, ?_⟩) ?_ ?_; rotate_left; (intro w'; go_simp; with_reducible rfl); rotate_left; (simp only [Act.put, setIfInBounds_toArray, set_cons_zero, set_cons_succ, i64_w, i32_w]; rfl)
                  refine pure_ (i := 13) (N := some 122) (v := ?_) (a' := ?_) (bA6 14 33) rfl rfl (any_of HT_.out (by kernel_rfl)) (fun _ _ _ h => h) (Or.inl ⟨by rfl, ?_⟩) ?_ ?_; rotate_left; (intro w'; go_simp; with_reducible rfl); rotate_left; (simp only [Act.put, setIfInBounds_toArray, set_cons_zero, set_cons_succ, i64_w, i32_w]; rfl)
                  refine pure_ (i := 14) (N := some 123) (v := ?_) (a' := ?_) (bA6 15 33) rfl rfl (any_of HT_.out (by kernel_rfl)) (fun _ _ _ h => h) (Or.inl ⟨by rfl, ?_⟩) ?_ ?_; rotate_left; (intro w'; go_simp; with_reducible rfl); rotate_left; (simp only [Act.put, setIfInBounds_toArray, set_cons_zero, set_cons_succ, i64_w, i32_w]; rfl)
                  refine pure_ (i := 15) (N := some 124) (v := ?_) (a' := ?_) (bA6 16 33) rfl rfl (any_of HT_.out (by kernel_rfl)) (fun _ _ _ h => h) (Or.inl ⟨by rfl, ?_⟩) ?_ ?_; rotate_left; (intro w'; go_simp; with_reducible rfl); rotate_left; (simp only [Act.put, setIfInBounds_toArray, set_cons_zero, set_cons_succ, i64_w, i32_w]; rfl)
                  refine pure_ (i := 16) (N := some 125) (v := ?_) (a' := ?_) (bA6 17 33) rfl rfl (any_of HT_.out (by kernel_rfl)) (fun _ _ _ h => h) (Or.inl ⟨by rfl, ?_⟩) ?_ ?_; rotate_left; (intro w'; go_simp; with_reducible rfl); rotate_left; (simp only [Act.put, setIfInBounds_toArray, set_cons_zero, set_cons_succ, i64_w, i32_w]; rfl)
                  refine pure_ (i := 17) (N := some 126) (v := ?_) (a' := ?_) (bA6 18 33) rfl rfl (any_of HT_.out (by kernel_rfl)) (fun _ _ _ h => h) (Or.inl ⟨by rfl, ?_⟩) ?_ ?_; rotate_left; (intro w'; go_simp; with_reducible rfl); rotate_left; (simp only [Act.put, setIfInBounds_toArray, set_cons_zero, set_cons_succ, i64_w, i32_w]; rfl)
                  refine pure_ (i := 18) (N := some 127) (v := ?_) (a' := ?_) (bA6 19 33) rfl rfl (any_of HT_.out (by kernel_rfl)) (fun _ _ _ h => h) (Or.inl ⟨by rfl, ?_⟩) ?_ ?_; rotate_left; (intro w'; go_simp; with_reducible rfl); rotate_left; (simp only [Act.put, setIfInBounds_toArray, set_cons_zero, set_cons_succ, i64_w, i32_w]; rfl)
                  refine pure_ (i := 19) (N := some 128) (v := ?_) (a' := ?_) (bA6 20 33) rfl rfl (any_of HT_.out (by kernel_rfl)) (fun _ _ _ h => h) (Or.inl ⟨by rfl, ?_⟩) ?_ ?_; rotate_left; (intro w'; go_simp; with_reducible rfl); rotate_left; (simp only [Act.put, setIfInBounds_toArray, set_cons_zero, set_cons_succ, i64_w, i32_w]; rfl)
                  refine pure_ (i := 20) (N := some 129) (v := undef) (a' := ?_) (bA6 21 33) rfl rfl (any_of HT_.out (by kernel_rfl)) (fun _ _ _ h => h) (Or.inr ⟨by rfl, rfl⟩) ?_ ?_
                  rotate_left
                  ·simp only [Act.put, setIfInBounds_toArray, set_cons_zero, set_cons_succ, i64_w, i32_w]
                   rfl
                  refine pure_ (i := 21) (N := some 130) (v := undef) (a' := ?_) (bA6 22 33) rfl rfl (any_of HT_.out (by kernel_rfl)) (fun _ _ _ h => h) (Or.inr ⟨by rfl, rfl⟩) ?_ ?_
                  rotate_left
                  ·simp only [Act.put, setIfInBounds_toArray, set_cons_zero, set_cons_succ, i64_w, i32_w]
                   rfl
                  refine pure_ (i := 22) (N := some 131) (v := undef) (a' := ?_) (bA6 23 33) rfl rfl (any_of HT_.out (by kernel_rfl)) (fun _ _ _ h => h) (Or.inr ⟨by rfl, rfl⟩) ?_ ?_
                  rotate_left
                  ·simp only [Act.put, setIfInBounds_toArray, set_cons_zero, set_cons_succ, i64_w, i32_w]
                   rfl
                  refine pure_ (i := 23) (N := some 132) (v := undef) (a' := ?_) (bA6 24 33) rfl rfl (any_of HT_.out (by kernel_rfl)) (fun _ _ _ h => h) (Or.inr ⟨by rfl, rfl⟩) ?_ ?_
                  rotate_left
                  ·simp only [Act.put, setIfInBounds_toArray, set_cons_zero, set_cons_succ, i64_w, i32_w]
                   rfl
                  refine pure_ (i := 24) (N := some 133) (v := undef) (a' := ?_) (bA6 25 33) rfl rfl (any_of HT_.out (by kernel_rfl)) (fun _ _ _ h => h) (Or.inr ⟨by rfl, rfl⟩) ?_ ?_
                  rotate_left
                  ·simp only [Act.put, setIfInBounds_toArray, set_cons_zero, set_cons_succ, i64_w, i32_w]
                   rfl
                  refine pure_ (i := 25) (N := some 134) (v := undef) (a' := ?_) (bA6 26 33) rfl rfl (any_of HT_.out (by kernel_rfl)) (fun _ _ _ h => h) (Or.inr ⟨by rfl, rfl⟩) ?_ ?_
                  rotate_left
                  ·simp only [Act.put, setIfInBounds_toArray, set_cons_zero, set_cons_succ, i64_w, i32_w]
                   rfl
                  refine pure_ (i := 26) (N := some 135) (v := undef) (a' := ?_) (bA6 27 33) rfl rfl (any_of HT_.out (by kernel_rfl)) (fun _ _ _ h => h) (Or.inr ⟨by rfl, rfl⟩) ?_ ?_
                  rotate_left
                  ·simp only [Act.put, setIfInBounds_toArray, set_cons_zero, set_cons_succ, i64_w, i32_w]
                   rfl
                  refine pure_ (i := 27) (N := some 136) (v := undef) (a' := ?_) (bA6 28 33) rfl rfl (any_of HT_.out (by kernel_rfl)) (fun _ _ _ h => h) (Or.inr ⟨by rfl, rfl⟩) ?_ ?_
                  rotate_left
                  ·simp only [Act.put, setIfInBounds_toArray, set_cons_zero, set_cons_succ, i64_w, i32_w]
                   rfl
                  refine pure_ (i := 28) (N := some 137) (v := undef) (a' := ?_) (bA6 29 33) rfl rfl (any_of HT_.out (by kernel_rfl)) (fun _ _ _ h => h) (Or.inr ⟨by rfl, rfl⟩) ?_ ?_
                  rotate_left
                  ·simp only [Act.put, setIfInBounds_toArray, set_cons_zero, set_cons_succ, i64_w, i32_w]
                   rfl
                  refine pure_ (i := 29) (N := some 138) (v := undef) (a' := ?_) (bA6 30 33) rfl rfl (any_of HT_.out (by kernel_rfl)) (fun _ _ _ h => h) (Or.inr ⟨by rfl, rfl⟩) ?_ ?_
                  rotate_left
                  ·simp only [Act.put, setIfInBounds_toArray, set_cons_zero, set_cons_succ, i64_w, i32_w]
                   rfl
                  refine pure_ (i := 30) (N := some 139) (v := undef) (a' := ?_) (bA6 31 33) rfl rfl (any_of HT_.out (by kernel_rfl)) (fun _ _ _ h => h) (Or.inr ⟨by rfl, rfl⟩) ?_ ?_
                  rotate_left
                  ·simp only [Act.put, setIfInBounds_toArray, set_cons_zero, set_cons_succ, i64_w, i32_w]
                   rfl
                  refine pure_ (i := 31) (N := some 140) (v := undef) (a' := ?_) (bA6 32 33) rfl rfl (any_of HT_.out (by kernel_rfl)) (fun _ _ _ h => h) (Or.inr ⟨by rfl, rfl⟩) ?_ ?_
                  rotate_left
                  ·simp only [Act.put, setIfInBounds_toArray, set_cons_zero, set_cons_succ, i64_w, i32_w]
                   rfl
                  refine pure_ (i := 32) (N := some 141) (v := ?_) (a' := ?_) (bA6 33 33) rfl rfl (any_of HT_.out (by kernel_rfl)) (fun _ _ _ h => h) (Or.inl ⟨by rfl, ?_⟩) ?_ ?_; rotate_left; (intro w'; go_simp; with_reducible rfl); rotate_left; (simp only [Act.put, setIfInBounds_toArray, set_cons_zero, set_cons_succ, i64_w, i32_w]; rfl)
                  refine done_ (done_of HT_.out (by kernel_rfl)) ?_
                  try go_wp2
                  go_meet
                  case rel => exact ⟨_, (true), (by first | rfl | (simp; done) | (simp [*]; done)), H', ⟨by have := HJ10.out; have := HK2.out; first | omega | exact Nat.le_refl _⟩, ⟨by (with_reducible repeat (first | apply Kd.R_alloc | apply Kd.R_drewN | apply Kd.R_drew)); exact Kd.R_mono HO_10.out (fun _ hk => hk.2)⟩, ⟨by (with_reducible repeat (first | apply Kd.R_alloc | apply Kd.R_drewN | apply Kd.R_drew)); exact Kd.R_mono HO_76.out (fun _ hk => hk.2)⟩, ⟨by (with_reducible repeat (first | refine kn_ ?_ _ | refine kd_ ?_ | refine ka_ ?_ _)); exact BK395.out⟩, ⟨by repeat (first | (with_reducible first | exact HB.out | apply ba_ | apply bn_ | apply bd_ | refine below_set ?_ GE395.out) | exact HB.out)⟩⟩
                ·rw [if_neg c40] at H
                 have c40b0 : (t403 == 0) = false := beq_eq_false_iff_ne.mpr c40
                 have c40b1 : (t403 != 0) = true := bne_iff_ne.mpr c40
                 have H' := ak_ H
                 clear H
                 try go_wp2
                 have n0_ := ak_ (Kd.R_drew HO_10.out)
                 have n1_ := ak_ (Kd.R_drew HO_76.out)
                 have n2_ := ak_ (Kd.R_drew HO402.out)
                 have n3_ := ak_ (kd_ BK395.out)
                 have n4_ := ak_ (bd_ HB.out)
                 clear HO_10
                 clear HO_76
                 clear HO402
                 clear BK395
                 clear HB
                 have HO_10 := n0_
                 have HO_76 := n1_
                 have HO402 := n2_
                 have BK395 := n3_
                 have HB := n4_
                 clear n0_ n1_ n2_ n3_ n4_
                 refine start_ (n := 33) (S := fun w' => True) (ds := []) #[false, false, false, false, false, false, false, false, false, false, false, false, false, false, false, false, false, false, false, false, false, false, false, false, false, false, false, false, false, false, false, false, false] (by kernel_rfl) rfl rfl trivial (fun hHeld => ?_); refine with_tabW medlarlaw12_LayerCovers.tab20 medlarlaw12_LayerCovers.bits20 (fun HT_ HW_ => ?_)
                 generalize w36.drew = w51 at HO_10 HO_76 HO402 BK395 HB hHeld ⊢
                 refine pure_ (i := 0) (N := some 109) (v := ?_) (a' := ?_) (bA6 1 33) rfl rfl (any_of HT_.out (by kernel_rfl)) (fun _ _ _ h => h) (Or.inl ⟨by rfl, ?_⟩) ?_ ?_; rotate_left; (intro w'; go_simp; with_reducible rfl); rotate_left; (simp only [Act.put, setIfInBounds_toArray, set_cons_zero, set_cons_succ, i64_w, i32_w]; rfl)
                 refine pure_ (i := 1) (N := some 110) (v := ?_) (a' := ?_) (bA6 2 33) rfl rfl (any_of HT_.out (by kernel_rfl)) (fun _ _ _ h => h) (Or.inl ⟨by rfl, ?_⟩) ?_ ?_; rotate_left; (intro w'; go_simp; with_reducible rfl); rotate_left; (simp only [Act.put, setIfInBounds_toArray, set_cons_zero, set_cons_succ, i64_w, i32_w]; rfl)
                 refine pure_ (i := 2) (N := some 111) (v := ?_) (a' := ?_) (bA6 3 33) rfl rfl (any_of HT_.out (by kernel_rfl)) (fun _ _ _ h => h) (Or.inl ⟨by rfl, ?_⟩) ?_ ?_; rotate_left; (intro w'; go_simp; with_reducible rfl); rotate_left; (simp only [Act.put, setIfInBounds_toArray, set_cons_zero, set_cons_succ, i64_w, i32_w]; rfl)
                 refine pure_ (i := 3) (N := some 112) (v := ?_) (a' := ?_) (bA6 4 33) rfl rfl (any_of HT_.out (by kernel_rfl)) (fun _ _ _ h => h) (Or.inl ⟨by rfl, ?_⟩) ?_ ?_; rotate_left; (intro w'; go_simp; with_reducible rfl); rotate_left; (simp only [Act.put, setIfInBounds_toArray, set_cons_zero, set_cons_succ, i64_w, i32_w]; rfl)
                 refine pure_ (i := 4) (N := some 113) (v := ?_) (a' := ?_) (bA6 5 33) rfl rfl (any_of HT_.out (by kernel_rfl)) (fun _ _ _ h => h) (Or.inl ⟨by rfl, ?_⟩) ?_ ?_; rotate_left; (intro w'; go_simp; with_reducible rfl); rotate_left; (simp only [Act.put, setIfInBounds_toArray, set_cons_zero, set_cons_succ, i64_w, i32_w]; rfl)
                 refine pure_ (i := 5) (N := some 114) (v := ?_) (a' := ?_) (bA6 6 33) rfl rfl (any_of HT_.out (by kernel_rfl)) (fun _ _ _ h => h) (Or.inl ⟨by rfl, ?_⟩) ?_ ?_; rotate_left; (intro w'; go_simp; with_reducible rfl); rotate_left; (simp only [Act.put, setIfInBounds_toArray, set_cons_zero, set_cons_succ, i64_w, i32_w]; rfl)
                 refine pure_ (i := 6) (N := some 115) (v := ?_) (a' := ?_) (bA6 7 33) rfl rfl (any_of HT_.out (by kernel_rfl)) (fun _ _ _ h => h) (Or.inl ⟨by rfl, ?_⟩) ?_ ?_; rotate_left; (intro w'; go_simp; with_reducible rfl); rotate_left; (simp only [Act.put, setIfInBounds_toArray, set_cons_zero, set_cons_succ, i64_w, i32_w]; rfl)
                 refine pure_ (i := 7) (N := some 116) (v := ?_) (a' := ?_) (bA6 8 33) rfl rfl (any_of HT_.out (by kernel_rfl)) (fun _ _ _ h => h) (Or.inl ⟨by rfl, ?_⟩) ?_ ?_; rotate_left; (intro w'; go_simp; with_reducible rfl); rotate_left; (simp only [Act.put, setIfInBounds_toArray, set_cons_zero, set_cons_succ, i64_w, i32_w]; rfl)
                 refine pure_ (i := 8) (N := some 117) (v := ?_) (a' := ?_) (bA6 9 33) rfl rfl (any_of HT_.out (by kernel_rfl)) (fun _ _ _ h => h) (Or.inl ⟨by rfl, ?_⟩) ?_ ?_; rotate_left; (intro w'; go_simp; with_reducible rfl); rotate_left; (simp only [Act.put, setIfInBounds_toArray, set_cons_zero, set_cons_succ, i64_w, i32_w]; rfl)
                 refine pure_ (i := 9) (N := some 118) (v := ?_) (a' := ?_) (bA6 10 33) rfl rfl (any_of HT_.out (by kernel_rfl)) (fun _ _ _ h => h) (Or.inl ⟨by rfl, ?_⟩) ?_ ?_; rotate_left; (intro w'; go_simp; with_reducible rfl); rotate_left; (simp only [Act.put, setIfInBounds_toArray, set_cons_zero, set_cons_succ, i64_w, i32_w]; rfl)
                 refine pure_ (i := 10) (N := some 119) (v := ?_) (a' := ?_) (bA6 11 33) rfl rfl (any_of HT_.out (by kernel_rfl)) (fun _ _ _ h => h) (Or.inl ⟨by rfl, ?_⟩) ?_ ?_; rotate_left; (intro w'; go_simp; with_reducible rfl); rotate_left; (simp only [Act.put, setIfInBounds_toArray, set_cons_zero, set_cons_succ, i64_w, i32_w]; rfl)
                 refine pure_ (i := 11) (N := some 120) (v := ?_) (a' := ?_) (bA6 12 33) rfl rfl (any_of HT_.out (by kernel_rfl)) (fun _ _ _ h => h) (Or.inl ⟨by rfl, ?_⟩) ?_ ?_; rotate_left; (intro w'; go_simp; with_reducible rfl); rotate_left; (simp only [Act.put, setIfInBounds_toArray, set_cons_zero, set_cons_succ, i64_w, i32_w]; rfl)
                 refine pure_ (i := 12) (N := some 121) (v := ?_) (a' := ?_) (bA6 13 33) rfl rfl (any_of HT_.out (by kernel_rfl)) (fun _ _ _ h => h) (Or.inl ⟨by rfl, ?_⟩) ?_ ?_; rotate_left; (intro w'; go_simp; with_reducible rfl); rotate_left; (simp only [Act.put, setIfInBounds_toArray, set_cons_zero, set_cons_succ, i64_w, i32_w]; rfl)
                 refine pure_ (i := 13) (N := some 122) (v := ?_) (a' := ?_) (bA6 14 33) rfl rfl (any_of HT_.out (by kernel_rfl)) (fun _ _ _ h => h) (Or.inl ⟨by rfl, ?_⟩) ?_ ?_; rotate_left; (intro w'; go_simp; with_reducible rfl); rotate_left; (simp only [Act.put, setIfInBounds_toArray, set_cons_zero, set_cons_succ, i64_w, i32_w]; rfl)
                 refine pure_ (i := 14) (N := some 123) (v := ?_) (a' := ?_) (bA6 15 33) rfl rfl (any_of HT_.out (by kernel_rfl)) (fun _ _ _ h => h) (Or.inl ⟨by rfl, ?_⟩) ?_ ?_; rotate_left; (intro w'; go_simp; with_reducible rfl); rotate_left; (simp only [Act.put, setIfInBounds_toArray, set_cons_zero, set_cons_succ, i64_w, i32_w]; rfl)
                 refine pure_ (i := 15) (N := some 124) (v := ?_) (a' := ?_) (bA6 16 33) rfl rfl (any_of HT_.out (by kernel_rfl)) (fun _ _ _ h => h) (Or.inl ⟨by rfl, ?_⟩) ?_ ?_; rotate_left; (intro w'; go_simp; with_reducible rfl); rotate_left; (simp only [Act.put, setIfInBounds_toArray, set_cons_zero, set_cons_succ, i64_w, i32_w]; rfl)
                 refine pure_ (i := 16) (N := some 125) (v := undef) (a' := ?_) (bA6 17 33) rfl rfl (any_of HT_.out (by kernel_rfl)) (fun _ _ _ h => h) (Or.inr ⟨by rfl, rfl⟩) ?_ ?_
                 rotate_left
                 ·simp only [Act.put, setIfInBounds_toArray, set_cons_zero, set_cons_succ, i64_w, i32_w]
                  rfl
                 refine pure_ (i := 17) (N := some 126) (v := undef) (a' := ?_) (bA6 18 33) rfl rfl (any_of HT_.out (by kernel_rfl)) (fun _ _ _ h => h) (Or.inr ⟨by rfl, rfl⟩) ?_ ?_
                 rotate_left
                 ·simp only [Act.put, setIfInBounds_toArray, set_cons_zero, set_cons_succ, i64_w, i32_w]
                  rfl
                 refine pure_ (i := 18) (N := some 127) (v := ?_) (a' := ?_) (bA6 19 33) rfl rfl (any_of HT_.out (by kernel_rfl)) (fun _ _ _ h => h) (Or.inl ⟨by rfl, ?_⟩) ?_ ?_; rotate_left; (intro w'; go_simp; with_reducible rfl); rotate_left; (simp only [Act.put, setIfInBounds_toArray, set_cons_zero, set_cons_succ, i64_w, i32_w]; rfl)
                 refine pure_ (i := 19) (N := some 128) (v := ?_) (a' := ?_) (bA6 20 33) rfl rfl (any_of HT_.out (by kernel_rfl)) (fun _ _ _ h => h) (Or.inl ⟨by rfl, ?_⟩) ?_ ?_; rotate_left; (intro w'; go_simp; with_reducible rfl); rotate_left; (simp only [Act.put, setIfInBounds_toArray, set_cons_zero, set_cons_succ, i64_w, i32_w]; rfl)
                 refine pure_ (i := 20) (N := some 129) (v := undef) (a' := ?_) (bA6 21 33) rfl rfl (any_of HT_.out (by kernel_rfl)) (fun _ _ _ h => h) (Or.inr ⟨by rfl, rfl⟩) ?_ ?_
                 rotate_left
                 ·simp only [Act.put, setIfInBounds_toArray, set_cons_zero, set_cons_succ, i64_w, i32_w]
                  rfl
                 refine pure_ (i := 21) (N := some 130) (v := undef) (a' := ?_) (bA6 22 33) rfl rfl (any_of HT_.out (by kernel_rfl)) (fun _ _ _ h => h) (Or.inr ⟨by rfl, rfl⟩) ?_ ?_
                 rotate_left
                 ·simp only [Act.put, setIfInBounds_toArray, set_cons_zero, set_cons_succ, i64_w, i32_w]
                  rfl
                 refine pure_ (i := 22) (N := some 131) (v := undef) (a' := ?_) (bA6 23 33) rfl rfl (any_of HT_.out (by kernel_rfl)) (fun _ _ _ h => h) (Or.inr ⟨by rfl, rfl⟩) ?_ ?_
                 rotate_left
                 ·simp only [Act.put, setIfInBounds_toArray, set_cons_zero, set_cons_succ, i64_w, i32_w]
                  rfl
                 refine pure_ (i := 23) (N := some 132) (v := undef) (a' := ?_) (bA6 24 33) rfl rfl (any_of HT_.out (by kernel_rfl)) (fun _ _ _ h => h) (Or.inr ⟨by rfl, rfl⟩) ?_ ?_
                 rotate_left
                 ·simp only [Act.put, setIfInBounds_toArray, set_cons_zero, set_cons_succ, i64_w, i32_w]
                  rfl
                 refine pure_ (i := 24) (N := some 133) (v := undef) (a' := ?_) (bA6 25 33) rfl rfl (any_of HT_.out (by kernel_rfl)) (fun _ _ _ h => h) (Or.inr ⟨by rfl, rfl⟩) ?_ ?_
                 rotate_left
                 ·simp only [Act.put, setIfInBounds_toArray, set_cons_zero, set_cons_succ, i64_w, i32_w]
                  rfl
                 refine pure_ (i := 25) (N := some 134) (v := undef) (a' := ?_) (bA6 26 33) rfl rfl (any_of HT_.out (by kernel_rfl)) (fun _ _ _ h => h) (Or.inr ⟨by rfl, rfl⟩) ?_ ?_
                 rotate_left
                 ·simp only [Act.put, setIfInBounds_toArray, set_cons_zero, set_cons_succ, i64_w, i32_w]
                  rfl
                 refine pure_ (i := 26) (N := some 135) (v := undef) (a' := ?_) (bA6 27 33) rfl rfl (any_of HT_.out (by kernel_rfl)) (fun _ _ _ h => h) (Or.inr ⟨by rfl, rfl⟩) ?_ ?_
                 rotate_left
                 ·simp only [Act.put, setIfInBounds_toArray, set_cons_zero, set_cons_succ, i64_w, i32_w]
                  rfl
                 refine pure_ (i := 27) (N := some 136) (v := undef) (a' := ?_) (bA6 28 33) rfl rfl (any_of HT_.out (by kernel_rfl)) (fun _ _ _ h => h) (Or.inr ⟨by rfl, rfl⟩) ?_ ?_
                 rotate_left
                 ·simp only [Act.put, setIfInBounds_toArray, set_cons_zero, set_cons_succ, i64_w, i32_w]
                  rfl
                 refine pure_ (i := 28) (N := some 137) (v := undef) (a' := ?_) (bA6 29 33) rfl rfl (any_of HT_.out (by kernel_rfl)) (fun _ _ _ h => h) (Or.inr ⟨by rfl, rfl⟩) ?_ ?_
                 rotate_left
                 ·simp only [Act.put, setIfInBounds_toArray, set_cons_zero, set_cons_succ, i64_w, i32_w]
                  rfl
                 refine pure_ (i := 29) (N := some 138) (v := undef) (a' := ?_) (bA6 30 33) rfl rfl (any_of HT_.out (by kernel_rfl)) (fun _ _ _ h => h) (Or.inr ⟨by rfl, rfl⟩) ?_ ?_
                 rotate_left
                 ·simp only [Act.put, setIfInBounds_toArray, set_cons_zero, set_cons_succ, i64_w, i32_w]
                  rfl
                 refine pure_ (i := 30) (N := some 139) (v := undef) (a' := ?_) (bA6 31 33) rfl rfl (any_of HT_.out (by kernel_rfl)) (fun _ _ _ h => h) (Or.inr ⟨by rfl, rfl⟩) ?_ ?_
                 rotate_left
                 ·simp only [Act.put, setIfInBounds_toArray, set_cons_zero, set_cons_succ, i64_w, i32_w]
                  rfl
                 refine pure_ (i := 31) (N := some 140) (v := undef) (a' := ?_) (bA6 32 33) rfl rfl (any_of HT_.out (by kernel_rfl)) (fun _ _ _ h => h) (Or.inr ⟨by rfl, rfl⟩) ?_ ?_
                 rotate_left
                 ·simp only [Act.put, setIfInBounds_toArray, set_cons_zero, set_cons_succ, i64_w, i32_w]
                  rfl
                 refine pure_ (i := 32) (N := some 141) (v := ?_) (a' := ?_) (bA6 33 33) rfl rfl (any_of HT_.out (by kernel_rfl)) (fun _ _ _ h => h) (Or.inl ⟨by rfl, ?_⟩) ?_ ?_; rotate_left; (intro w'; go_simp; with_reducible rfl); rotate_left; (simp only [Act.put, setIfInBounds_toArray, set_cons_zero, set_cons_succ, i64_w, i32_w]; rfl)
                 refine done_ (done_of HT_.out (by kernel_rfl)) ?_
                 try go_wp2
                 go_meet
                 case rel => exact ⟨_, (true), (by first | rfl | (simp; done) | (simp [*]; done)), H', ⟨by have := HJ10.out; have := HK2.out; first | omega | exact Nat.le_refl _⟩, ⟨by (with_reducible repeat (first | apply Kd.R_alloc | apply Kd.R_drewN | apply Kd.R_drew)); exact Kd.R_mono HO_10.out (fun _ hk => hk.2)⟩, ⟨by (with_reducible repeat (first | apply Kd.R_alloc | apply Kd.R_drewN | apply Kd.R_drew)); exact Kd.R_mono HO_76.out (fun _ hk => hk.2)⟩, ⟨by (with_reducible repeat (first | refine kn_ ?_ _ | refine kd_ ?_ | refine ka_ ?_ _)); exact BK395.out⟩, ⟨by repeat (first | (with_reducible first | exact HB.out | apply ba_ | apply bn_ | apply bd_ | refine below_set ?_ GE395.out) | exact HB.out)⟩⟩
               ·replace c39 := Bool.eq_false_iff.mpr c39
                subst c39
                have H1 : (medlarlaw12_LayerCovers.j2 k2 a0 a1 l2 a3 t385 t386 x14_2 t392 t393 x17_2 t396 t404 t386 (t386.length : Int) x78_2 true) = some r := by rw [if_neg (show ¬ (false = true) by decide)] at H; exact H
                clear H
                have H := H1
                clear H1
                have H' := ak_ H
                clear H
                try go_wp2
                have n0_ := ak_ (Kd.R_drew HO_10.out)
                have n1_ := ak_ (Kd.R_drew HO_76.out)
                have n2_ := ak_ (Kd.R_drew HO402.out)
                have n3_ := ak_ (kd_ BK395.out)
                have n4_ := ak_ (bd_ HB.out)
                clear HO_10
                clear HO_76
                clear HO402
                clear BK395
                clear HB
                have HO_10 := n0_
                have HO_76 := n1_
                have HO402 := n2_
                have BK395 := n3_
                have HB := n4_
                clear n0_ n1_ n2_ n3_ n4_
                refine start_ (n := 33) (S := fun w' => True) (ds := []) #[false, false, false, false, false, false, false, false, false, false, false, false, false, false, false, false, false, false, false, false, false, false, false, false, false, false, false, false, false, false, false, false, false] (by kernel_rfl) rfl rfl trivial (fun hHeld => ?_); refine with_tabW medlarlaw12_LayerCovers.tab20 medlarlaw12_LayerCovers.bits20 (fun HT_ HW_ => ?_)
                generalize w36.drew = w52 at HO_10 HO_76 HO402 BK395 HB hHeld ⊢
                refine pure_ (i := 0) (N := some 109) (v := ?_) (a' := ?_) (bA6 1 33) rfl rfl (any_of HT_.out (by kernel_rfl)) (fun _ _ _ h => h) (Or.inl ⟨by rfl, ?_⟩) ?_ ?_; rotate_left; (intro w'; go_simp; with_reducible rfl); rotate_left; (simp only [Act.put, setIfInBounds_toArray, set_cons_zero, set_cons_succ, i64_w, i32_w]; rfl)
                refine pure_ (i := 1) (N := some 110) (v := ?_) (a' := ?_) (bA6 2 33) rfl rfl (any_of HT_.out (by kernel_rfl)) (fun _ _ _ h => h) (Or.inl ⟨by rfl, ?_⟩) ?_ ?_; rotate_left; (intro w'; go_simp; with_reducible rfl); rotate_left; (simp only [Act.put, setIfInBounds_toArray, set_cons_zero, set_cons_succ, i64_w, i32_w]; rfl)
                refine pure_ (i := 2) (N := some 111) (v := ?_) (a' := ?_) (bA6 3 33) rfl rfl (any_of HT_.out (by kernel_rfl)) (fun _ _ _ h => h) (Or.inl ⟨by rfl, ?_⟩) ?_ ?_; rotate_left; (intro w'; go_simp; with_reducible rfl); rotate_left; (simp only [Act.put, setIfInBounds_toArray, set_cons_zero, set_cons_succ, i64_w, i32_w]; rfl)
                refine pure_ (i := 3) (N := some 112) (v := ?_) (a' := ?_) (bA6 4 33) rfl rfl (any_of HT_.out (by kernel_rfl)) (fun _ _ _ h => h) (Or.inl ⟨by rfl, ?_⟩) ?_ ?_; rotate_left; (intro w'; go_simp; with_reducible rfl); rotate_left; (simp only [Act.put, setIfInBounds_toArray, set_cons_zero, set_cons_succ, i64_w, i32_w]; rfl)
                refine pure_ (i := 4) (N := some 113) (v := ?_) (a' := ?_) (bA6 5 33) rfl rfl (any_of HT_.out (by kernel_rfl)) (fun _ _ _ h => h) (Or.inl ⟨by rfl, ?_⟩) ?_ ?_; rotate_left; (intro w'; go_simp; with_reducible rfl); rotate_left; (simp only [Act.put, setIfInBounds_toArray, set_cons_zero, set_cons_succ, i64_w, i32_w]; rfl)
                refine pure_ (i := 5) (N := some 114) (v := ?_) (a' := ?_) (bA6 6 33) rfl rfl (any_of HT_.out (by kernel_rfl)) (fun _ _ _ h => h) (Or.inl ⟨by rfl, ?_⟩) ?_ ?_; rotate_left; (intro w'; go_simp; with_reducible rfl); rotate_left; (simp only [Act.put, setIfInBounds_toArray, set_cons_zero, set_cons_succ, i64_w, i32_w]; rfl)
                refine pure_ (i := 6) (N := some 115) (v := ?_) (a' := ?_) (bA6 7 33) rfl rfl (any_of HT_.out (by kernel_rfl)) (fun _ _ _ h => h) (Or.inl ⟨by rfl, ?_⟩) ?_ ?_; rotate_left; (intro w'; go_simp; with_reducible rfl); rotate_left; (simp only [Act.put, setIfInBounds_toArray, set_cons_zero, set_cons_succ, i64_w, i32_w]; rfl)
                refine pure_ (i := 7) (N := some 116) (v := ?_) (a' := ?_) (bA6 8 33) rfl rfl (any_of HT_.out (by kernel_rfl)) (fun _ _ _ h => h) (Or.inl ⟨by rfl, ?_⟩) ?_ ?_; rotate_left; (intro w'; go_simp; with_reducible rfl); rotate_left; (simp only [Act.put, setIfInBounds_toArray, set_cons_zero, set_cons_succ, i64_w, i32_w]; rfl)
                refine pure_ (i := 8) (N := some 117) (v := ?_) (a' := ?_) (bA6 9 33) rfl rfl (any_of HT_.out (by kernel_rfl)) (fun _ _ _ h => h) (Or.inl ⟨by rfl, ?_⟩) ?_ ?_; rotate_left; (intro w'; go_simp; with_reducible rfl); rotate_left; (simp only [Act.put, setIfInBounds_toArray, set_cons_zero, set_cons_succ, i64_w, i32_w]; rfl)
                refine pure_ (i := 9) (N := some 118) (v := ?_) (a' := ?_) (bA6 10 33) rfl rfl (any_of HT_.out (by kernel_rfl)) (fun _ _ _ h => h) (Or.inl ⟨by rfl, ?_⟩) ?_ ?_; rotate_left; (intro w'; go_simp; with_reducible rfl); rotate_left; (simp only [Act.put, setIfInBounds_toArray, set_cons_zero, set_cons_succ, i64_w, i32_w]; rfl)
                refine pure_ (i := 10) (N := some 119) (v := ?_) (a' := ?_) (bA6 11 33) rfl rfl (any_of HT_.out (by kernel_rfl)) (fun _ _ _ h => h) (Or.inl ⟨by rfl, ?_⟩) ?_ ?_; rotate_left; (intro w'; go_simp; with_reducible rfl); rotate_left; (simp only [Act.put, setIfInBounds_toArray, set_cons_zero, set_cons_succ, i64_w, i32_w]; rfl)
                refine pure_ (i := 11) (N := some 120) (v := ?_) (a' := ?_) (bA6 12 33) rfl rfl (any_of HT_.out (by kernel_rfl)) (fun _ _ _ h => h) (Or.inl ⟨by rfl, ?_⟩) ?_ ?_; rotate_left; (intro w'; go_simp; with_reducible rfl); rotate_left; (simp only [Act.put, setIfInBounds_toArray, set_cons_zero, set_cons_succ, i64_w, i32_w]; rfl)
                refine pure_ (i := 12) (N := some 121) (v := undef) (a' := ?_) (bA6 13 33) rfl rfl (any_of HT_.out (by kernel_rfl)) (fun _ _ _ h => h) (Or.inr ⟨by rfl, rfl⟩) ?_ ?_
                rotate_left
                ·simp only [Act.put, setIfInBounds_toArray, set_cons_zero, set_cons_succ, i64_w, i32_w]
                 rfl
                refine pure_ (i := 13) (N := some 122) (v := undef) (a' := ?_) (bA6 14 33) rfl rfl (any_of HT_.out (by kernel_rfl)) (fun _ _ _ h => h) (Or.inr ⟨by rfl, rfl⟩) ?_ ?_
                rotate_left
                ·simp only [Act.put, setIfInBounds_toArray, set_cons_zero, set_cons_succ, i64_w, i32_w]
                 rfl
                refine pure_ (i := 14) (N := some 123) (v := ?_) (a' := ?_) (bA6 15 33) rfl rfl (any_of HT_.out (by kernel_rfl)) (fun _ _ _ h => h) (Or.inl ⟨by rfl, ?_⟩) ?_ ?_; rotate_left; (intro w'; go_simp; with_reducible rfl); rotate_left; (simp only [Act.put, setIfInBounds_toArray, set_cons_zero, set_cons_succ, i64_w, i32_w]; rfl)
                refine pure_ (i := 15) (N := some 124) (v := ?_) (a' := ?_) (bA6 16 33) rfl rfl (any_of HT_.out (by kernel_rfl)) (fun _ _ _ h => h) (Or.inl ⟨by rfl, ?_⟩) ?_ ?_; rotate_left; (intro w'; go_simp; with_reducible rfl); rotate_left; (simp only [Act.put, setIfInBounds_toArray, set_cons_zero, set_cons_succ, i64_w, i32_w]; rfl)
                refine pure_ (i := 16) (N := some 125) (v := undef) (a' := ?_) (bA6 17 33) rfl rfl (any_of HT_.out (by kernel_rfl)) (fun _ _ _ h => h) (Or.inr ⟨by rfl, rfl⟩) ?_ ?_
                rotate_left
                ·simp only [Act.put, setIfInBounds_toArray, set_cons_zero, set_cons_succ, i64_w, i32_w]
                 rfl
                refine pure_ (i := 17) (N := some 126) (v := undef) (a' := ?_) (bA6 18 33) rfl rfl (any_of HT_.out (by kernel_rfl)) (fun _ _ _ h => h) (Or.inr ⟨by rfl, rfl⟩) ?_ ?_
                rotate_left
                ·simp only [Act.put, setIfInBounds_toArray, set_cons_zero, set_cons_succ, i64_w, i32_w]
                 rfl
                refine pure_ (i := 18) (N := some 127) (v := ?_) (a' := ?_) (bA6 19 33) rfl rfl (any_of HT_.out (by kernel_rfl)) (fun _ _ _ h => h) (Or.inl ⟨by rfl, ?_⟩) ?_ ?_; rotate_left; (intro w'; go_simp; with_reducible rfl); rotate_left; (simp only [Act.put, setIfInBounds_toArray, set_cons_zero, set_cons_succ, i64_w, i32_w]; rfl)
                refine pure_ (i := 19) (N := some 128) (v := ?_) (a' := ?_) (bA6 20 33) rfl rfl (any_of HT_.out (by kernel_rfl)) (fun _ _ _ h => h) (Or.inl ⟨by rfl, ?_⟩) ?_ ?_; rotate_left; (intro w'; go_simp; with_reducible rfl); rotate_left; (simp only [Act.put, setIfInBounds_toArray, set_cons_zero, set_cons_succ, i64_w, i32_w]; rfl)
                refine pure_ (i := 20) (N := some 129) (v := undef) (a' := ?_) (bA6 21 33) rfl rfl (any_of HT_.out (by kernel_rfl)) (fun _ _ _ h => h) (Or.inr ⟨by rfl, rfl⟩) ?_ ?_
                rotate_left
                ·simp only [Act.put, setIfInBounds_toArray, set_cons_zero, set_cons_succ, i64_w, i32_w]
                 rfl
                refine pure_ (i := 21) (N := some 130) (v := undef) (a' := ?_) (bA6 22 33) rfl rfl (any_of HT_.out (by kernel_rfl)) (fun _ _ _ h => h) (Or.inr ⟨by rfl, rfl⟩) ?_ ?_
                rotate_left
                ·simp only [Act.put, setIfInBounds_toArray, set_cons_zero, set_cons_succ, i64_w, i32_w]
                 rfl
                refine pure_ (i := 22) (N := some 131) (v := undef) (a' := ?_) (bA6 23 33) rfl rfl (any_of HT_.out (by kernel_rfl)) (fun _ _ _ h => h) (Or.inr ⟨by rfl, rfl⟩) ?_ ?_
                rotate_left
                ·simp only [Act.put, setIfInBounds_toArray, set_cons_zero, set_cons_succ, i64_w, i32_w]
                 rfl
                refine pure_ (i := 23) (N := some 132) (v := undef) (a' := ?_) (bA6 24 33) rfl rfl (any_of HT_.out (by kernel_rfl)) (fun _ _ _ h => h) (Or.inr ⟨by rfl, rfl⟩) ?_ ?_
                rotate_left
                ·simp only [Act.put, setIfInBounds_toArray, set_cons_zero, set_cons_succ, i64_w, i32_w]
                 rfl
                refine pure_ (i := 24) (N := some 133) (v := undef) (a' := ?_) (bA6 25 33) rfl rfl (any_of HT_.out (by kernel_rfl)) (fun _ _ _ h => h) (Or.inr ⟨by rfl, rfl⟩) ?_ ?_
                rotate_left
                ·simp only [Act.put, setIfInBounds_toArray, set_cons_zero, set_cons_succ, i64_w, i32_w]
                 rfl
                refine pure_ (i := 25) (N := some 134) (v := undef) (a' := ?_) (bA6 26 33) rfl rfl (any_of HT_.out (by kernel_rfl)) (fun _ _ _ h => h) (Or.inr ⟨by rfl, rfl⟩) ?_ ?_
                rotate_left
                ·simp only [Act.put, setIfInBounds_toArray, set_cons_zero, set_cons_succ, i64_w, i32_w]
                 rfl
                refine pure_ (i := 26) (N := some 135) (v := undef) (a' := ?_) (bA6 27 33) rfl rfl (any_of HT_.out (by kernel_rfl)) (fun _ _ _ h => h) (Or.inr ⟨by rfl, rfl⟩) ?_ ?_
                rotate_left
                ·simp only [Act.put, setIfInBounds_toArray, set_cons_zero, set_cons_succ, i64_w, i32_w]
                 rfl
                refine pure_ (i := 27) (N := some 136) (v := undef) (a' := ?_) (bA6 28 33) rfl rfl (any_of HT_.out (by kernel_rfl)) (fun _ _ _ h => h) (Or.inr ⟨by rfl, rfl⟩) ?_ ?_
                rotate_left
                ·simp only [Act.put, setIfInBounds_toArray, set_cons_zero, set_cons_succ, i64_w, i32_w]
                 rfl
                refine pure_ (i := 28) (N := some 137) (v := undef) (a' := ?_) (bA6 29 33) rfl rfl (any_of HT_.out (by kernel_rfl)) (fun _ _ _ h => h) (Or.inr ⟨by rfl, rfl⟩) ?_ ?_
                rotate_left
                ·simp only [Act.put, setIfInBounds_toArray, set_cons_zero, set_cons_succ, i64_w, i32_w]
                 rfl
                refine pure_ (i := 29) (N := some 138) (v := undef) (a' := ?_) (bA6 30 33) rfl rfl (any_of HT_.out (by kernel_rfl)) (fun _ _ _ h => h) (Or.inr ⟨by rfl, rfl⟩) ?_ ?_
                rotate_left
                ·simp only [Act.put, setIfInBounds_toArray, set_cons_zero, set_cons_succ, i64_w, i32_w]
                 rfl
                refine pure_ (i := 30) (N := some 139) (v := undef) (a' := ?_) (bA6 31 33) rfl rfl (any_of HT_.out (by kernel_rfl)) (fun _ _ _ h => h) (Or.inr ⟨by rfl, rfl⟩) ?_ ?_
                rotate_left
                ·simp only [Act.put, setIfInBounds_toArray, set_cons_zero, set_cons_succ, i64_w, i32_w]
                 rfl
                refine pure_ (i := 31) (N := some 140) (v := undef) (a' := ?_) (bA6 32 33) rfl rfl (any_of HT_.out (by kernel_rfl)) (fun _ _ _ h => h) (Or.inr ⟨by rfl, rfl⟩) ?_ ?_
                rotate_left
                ·simp only [Act.put, setIfInBounds_toArray, set_cons_zero, set_cons_succ, i64_w, i32_w]
                 rfl
                refine pure_ (i := 32) (N := some 141) (v := ?_) (a' := ?_) (bA6 33 33) rfl rfl (any_of HT_.out (by kernel_rfl)) (fun _ _ _ h => h) (Or.inl ⟨by rfl, ?_⟩) ?_ ?_; rotate_left; (intro w'; go_simp; with_reducible rfl); rotate_left; (simp only [Act.put, setIfInBounds_toArray, set_cons_zero, set_cons_succ, i64_w, i32_w]; rfl)
                refine done_ (done_of HT_.out (by kernel_rfl)) ?_
                try go_wp2
                go_meet
                case rel => exact ⟨_, (true), (by first | rfl | (simp; done) | (simp [*]; done)), H', ⟨by have := HJ10.out; have := HK2.out; first | omega | exact Nat.le_refl _⟩, ⟨by (with_reducible repeat (first | apply Kd.R_alloc | apply Kd.R_drewN | apply Kd.R_drew)); exact Kd.R_mono HO_10.out (fun _ hk => hk.2)⟩, ⟨by (with_reducible repeat (first | apply Kd.R_alloc | apply Kd.R_drewN | apply Kd.R_drew)); exact Kd.R_mono HO_76.out (fun _ hk => hk.2)⟩, ⟨by (with_reducible repeat (first | refine kn_ ?_ _ | refine kd_ ?_ | refine ka_ ?_ _)); exact BK395.out⟩, ⟨by repeat (first | (with_reducible first | exact HB.out | apply ba_ | apply bn_ | apply bd_ | refine below_set ?_ GE395.out) | exact HB.out)⟩⟩
              ·rw [if_neg c38] at H
               have c38b0 : (t399 == 0) = false := beq_eq_false_iff_ne.mpr c38
               have c38b1 : (t399 != 0) = true := bne_iff_ne.mpr c38
               have H' := ak_ H
               clear H
               try go_wp2
               have n0_ := ak_ (Kd.R_drew HO_10.out)
               have n1_ := ak_ (Kd.R_drew HO_76.out)
               have n2_ := ak_ (Kd.R_drew HO402.out)
               have n3_ := ak_ (kd_ BK395.out)
               have n4_ := ak_ (bd_ HB.out)
               clear HO_10
               clear HO_76
               clear HO402
               clear BK395
               clear HB
               have HO_10 := n0_
               have HO_76 := n1_
               have HO402 := n2_
               have BK395 := n3_
               have HB := n4_
               clear n0_ n1_ n2_ n3_ n4_
               refine start_ (n := 33) (S := fun w' => True) (ds := []) #[false, false, false, false, false, false, false, false, false, false, false, false, false, false, false, false, false, false, false, false, false, false, false, false, false, false, false, false, false, false, false, false, false] (by kernel_rfl) rfl rfl trivial (fun hHeld => ?_); refine with_tabW medlarlaw12_LayerCovers.tab20 medlarlaw12_LayerCovers.bits20 (fun HT_ HW_ => ?_)
               generalize w36.drew = w53 at HO_10 HO_76 HO402 BK395 HB hHeld ⊢
               refine pure_ (i := 0) (N := some 109) (v := ?_) (a' := ?_) (bA6 1 33) rfl rfl (any_of HT_.out (by kernel_rfl)) (fun _ _ _ h => h) (Or.inl ⟨by rfl, ?_⟩) ?_ ?_; rotate_left; (intro w'; go_simp; with_reducible rfl); rotate_left; (simp only [Act.put, setIfInBounds_toArray, set_cons_zero, set_cons_succ, i64_w, i32_w]; rfl)
               refine pure_ (i := 1) (N := some 110) (v := ?_) (a' := ?_) (bA6 2 33) rfl rfl (any_of HT_.out (by kernel_rfl)) (fun _ _ _ h => h) (Or.inl ⟨by rfl, ?_⟩) ?_ ?_; rotate_left; (intro w'; go_simp; with_reducible rfl); rotate_left; (simp only [Act.put, setIfInBounds_toArray, set_cons_zero, set_cons_succ, i64_w, i32_w]; rfl)
               refine pure_ (i := 2) (N := some 111) (v := ?_) (a' := ?_) (bA6 3 33) rfl rfl (any_of HT_.out (by kernel_rfl)) (fun _ _ _ h => h) (Or.inl ⟨by rfl, ?_⟩) ?_ ?_; rotate_left; (intro w'; go_simp; with_reducible rfl); rotate_left; (simp only [Act.put, setIfInBounds_toArray, set_cons_zero, set_cons_succ, i64_w, i32_w]; rfl)
               refine pure_ (i := 3) (N := some 112) (v := ?_) (a' := ?_) (bA6 4 33) rfl rfl (any_of HT_.out (by kernel_rfl)) (fun _ _ _ h => h) (Or.inl ⟨by rfl, ?_⟩) ?_ ?_; rotate_left; (intro w'; go_simp; with_reducible rfl); rotate_left; (simp only [Act.put, setIfInBounds_toArray, set_cons_zero, set_cons_succ, i64_w, i32_w]; rfl)
               refine pure_ (i := 4) (N := some 113) (v := ?_) (a' := ?_) (bA6 5 33) rfl rfl (any_of HT_.out (by kernel_rfl)) (fun _ _ _ h => h) (Or.inl ⟨by rfl, ?_⟩) ?_ ?_; rotate_left; (intro w'; go_simp; with_reducible rfl); rotate_left; (simp only [Act.put, setIfInBounds_toArray, set_cons_zero, set_cons_succ, i64_w, i32_w]; rfl)
               refine pure_ (i := 5) (N := some 114) (v := ?_) (a' := ?_) (bA6 6 33) rfl rfl (any_of HT_.out (by kernel_rfl)) (fun _ _ _ h => h) (Or.inl ⟨by rfl, ?_⟩) ?_ ?_; rotate_left; (intro w'; go_simp; with_reducible rfl); rotate_left; (simp only [Act.put, setIfInBounds_toArray, set_cons_zero, set_cons_succ, i64_w, i32_w]; rfl)
               refine pure_ (i := 6) (N := some 115) (v := ?_) (a' := ?_) (bA6 7 33) rfl rfl (any_of HT_.out (by kernel_rfl)) (fun _ _ _ h => h) (Or.inl ⟨by rfl, ?_⟩) ?_ ?_; rotate_left; (intro w'; go_simp; with_reducible rfl); rotate_left; (simp only [Act.put, setIfInBounds_toArray, set_cons_zero, set_cons_succ, i64_w, i32_w]; rfl)
               refine pure_ (i := 7) (N := some 116) (v := ?_) (a' := ?_) (bA6 8 33) rfl rfl (any_of HT_.out (by kernel_rfl)) (fun _ _ _ h => h) (Or.inl ⟨by rfl, ?_⟩) ?_ ?_; rotate_left; (intro w'; go_simp; with_reducible rfl); rotate_left; (simp only [Act.put, setIfInBounds_toArray, set_cons_zero, set_cons_succ, i64_w, i32_w]; rfl)
               refine pure_ (i := 8) (N := some 117) (v := undef) (a' := ?_) (bA6 9 33) rfl rfl (any_of HT_.out (by kernel_rfl)) (fun _ _ _ h => h) (Or.inr ⟨by rfl, rfl⟩) ?_ ?_
               rotate_left
               ·simp only [Act.put, setIfInBounds_toArray, set_cons_zero, set_cons_succ, i64_w, i32_w]
                rfl
               refine pure_ (i := 9) (N := some 118) (v := undef) (a' := ?_) (bA6 10 33) rfl rfl (any_of HT_.out (by kernel_rfl)) (fun _ _ _ h => h) (Or.inr ⟨by rfl, rfl⟩) ?_ ?_
               rotate_left
               ·simp only [Act.put, setIfInBounds_toArray, set_cons_zero, set_cons_succ, i64_w, i32_w]
                rfl
               refine pure_ (i := 10) (N := some 119) (v := ?_) (a' := ?_) (bA6 11 33) rfl rfl (any_of HT_.out (by kernel_rfl)) (fun _ _ _ h => h) (Or.inl ⟨by rfl, ?_⟩) ?_ ?_; rotate_left; (intro w'; go_simp; with_reducible rfl); rotate_left; (simp only [Act.put, setIfInBounds_toArray, set_cons_zero, set_cons_succ, i64_w, i32_w]; rfl)
               refine pure_ (i := 11) (N := some 120) (v := ?_) (a' := ?_) (bA6 12 33) rfl rfl (any_of HT_.out (by kernel_rfl)) (fun _ _ _ h => h) (Or.inl ⟨by rfl, ?_⟩) ?_ ?_; rotate_left; (intro w'; go_simp; with_reducible rfl); rotate_left; (simp only [Act.put, setIfInBounds_toArray, set_cons_zero, set_cons_succ, i64_w, i32_w]; rfl)
               refine pure_ (i := 12) (N := some 121) (v := undef) (a' := ?_) (bA6 13 33) rfl rfl (any_of HT_.out (by kernel_rfl)) (fun _ _ _ h => h) (Or.inr ⟨by rfl, rfl⟩) ?_ ?_
               rotate_left
               ·simp only [Act.put, setIfInBounds_toArray, set_cons_zero, set_cons_succ, i64_w, i32_w]
                rfl
               refine pure_ (i := 13) (N := some 122) (v := undef) (a' := ?_) (bA6 14 33) rfl rfl (any_of HT_.out (by kernel_rfl)) (fun _ _ _ h => h) (Or.inr ⟨by rfl, rfl⟩) ?_ ?_
               rotate_left
               ·simp only [Act.put, setIfInBounds_toArray, set_cons_zero, set_cons_succ, i64_w, i32_w]
                rfl
               refine pure_ (i := 14) (N := some 123) (v := ?_) (a' := ?_) (bA6 15 33) rfl rfl (any_of HT_.out (by kernel_rfl)) (fun _ _ _ h => h) (Or.inl ⟨by rfl, ?_⟩) ?_ ?_; rotate_left; (intro w'; go_simp; with_reducible rfl); rotate_left; (simp only [Act.put, setIfInBounds_toArray, set_cons_zero, set_cons_succ, i64_w, i32_w]; rfl)
               refine pure_ (i := 15) (N := some 124) (v := ?_) (a' := ?_) (bA6 16 33) rfl rfl (any_of HT_.out (by kernel_rfl)) (fun _ _ _ h => h) (Or.inl ⟨by rfl, ?_⟩) ?_ ?_; rotate_left; (intro w'; go_simp; with_reducible rfl); rotate_left; (simp only [Act.put, setIfInBounds_toArray, set_cons_zero, set_cons_succ, i64_w, i32_w]; rfl)
               refine pure_ (i := 16) (N := some 125) (v := undef) (a' := ?_) (bA6 17 33) rfl rfl (any_of HT_.out (by kernel_rfl)) (fun _ _ _ h => h) (Or.inr ⟨by rfl, rfl⟩) ?_ ?_
               rotate_left
               ·simp only [Act.put, setIfInBounds_toArray, set_cons_zero, set_cons_succ, i64_w, i32_w]
                rfl
               refine pure_ (i := 17) (N := some 126) (v := undef) (a' := ?_) (bA6 18 33) rfl rfl (any_of HT_.out (by kernel_rfl)) (fun _ _ _ h => h) (Or.inr ⟨by rfl, rfl⟩) ?_ ?_
               rotate_left
               ·simp only [Act.put, setIfInBounds_toArray, set_cons_zero, set_cons_succ, i64_w, i32_w]
                rfl
               refine pure_ (i := 18) (N := some 127) (v := ?_) (a' := ?_) (bA6 19 33) rfl rfl (any_of HT_.out (by kernel_rfl)) (fun _ _ _ h => h) (Or.inl ⟨by rfl, ?_⟩) ?_ ?_; rotate_left; (intro w'; go_simp; with_reducible rfl); rotate_left; (simp only [Act.put, setIfInBounds_toArray, set_cons_zero, set_cons_succ, i64_w, i32_w]; rfl)
               refine pure_ (i := 19) (N := some 128) (v := ?_) (a' := ?_) (bA6 20 33) rfl rfl (any_of HT_.out (by kernel_rfl)) (fun _ _ _ h => h) (Or.inl ⟨by rfl, ?_⟩) ?_ ?_; rotate_left; (intro w'; go_simp; with_reducible rfl); rotate_left; (simp only [Act.put, setIfInBounds_toArray, set_cons_zero, set_cons_succ, i64_w, i32_w]; rfl)
               refine pure_ (i := 20) (N := some 129) (v := undef) (a' := ?_) (bA6 21 33) rfl rfl (any_of HT_.out (by kernel_rfl)) (fun _ _ _ h => h) (Or.inr ⟨by rfl, rfl⟩) ?_ ?_
               rotate_left
               ·simp only [Act.put, setIfInBounds_toArray, set_cons_zero, set_cons_succ, i64_w, i32_w]
                rfl
               refine pure_ (i := 21) (N := some 130) (v := undef) (a' := ?_) (bA6 22 33) rfl rfl (any_of HT_.out (by kernel_rfl)) (fun _ _ _ h => h) (Or.inr ⟨by rfl, rfl⟩) ?_ ?_
               rotate_left
               ·simp only [Act.put, setIfInBounds_toArray, set_cons_zero, set_cons_succ, i64_w, i32_w]
                rfl
               refine pure_ (i := 22) (N := some 131) (v := undef) (a' := ?_) (bA6 23 33) rfl rfl (any_of HT_.out (by kernel_rfl)) (fun _ _ _ h => h) (Or.inr ⟨by rfl, rfl⟩) ?_ ?_
               rotate_left
               ·simp only [Act.put, setIfInBounds_toArray, set_cons_zero, set_cons_succ, i64_w, i32_w]
                rfl
               refine pure_ (i := 23) (N := some 132) (v := undef) (a' := ?_) (bA6 24 33) rfl rfl (any_of HT_.out (by kernel_rfl)) (fun _ _ _ h => h) (Or.inr ⟨by rfl, rfl⟩) ?_ ?_
               rotate_left
               ·simp only [Act.put, setIfInBounds_toArray, set_cons_zero, set_cons_succ, i64_w, i32_w]
                rfl
               refine pure_ (i := 24) (N := some 133) (v := undef) (a' := ?_) (bA6 25 33) rfl rfl (any_of HT_.out (by kernel_rfl)) (fun _ _ _ h => h) (Or.inr ⟨by rfl, rfl⟩) ?_ ?_
               rotate_left
               ·simp only [Act.put, setIfInBounds_toArray, set_cons_zero, set_cons_succ, i64_w, i32_w]
                rfl
               refine pure_ (i := 25) (N := some 134) (v := undef) (a' := ?_) (bA6 26 33) rfl rfl (any_of HT_.out (by kernel_rfl)) (fun _ _ _ h => h) (Or.inr ⟨by rfl, rfl⟩) ?_ ?_
               rotate_left
               ·simp only [Act.put, setIfInBounds_toArray, set_cons_zero, set_cons_succ, i64_w, i32_w]
                rfl
               refine pure_ (i := 26) (N := some 135) (v := undef) (a' := ?_) (bA6 27 33) rfl rfl (any_of HT_.out (by kernel_rfl)) (fun _ _ _ h => h) (Or.inr ⟨by rfl, rfl⟩) ?_ ?_
               rotate_left
               ·simp only [Act.put, setIfInBounds_toArray, set_cons_zero, set_cons_succ, i64_w, i32_w]
                rfl
               refine pure_ (i := 27) (N := some 136) (v := undef) (a' := ?_) (bA6 28 33) rfl rfl (any_of HT_.out (by kernel_rfl)) (fun _ _ _ h => h) (Or.inr ⟨by rfl, rfl⟩) ?_ ?_
               rotate_left
               ·simp only [Act.put, setIfInBounds_toArray, set_cons_zero, set_cons_succ, i64_w, i32_w]
                rfl
               refine pure_ (i := 28) (N := some 137) (v := undef) (a' := ?_) (bA6 29 33) rfl rfl (any_of HT_.out (by kernel_rfl)) (fun _ _ _ h => h) (Or.inr ⟨by rfl, rfl⟩) ?_ ?_
               rotate_left
               ·simp only [Act.put, setIfInBounds_toArray, set_cons_zero, set_cons_succ, i64_w, i32_w]
                rfl
               refine pure_ (i := 29) (N := some 138) (v := undef) (a' := ?_) (bA6 30 33) rfl rfl (any_of HT_.out (by kernel_rfl)) (fun _ _ _ h => h) (Or.inr ⟨by rfl, rfl⟩) ?_ ?_
               rotate_left
               ·simp only [Act.put, setIfInBounds_toArray, set_cons_zero, set_cons_succ, i64_w, i32_w]
                rfl
               refine pure_ (i := 30) (N := some 139) (v := undef) (a' := ?_) (bA6 31 33) rfl rfl (any_of HT_.out (by kernel_rfl)) (fun _ _ _ h => h) (Or.inr ⟨by rfl, rfl⟩) ?_ ?_
               rotate_left
               ·simp only [Act.put, setIfInBounds_toArray, set_cons_zero, set_cons_succ, i64_w, i32_w]
                rfl
               refine pure_ (i := 31) (N := some 140) (v := undef) (a' := ?_) (bA6 32 33) rfl rfl (any_of HT_.out (by kernel_rfl)) (fun _ _ _ h => h) (Or.inr ⟨by rfl, rfl⟩) ?_ ?_
               rotate_left
               ·simp only [Act.put, setIfInBounds_toArray, set_cons_zero, set_cons_succ, i64_w, i32_w]
                rfl
               refine pure_ (i := 32) (N := some 141) (v := ?_) (a' := ?_) (bA6 33 33) rfl rfl (any_of HT_.out (by kernel_rfl)) (fun _ _ _ h => h) (Or.inl ⟨by rfl, ?_⟩) ?_ ?_; rotate_left; (intro w'; go_simp; with_reducible rfl); rotate_left; (simp only [Act.put, setIfInBounds_toArray, set_cons_zero, set_cons_succ, i64_w, i32_w]; rfl)
               refine done_ (done_of HT_.out (by kernel_rfl)) ?_
               try go_wp2
               go_meet
               case rel => exact ⟨_, (true), (by first | rfl | (simp; done) | (simp [*]; done)), H', ⟨by have := HJ10.out; have := HK2.out; first | omega | exact Nat.le_refl _⟩, ⟨by (with_reducible repeat (first | apply Kd.R_alloc | apply Kd.R_drewN | apply Kd.R_drew)); exact Kd.R_mono HO_10.out (fun _ hk => hk.2)⟩, ⟨by (with_reducible repeat (first | apply Kd.R_alloc | apply Kd.R_drewN | apply Kd.R_drew)); exact Kd.R_mono HO_76.out (fun _ hk => hk.2)⟩, ⟨by (with_reducible repeat (first | refine kn_ ?_ _ | refine kd_ ?_ | refine ka_ ?_ _)); exact BK395.out⟩, ⟨by repeat (first | (with_reducible first | exact HB.out | apply ba_ | apply bn_ | apply bd_ | refine below_set ?_ GE395.out) | exact HB.out)⟩⟩
             ·rw [if_neg c37] at H
              have c37b0 : (t397 == t393) = false := beq_eq_false_iff_ne.mpr c37
              have c37b1 : (t397 != t393) = true := bne_iff_ne.mpr c37
              (first | rw [c37b0] | (simp only [i64_w, i32_w]; rw [c37b0]) | skip)
              have H' := ak_ H
              clear H
              try go_wp2
              have n0_ := ak_ (Kd.R_drew HO_10.out)
              have n1_ := ak_ (Kd.R_drew HO_76.out)
              have n2_ := ak_ (Kd.R_drew HO402.out)
              have n3_ := ak_ (kd_ BK395.out)
              have n4_ := ak_ (bd_ HB.out)
              clear HO_10
              clear HO_76
              clear HO402
              clear BK395
              clear HB
              have HO_10 := n0_
              have HO_76 := n1_
              have HO402 := n2_
              have BK395 := n3_
              have HB := n4_
              clear n0_ n1_ n2_ n3_ n4_
              refine start_ (n := 33) (S := fun w' => True) (ds := []) #[false, false, false, false, false, false, false, false, false, false, false, false, false, false, false, false, false, false, false, false, false, false, false, false, false, false, false, false, false, false, false, false, false] (by kernel_rfl) rfl rfl trivial (fun hHeld => ?_); refine with_tabW medlarlaw12_LayerCovers.tab20 medlarlaw12_LayerCovers.bits20 (fun HT_ HW_ => ?_)
              generalize w36.drew = w54 at HO_10 HO_76 HO402 BK395 HB hHeld ⊢
              refine pure_ (i := 0) (N := some 109) (v := ?_) (a' := ?_) (bA6 1 33) rfl rfl (any_of HT_.out (by kernel_rfl)) (fun _ _ _ h => h) (Or.inl ⟨by rfl, ?_⟩) ?_ ?_; rotate_left; (intro w'; go_simp; with_reducible rfl); rotate_left; (simp only [Act.put, setIfInBounds_toArray, set_cons_zero, set_cons_succ, i64_w, i32_w]; rfl)
              refine pure_ (i := 1) (N := some 110) (v := ?_) (a' := ?_) (bA6 2 33) rfl rfl (any_of HT_.out (by kernel_rfl)) (fun _ _ _ h => h) (Or.inl ⟨by rfl, ?_⟩) ?_ ?_; rotate_left; (intro w'; go_simp; with_reducible rfl); rotate_left; (simp only [Act.put, setIfInBounds_toArray, set_cons_zero, set_cons_succ, i64_w, i32_w]; rfl)
              refine pure_ (i := 2) (N := some 111) (v := ?_) (a' := ?_) (bA6 3 33) rfl rfl (any_of HT_.out (by kernel_rfl)) (fun _ _ _ h => h) (Or.inl ⟨by rfl, ?_⟩) ?_ ?_; rotate_left; (intro w'; go_simp; with_reducible rfl); rotate_left; (simp only [Act.put, setIfInBounds_toArray, set_cons_zero, set_cons_succ, i64_w, i32_w]; rfl)
              refine pure_ (i := 3) (N := some 112) (v := ?_) (a' := ?_) (bA6 4 33) rfl rfl (any_of HT_.out (by kernel_rfl)) (fun _ _ _ h => h) (Or.inl ⟨by rfl, ?_⟩) ?_ ?_; rotate_left; (intro w'; go_simp; with_reducible rfl); rotate_left; (simp only [Act.put, setIfInBounds_toArray, set_cons_zero, set_cons_succ, i64_w, i32_w]; rfl)
              refine pure_ (i := 4) (N := some 113) (v := undef) (a' := ?_) (bA6 5 33) rfl rfl (any_of HT_.out (by kernel_rfl)) (fun _ _ _ h => h) (Or.inr ⟨by rfl, rfl⟩) ?_ ?_
              rotate_left
              ·simp only [Act.put, setIfInBounds_toArray, set_cons_zero, set_cons_succ, i64_w, i32_w]
               rfl
              refine pure_ (i := 5) (N := some 114) (v := undef) (a' := ?_) (bA6 6 33) rfl rfl (any_of HT_.out (by kernel_rfl)) (fun _ _ _ h => h) (Or.inr ⟨by rfl, rfl⟩) ?_ ?_
              rotate_left
              ·simp only [Act.put, setIfInBounds_toArray, set_cons_zero, set_cons_succ, i64_w, i32_w]
               rfl
              refine pure_ (i := 6) (N := some 115) (v := ?_) (a' := ?_) (bA6 7 33) rfl rfl (any_of HT_.out (by kernel_rfl)) (fun _ _ _ h => h) (Or.inl ⟨by rfl, ?_⟩) ?_ ?_; rotate_left; (intro w'; go_simp; with_reducible rfl); rotate_left; (simp only [Act.put, setIfInBounds_toArray, set_cons_zero, set_cons_succ, i64_w, i32_w]; rfl)
              refine pure_ (i := 7) (N := some 116) (v := ?_) (a' := ?_) (bA6 8 33) rfl rfl (any_of HT_.out (by kernel_rfl)) (fun _ _ _ h => h) (Or.inl ⟨by rfl, ?_⟩) ?_ ?_; rotate_left; (intro w'; go_simp; with_reducible rfl); rotate_left; (simp only [Act.put, setIfInBounds_toArray, set_cons_zero, set_cons_succ, i64_w, i32_w]; rfl)
              refine pure_ (i := 8) (N := some 117) (v := undef) (a' := ?_) (bA6 9 33) rfl rfl (any_of HT_.out (by kernel_rfl)) (fun _ _ _ h => h) (Or.inr ⟨by rfl, rfl⟩) ?_ ?_
              rotate_left
              ·simp only [Act.put, setIfInBounds_toArray, set_cons_zero, set_cons_succ, i64_w, i32_w]
               rfl
              refine pure_ (i := 9) (N := some 118) (v := undef) (a' := ?_) (bA6 10 33) rfl rfl (any_of HT_.out (by kernel_rfl)) (fun _ _ _ h => h) (Or.inr ⟨by rfl, rfl⟩) ?_ ?_
              rotate_left
              ·simp only [Act.put, setIfInBounds_toArray, set_cons_zero, set_cons_succ, i64_w, i32_w]
               rfl
              refine pure_ (i := 10) (N := some 119) (v := ?_) (a' := ?_) (bA6 11 33) rfl rfl (any_of HT_.out (by kernel_rfl)) (fun _ _ _ h => h) (Or.inl ⟨by rfl, ?_⟩) ?_ ?_; rotate_left; (intro w'; go_simp; with_reducible rfl); rotate_left; (simp only [Act.put, setIfInBounds_toArray, set_cons_zero, set_cons_succ, i64_w, i32_w]; rfl)
              refine pure_ (i := 11) (N := some 120) (v := ?_) (a' := ?_) (bA6 12 33) rfl rfl (any_of HT_.out (by kernel_rfl)) (fun _ _ _ h => h) (Or.inl ⟨by rfl, ?_⟩) ?_ ?_; rotate_left; (intro w'; go_simp; with_reducible rfl); rotate_left; (simp only [Act.put, setIfInBounds_toArray, set_cons_zero, set_cons_succ, i64_w, i32_w]; rfl)
              refine pure_ (i := 12) (N := some 121) (v := undef) (a' := ?_) (bA6 13 33) rfl rfl (any_of HT_.out (by kernel_rfl)) (fun _ _ _ h => h) (Or.inr ⟨by rfl, rfl⟩) ?_ ?_
              rotate_left
              ·simp only [Act.put, setIfInBounds_toArray, set_cons_zero, set_cons_succ, i64_w, i32_w]
               rfl
              refine pure_ (i := 13) (N := some 122) (v := undef) (a' := ?_) (bA6 14 33) rfl rfl (any_of HT_.out (by kernel_rfl)) (fun _ _ _ h => h) (Or.inr ⟨by rfl, rfl⟩) ?_ ?_
              rotate_left
              ·simp only [Act.put, setIfInBounds_toArray, set_cons_zero, set_cons_succ, i64_w, i32_w]
               rfl
              refine pure_ (i := 14) (N := some 123) (v := ?_) (a' := ?_) (bA6 15 33) rfl rfl (any_of HT_.out (by kernel_rfl)) (fun _ _ _ h => h) (Or.inl ⟨by rfl, ?_⟩) ?_ ?_; rotate_left; (intro w'; go_simp; with_reducible rfl); rotate_left; (simp only [Act.put, setIfInBounds_toArray, set_cons_zero, set_cons_succ, i64_w, i32_w]; rfl)
              refine pure_ (i := 15) (N := some 124) (v := ?_) (a' := ?_) (bA6 16 33) rfl rfl (any_of HT_.out (by kernel_rfl)) (fun _ _ _ h => h) (Or.inl ⟨by rfl, ?_⟩) ?_ ?_; rotate_left; (intro w'; go_simp; with_reducible rfl); rotate_left; (simp only [Act.put, setIfInBounds_toArray, set_cons_zero, set_cons_succ, i64_w, i32_w]; rfl)
              refine pure_ (i := 16) (N := some 125) (v := undef) (a' := ?_) (bA6 17 33) rfl rfl (any_of HT_.out (by kernel_rfl)) (fun _ _ _ h => h) (Or.inr ⟨by rfl, rfl⟩) ?_ ?_
              rotate_left
              ·simp only [Act.put, setIfInBounds_toArray, set_cons_zero, set_cons_succ, i64_w, i32_w]
               rfl
              refine pure_ (i := 17) (N := some 126) (v := undef) (a' := ?_) (bA6 18 33) rfl rfl (any_of HT_.out (by kernel_rfl)) (fun _ _ _ h => h) (Or.inr ⟨by rfl, rfl⟩) ?_ ?_
              rotate_left
              ·simp only [Act.put, setIfInBounds_toArray, set_cons_zero, set_cons_succ, i64_w, i32_w]
               rfl
              refine pure_ (i := 18) (N := some 127) (v := ?_) (a' := ?_) (bA6 19 33) rfl rfl (any_of HT_.out (by kernel_rfl)) (fun _ _ _ h => h) (Or.inl ⟨by rfl, ?_⟩) ?_ ?_; rotate_left; (intro w'; go_simp; with_reducible rfl); rotate_left; (simp only [Act.put, setIfInBounds_toArray, set_cons_zero, set_cons_succ, i64_w, i32_w]; rfl)
              refine pure_ (i := 19) (N := some 128) (v := ?_) (a' := ?_) (bA6 20 33) rfl rfl (any_of HT_.out (by kernel_rfl)) (fun _ _ _ h => h) (Or.inl ⟨by rfl, ?_⟩) ?_ ?_; rotate_left; (intro w'; go_simp; with_reducible rfl); rotate_left; (simp only [Act.put, setIfInBounds_toArray, set_cons_zero, set_cons_succ, i64_w, i32_w]; rfl)
              refine pure_ (i := 20) (N := some 129) (v := undef) (a' := ?_) (bA6 21 33) rfl rfl (any_of HT_.out (by kernel_rfl)) (fun _ _ _ h => h) (Or.inr ⟨by rfl, rfl⟩) ?_ ?_
              rotate_left
              ·simp only [Act.put, setIfInBounds_toArray, set_cons_zero, set_cons_succ, i64_w, i32_w]
               rfl
              refine pure_ (i := 21) (N := some 130) (v := undef) (a' := ?_) (bA6 22 33) rfl rfl (any_of HT_.out (by kernel_rfl)) (fun _ _ _ h => h) (Or.inr ⟨by rfl, rfl⟩) ?_ ?_
              rotate_left
              ·simp only [Act.put, setIfInBounds_toArray, set_cons_zero, set_cons_succ, i64_w, i32_w]
               rfl
              refine pure_ (i := 22) (N := some 131) (v := undef) (a' := ?_) (bA6 23 33) rfl rfl (any_of HT_.out (by kernel_rfl)) (fun _ _ _ h => h) (Or.inr ⟨by rfl, rfl⟩) ?_ ?_
              rotate_left
              ·simp only [Act.put, setIfInBounds_toArray, set_cons_zero, set_cons_succ, i64_w, i32_w]
               rfl
              refine pure_ (i := 23) (N := some 132) (v := undef) (a' := ?_) (bA6 24 33) rfl rfl (any_of HT_.out (by kernel_rfl)) (fun _ _ _ h => h) (Or.inr ⟨by rfl, rfl⟩) ?_ ?_
              rotate_left
              ·simp only [Act.put, setIfInBounds_toArray, set_cons_zero, set_cons_succ, i64_w, i32_w]
               rfl
              refine pure_ (i := 24) (N := some 133) (v := undef) (a' := ?_) (bA6 25 33) rfl rfl (any_of HT_.out (by kernel_rfl)) (fun _ _ _ h => h) (Or.inr ⟨by rfl, rfl⟩) ?_ ?_
              rotate_left
              ·simp only [Act.put, setIfInBounds_toArray, set_cons_zero, set_cons_succ, i64_w, i32_w]
               rfl
              refine pure_ (i := 25) (N := some 134) (v := undef) (a' := ?_) (bA6 26 33) rfl rfl (any_of HT_.out (by kernel_rfl)) (fun _ _ _ h => h) (Or.inr ⟨by rfl, rfl⟩) ?_ ?_
              rotate_left
              ·simp only [Act.put, setIfInBounds_toArray, set_cons_zero, set_cons_succ, i64_w, i32_w]
               rfl
              refine pure_ (i := 26) (N := some 135) (v := undef) (a' := ?_) (bA6 27 33) rfl rfl (any_of HT_.out (by kernel_rfl)) (fun _ _ _ h => h) (Or.inr ⟨by rfl, rfl⟩) ?_ ?_
              rotate_left
              ·simp only [Act.put, setIfInBounds_toArray, set_cons_zero, set_cons_succ, i64_w, i32_w]
               rfl
              refine pure_ (i := 27) (N := some 136) (v := undef) (a' := ?_) (bA6 28 33) rfl rfl (any_of HT_.out (by kernel_rfl)) (fun _ _ _ h => h) (Or.inr ⟨by rfl, rfl⟩) ?_ ?_
              rotate_left
              ·simp only [Act.put, setIfInBounds_toArray, set_cons_zero, set_cons_succ, i64_w, i32_w]
               rfl
              refine pure_ (i := 28) (N := some 137) (v := undef) (a' := ?_) (bA6 29 33) rfl rfl (any_of HT_.out (by kernel_rfl)) (fun _ _ _ h => h) (Or.inr ⟨by rfl, rfl⟩) ?_ ?_
              rotate_left
              ·simp only [Act.put, setIfInBounds_toArray, set_cons_zero, set_cons_succ, i64_w, i32_w]
               rfl
              refine pure_ (i := 29) (N := some 138) (v := undef) (a' := ?_) (bA6 30 33) rfl rfl (any_of HT_.out (by kernel_rfl)) (fun _ _ _ h => h) (Or.inr ⟨by rfl, rfl⟩) ?_ ?_
              rotate_left
              ·simp only [Act.put, setIfInBounds_toArray, set_cons_zero, set_cons_succ, i64_w, i32_w]
               rfl
              refine pure_ (i := 30) (N := some 139) (v := undef) (a' := ?_) (bA6 31 33) rfl rfl (any_of HT_.out (by kernel_rfl)) (fun _ _ _ h => h) (Or.inr ⟨by rfl, rfl⟩) ?_ ?_
              rotate_left
              ·simp only [Act.put, setIfInBounds_toArray, set_cons_zero, set_cons_succ, i64_w, i32_w]
               rfl
              refine pure_ (i := 31) (N := some 140) (v := undef) (a' := ?_) (bA6 32 33) rfl rfl (any_of HT_.out (by kernel_rfl)) (fun _ _ _ h => h) (Or.inr ⟨by rfl, rfl⟩) ?_ ?_
              rotate_left
              ·simp only [Act.put, setIfInBounds_toArray, set_cons_zero, set_cons_succ, i64_w, i32_w]
               rfl
              refine pure_ (i := 32) (N := some 141) (v := ?_) (a' := ?_) (bA6 33 33) rfl rfl (any_of HT_.out (by kernel_rfl)) (fun _ _ _ h => h) (Or.inl ⟨by rfl, ?_⟩) ?_ ?_; rotate_left; (intro w'; go_simp; with_reducible rfl); rotate_left; (simp only [Act.put, setIfInBounds_toArray, set_cons_zero, set_cons_succ, i64_w, i32_w]; rfl)
              refine done_ (done_of HT_.out (by kernel_rfl)) ?_
              try go_wp2
              go_meet
              case rel => exact ⟨_, (true), (by first | rfl | (simp; done) | (simp [*]; done)), H', ⟨by have := HJ10.out; have := HK2.out; first | omega | exact Nat.le_refl _⟩, ⟨by (with_reducible repeat (first | apply Kd.R_alloc | apply Kd.R_drewN | apply Kd.R_drew)); exact Kd.R_mono HO_10.out (fun _ hk => hk.2)⟩, ⟨by (with_reducible repeat (first | apply Kd.R_alloc | apply Kd.R_drewN | apply Kd.R_drew)); exact Kd.R_mono HO_76.out (fun _ hk => hk.2)⟩, ⟨by (with_reducible repeat (first | refine kn_ ?_ _ | refine kd_ ?_ | refine ka_ ?_ _)); exact BK395.out⟩, ⟨by repeat (first | (with_reducible first | exact HB.out | apply ba_ | apply bn_ | apply bd_ | refine below_set ?_ GE395.out) | exact HB.out)⟩⟩
            case rest =>
             clear HC27
             try clear p2
             try clear c3
             try clear c37
             try clear c37b0
             try clear c37b1
             try clear c38
             try clear c38b0
             try clear c38b1
             obtain ⟨kq, x141_26, rfl, HA, HJ26, HO_10, HO_76, BK395, HB⟩ := hcut
             cases kq with
             | zero => exact absurd HA.out (by simp [medlarlaw12_LayerCovers.j2])
             | succ kj26 =>
              have H := HA.out
              clear HA
              simp only [medlarlaw12_LayerCovers.j2] at H
              by_cases c55 : x141_26 = true
              ·subst c55
               have H1 : (some false) = some r := by rw [if_pos rfl] at H; exact H
               clear H
               have H := H1
               clear H1
               exact absurd ((Option.some.inj H).trans hT.out) Bool.false_ne_true
              ·replace c55 := Bool.eq_false_iff.mpr c55
               subst c55
               have H1 : (if t396 = true then (medlarlaw12_LayerCovers.l0 kj26 a0 a1 l2 a3 t385 t386 (wrap64 (x14_2 + 1)) t392 t393 (IntKind.u64.wrap (x17_2 + t404)) t386 (t386.length : Int) (wrap64 (x78_2 + 1))) else (medlarlaw12_LayerCovers.l0 kj26 a0 a1 l2 a3 t385 t386 x14_2 t392 t393 (IntKind.u64.wrap (x17_2 + t404)) t386 (t386.length : Int) (wrap64 (x78_2 + 1)))) = some r := by rw [if_neg (show ¬ (false = true) by decide)] at H; exact H
               clear H
               have H := H1
               clear H1
               by_cases c56 : t396 = true
               ·subst c56
                have H1 : (medlarlaw12_LayerCovers.l0 kj26 a0 a1 l2 a3 t385 t386 (wrap64 (x14_2 + 1)) t392 t393 (IntKind.u64.wrap (x17_2 + t404)) t386 (t386.length : Int) (wrap64 (x78_2 + 1))) = some r := by rw [if_pos rfl] at H; exact H
                clear H
                have H := H1
                clear H1
                have H' := ak_ H
                clear H
                go_wp2
                go_roundg kj26
                case measure => have := HJ10.out; have := HK2.out; have := HJ26.out; omega
                case rel => exact ⟨(wrap64 (x14_2 + 1)), (IntKind.u64.wrap (x17_2 + t404)), (wrap64 (x78_2 + 1)), (by first | rfl | (simp; done) | (simp [*]; done)), (by first | rfl | (simp; done) | (simp [*]; done)), (by first | rfl | (simp; done) | (simp [*]; done)), H', ⟨by have := HJ10.out; have := HK2.out; have := HJ26.out; omega⟩, ⟨by (with_reducible repeat (first | apply Kd.R_alloc | apply Kd.R_drewN | apply Kd.R_drew)); exact Kd.R_mono HO_10.out (fun _ hk => trivial)⟩, ⟨by (with_reducible repeat (first | apply Kd.R_alloc | apply Kd.R_drewN | apply Kd.R_drew)); exact Kd.R_mono HO_76.out (fun _ hk => trivial)⟩, ⟨by repeat (first | (with_reducible first | exact HB.out | apply ba_ | apply bn_ | apply bd_ | refine below_set ?_ GE395.out) | exact HB.out)⟩⟩
               ·replace c56 := Bool.eq_false_iff.mpr c56
                subst c56
                have H1 : (medlarlaw12_LayerCovers.l0 kj26 a0 a1 l2 a3 t385 t386 x14_2 t392 t393 (IntKind.u64.wrap (x17_2 + t404)) t386 (t386.length : Int) (wrap64 (x78_2 + 1))) = some r := by rw [if_neg (show ¬ (false = true) by decide)] at H; exact H
                clear H
                have H := H1
                clear H1
                have H' := ak_ H
                clear H
                go_wp2
                go_roundg kj26
                case measure => have := HJ10.out; have := HK2.out; have := HJ26.out; omega
                case rel => exact ⟨(x14_2), (IntKind.u64.wrap (x17_2 + t404)), (wrap64 (x78_2 + 1)), (by first | rfl | (simp; done) | (simp [*]; done)), (by first | rfl | (simp; done) | (simp [*]; done)), (by first | rfl | (simp; done) | (simp [*]; done)), H', ⟨by have := HJ10.out; have := HK2.out; have := HJ26.out; omega⟩, ⟨by (with_reducible repeat (first | apply Kd.R_alloc | apply Kd.R_drewN | apply Kd.R_drew)); exact Kd.R_mono HO_10.out (fun _ hk => trivial)⟩, ⟨by (with_reducible repeat (first | apply Kd.R_alloc | apply Kd.R_drewN | apply Kd.R_drew)); exact Kd.R_mono HO_76.out (fun _ hk => trivial)⟩, ⟨by repeat (first | (with_reducible first | exact HB.out | apply ba_ | apply bn_ | apply bd_ | refine below_set ?_ GE395.out) | exact HB.out)⟩⟩
           ·rw [if_neg c22] at H
            exact absurd H (by simp)
          ·rw [if_neg c21] at H
           exact absurd H (by simp)
         ·rw [if_neg c20] at H
          have c20b0 : decide (x78_2 < (t386.length : Int)) = false := decide_eq_false c20
          clear c20
          have HC57 := ak_ H
          clear H
          go_upto_region 26 with (fail)
          go_cut [161] (fun v161 wc => ∃ (kq : Nat) (x161_56 : Bool), v161 = .bool x161_56 ∧ Aside0 (medlarlaw12_LayerCovers.j3 kq a0 l2 t385 x17_2 x161_56 = some r) ∧ Aside0 (kq ≤ k2) ∧ Aside0 (Below w.heap.size w wc))
          case first =>
           have H := HC57.out
           clear HC57
           by_cases c58 : t393 = 0
           ·rw [if_pos c58] at H
            have c58b0 : (t393 == 0) = true := beq_iff_eq.mpr c58
            have c58b1 : (t393 != 0) = false := bne_eq_false_iff_eq.mpr c58
            clear c58
            (first | rw [c58b0] | (simp only [i64_w, i32_w]; rw [c58b0]) | skip)
            by_cases c59 : ((x14_2 == 1) != (!t392)) = true
            ·rw [if_pos c59] at H
             have c59b0 : ((x14_2 == 1) != (!t392)) = true := c59
             (try (have c59b1 : decide ((x14_2 == 1) = (!t392)) = false := by simpa using c59))
             (try (have c59b2 : ((x14_2 == 1) == (!t392)) = false := by simpa using c59))
             (try (have c59b3 : ¬ ((x14_2 == 1) = (!t392)) := by simpa using c59))
             clear c59
             have H' := ak_ H
             clear H
             go_wp2
             go_meet
             case rel => exact ⟨_, (true), (by first | rfl | (simp; done) | (simp [*]; done)), H', ⟨by have := HJ10.out; have := HK2.out; first | omega | exact Nat.le_refl _⟩, ⟨by repeat (first | (with_reducible first | exact HB.out | apply ba_ | apply bn_ | apply bd_) | exact HB.out)⟩⟩
            ·rw [if_neg c59] at H
             have c59b0 : ((x14_2 == 1) != (!t392)) = false := by simpa using c59
             have c59b4 := (show ∀ a b : Bool, (a != b) = false → a = b by decide) _ _ c59b0
             (try (have c59b1 : decide ((x14_2 == 1) = (!t392)) = true := by simpa using c59))
             (try (have c59b2 : ((x14_2 == 1) == (!t392)) = true := by simpa using c59))
             clear c59
             have H' := ak_ H
             clear H
             go_wp2
             go_meet
             case rel => exact ⟨_, (decide (x14_2 > 1)), (by first | rfl | (simp; done) | (simp [*]; done)), H', ⟨by have := HJ10.out; have := HK2.out; first | omega | exact Nat.le_refl _⟩, ⟨by repeat (first | (with_reducible first | exact HB.out | apply ba_ | apply bn_ | apply bd_) | exact HB.out)⟩⟩
           ·rw [if_neg c58] at H
            have c58b0 : (t393 == 0) = false := beq_eq_false_iff_ne.mpr c58
            have c58b1 : (t393 != 0) = true := bne_iff_ne.mpr c58
            (first | rw [c58b0] | (simp only [i64_w, i32_w]; rw [c58b0]) | skip)
            have H' := ak_ H
            clear H
            go_wp2
            go_meet
            case rel => exact ⟨_, (decide (x14_2 > 1)), (by first | rfl | (simp; done) | (simp [*]; done)), H', ⟨by have := HJ10.out; have := HK2.out; first | omega | exact Nat.le_refl _⟩, ⟨by repeat (first | (with_reducible first | exact HB.out | apply ba_ | apply bn_ | apply bd_) | exact HB.out)⟩⟩
          case rest =>
           clear HC57
           try clear c2
           try clear p2
           try clear c3
           try clear c5
           try clear p6
           try clear c20
           try clear c20b0
           try clear c21
           try clear c22
           try clear c37
           try clear c37b0
           try clear c37b1
           try clear c38
           try clear c38b0
           try clear c38b1
           try clear c55
           try clear c56
           try clear c58
           try clear c58b0
           try clear c58b1
           try clear c59
           try clear c59b0
           try clear c59b1
           try clear c59b2
           try clear p2
           obtain ⟨kq, x161_56, rfl, HA, HJ56, HB⟩ := hcut
           cases kq with
           | zero => exact absurd HA.out (by simp [medlarlaw12_LayerCovers.j3])
           | succ kj56 =>
            have H := HA.out
            clear HA
            simp only [medlarlaw12_LayerCovers.j3] at H
            by_cases c60 : x161_56 = true
            ·subst c60
             have H1 : (some false) = some r := by rw [if_pos rfl] at H; exact H
             clear H
             have H := H1
             clear H1
             exact absurd ((Option.some.inj H).trans hT.out) Bool.false_ne_true
            ·replace c60 := Bool.eq_false_iff.mpr c60
             subst c60
             have H1 : ((leaf_Gaps.f kj56 a0 l2).bind fun bt408 => ((leaf_Many.f kj56 a0 bt408.1).bind fun bt412 => (if t385 = true then (if bt408.2 = 0 then (if bt412.2 = 0 then (some (x17_2 == bt412.1)) else (some false)) else (some false)) else (some false)))) = some r := by rw [if_neg (show ¬ (false = true) by decide)] at H; exact H
             clear H
             have H := H1
             clear H1
             replace H := Option.bind_eq_some_iff.mp H
             obtain ⟨⟨t408, t409⟩, A610, H⟩ := H
             replace H : ((leaf_Many.f kj56 a0 t408).bind fun bt412 => (if t385 = true then (if t409 = 0 then (if bt412.2 = 0 then (some (x17_2 == bt412.1)) else (some false)) else (some false)) else (some false))) = some r := H
             have A61 := ak_ A610
             clear A610
             replace H := Option.bind_eq_some_iff.mp H
             obtain ⟨⟨t412, t413⟩, A620, H⟩ := H
             replace H : (if t385 = true then (if t409 = 0 then (if t413 = 0 then (some (x17_2 == t412)) else (some false)) else (some false)) else (some false)) = some r := H
             have A62 := ak_ A620
             clear A620
             by_cases c63 : t385 = true
             ·subst c63
              have H1 : (if t409 = 0 then (if t413 = 0 then (some (x17_2 == t412)) else (some false)) else (some false)) = some r := by rw [if_pos rfl] at H; exact H
              clear H
              have H := H1
              clear H1
              by_cases c64 : t409 = 0
              ·rw [if_pos c64] at H
               have c64b0 : (t409 == 0) = true := beq_iff_eq.mpr c64
               have c64b1 : (t409 != 0) = false := bne_eq_false_iff_eq.mpr c64
               clear c64
               by_cases c65 : t413 = 0
               ·rw [if_pos c65] at H
                have c65b0 : (t413 == 0) = true := beq_iff_eq.mpr c65
                have c65b1 : (t413 != 0) = false := bne_eq_false_iff_eq.mpr c65
                clear c65
                obtain rfl := Option.some.inj H
                go_wp2_with (first | ((with_reducible refine gate_callee (f := 28) rfl ?_); refine goesL_ (some 165) rfl rfl Try.func28 (by kernel_rfl) rfl #[.int .i64 a0, .slice A2 l2.length c2] rfl (by (try simp only [map_toArray, map_cons, map_nil]); first | done | rfl | (simp only [length_drop, length_take]; rfl)) ?_; (with_reducible refine (leaf_Gaps.calls kj56 a0 _ _ l2 t408 t409 _ ?side1 ?side2 A61.out).mono ?_); (case side1 => repeat (first | exact (Kd.C_below HR2.out HB.out) | (with_reducible refine Kd.C_alloc ?_ _) | (with_reducible refine Kd.C_drewN ?_ _) | (with_reducible refine Kd.C_drew ?_))); (case side2 => exact HC2.out); rintro e w66 ⟨v410, rfl, ho0, hb⟩; refine ⟨_, rfl, ?_⟩; have n0_ := ak_ (Kd.R_lower ho0 (below_size (by repeat (first | (with_reducible first | exact HB.out | apply ba_ | apply bn_ | apply bd_) | exact HB.out)))); have n1_ := ak_ (below_step (by repeat (first | (with_reducible first | exact HB.out | apply ba_ | apply bn_ | apply bd_) | exact HB.out)) hb); clear HB; have HO411 := n0_; have HB := n1_; clear n0_ n1_; (try clear hb); (try clear hb2); (try clear hk); (try clear hi); (try clear ho0); obtain ⟨Ao67, co67, eo67⟩ := Kd.R_slice HO411.out; subst eo67) | ((with_reducible refine gate_callee (f := 27) rfl ?_); refine goesL_ (some 171) rfl rfl Try.func27 (by kernel_rfl) rfl #[.int .i64 a0, .slice Ao67 t408.length co67] rfl (by (try simp only [map_toArray, map_cons, map_nil]); first | done | rfl | (simp only [length_drop, length_take]; rfl)) ?_; (with_reducible refine (leaf_Many.calls kj56 a0 _ _ t408 t412 t413 _ ?side1 ?side2 A62.out).mono ?_); (case side1 => repeat (first | exact (Kd.R_reads' HO411.out).2.2 | (with_reducible refine Kd.C_alloc ?_ _) | (with_reducible refine Kd.C_drewN ?_ _) | (with_reducible refine Kd.C_drew ?_))); (case side2 => exact (Kd.R_reads' HO411.out).2.1); rintro e w68 ⟨rfl, hb⟩; refine ⟨_, rfl, ?_⟩; have n0_ := ak_ (Kd.R_below (by (with_reducible repeat (first | apply Kd.R_alloc | apply Kd.R_drewN | apply Kd.R_drew)); exact HO411.out) hb); have n1_ := ak_ (below_step (by repeat (first | (with_reducible first | exact HB.out | apply ba_ | apply bn_ | apply bd_) | exact HB.out)) hb); clear HO411; clear HB; have HO411 := n0_; have HB := n1_; clear n0_ n1_; (try clear hb); (try clear hb2); (try clear hk); (try clear hi)))
                go_ret
                exact ⟨by first | rfl | (simp <;> rfl) | (simp [*] <;> rfl), by repeat (first | (with_reducible first | exact HB.out | apply ba_ | apply bn_ | apply bd_) | exact HB.out)⟩
               ·rw [if_neg c65] at H
                have c65b0 : (t413 == 0) = false := beq_eq_false_iff_ne.mpr c65
                have c65b1 : (t413 != 0) = true := bne_iff_ne.mpr c65
                exact absurd ((Option.some.inj H).trans hT.out) Bool.false_ne_true
              ·rw [if_neg c64] at H
               have c64b0 : (t409 == 0) = false := beq_eq_false_iff_ne.mpr c64
               have c64b1 : (t409 != 0) = true := bne_iff_ne.mpr c64
               exact absurd ((Option.some.inj H).trans hT.out) Bool.false_ne_true
             ·replace c63 := Bool.eq_false_iff.mpr c63
              subst c63
              have H1 : (some false) = some r := by rw [if_neg (show ¬ (false = true) by decide)] at H; exact H
              clear H
              have H := H1
              clear H1
              exact absurd ((Option.some.inj H).trans hT.out) Bool.false_ne_true
   ·rw [if_neg c9] at H
    have c9b0 : (t387 == 0) = false := beq_eq_false_iff_ne.mpr c9
    have c9b1 : (t387 != 0) = true := bne_iff_ne.mpr c9
    by_cases c69 : t385 = true
    ·subst c69
     have H1 : (some ((t386.length : Int) == 0)) = some r := by rw [if_pos rfl] at H; exact H
     clear H
     have H := H1
     clear H1
     obtain rfl := Option.some.inj H
     go_enter Try.func12, Try.ntmps12
     go_wp2_with (first | ((with_reducible refine gate_callee (f := 30) rfl ?_); refine goesL_ (some 32) rfl rfl Try.func30 (by kernel_rfl) rfl #[] rfl (by (try simp only [map_toArray, map_cons, map_nil]); first | done | rfl | (simp only [length_drop, length_take]; rfl)) ?_; (with_reducible refine (medlarlaw12_live.calls k  true _ A5.out).mono ?_); rintro e w70 ⟨rfl, hb⟩; refine ⟨_, rfl, ?_⟩; have n0_ := ak_ (below_step (by repeat (first | (with_reducible first | exact HB.out | apply ba_ | apply bn_ | apply bd_) | exact HB.out)) hb); clear HB; have HB := n0_; clear n0_; (try clear hb); (try clear hb2); (try clear hk); (try clear hi)) | ((with_reducible refine gate_callee (f := 35) rfl ?_); refine goesL_ (some 41) rfl rfl Try.func35 (by kernel_rfl) rfl #[.int .i64 a0, .int .i64 a1, .slice A2 l2.length c2] rfl (by (try simp only [map_toArray, map_cons, map_nil]); first | done | rfl | (simp only [length_drop, length_take]; rfl)) ?_; (with_reducible refine (layer_Cover.calls k a0 a1 _ _ l2 t386 t387 _ ?side1 ?side2 A8.out).mono ?_); (case side1 => repeat (first | exact (Kd.C_below HR2.out HB.out) | (with_reducible refine Kd.C_alloc ?_ _) | (with_reducible refine Kd.C_drewN ?_ _) | (with_reducible refine Kd.C_drew ?_))); (case side2 => exact HC2.out); rintro e w71 ⟨v388, rfl, ho0, hb⟩; refine ⟨_, rfl, ?_⟩; have n0_ := ak_ (Kd.R_lower ho0 (below_size (by repeat (first | (with_reducible first | exact HB.out | apply ba_ | apply bn_ | apply bd_) | exact HB.out)))); have n1_ := ak_ (below_step (by repeat (first | (with_reducible first | exact HB.out | apply ba_ | apply bn_ | apply bd_) | exact HB.out)) hb); clear HB; have HO389 := n0_; have HB := n1_; clear n0_ n1_; (try clear hb); (try clear hb2); (try clear hk); (try clear hi); (try clear ho0); obtain ⟨Ao72, co72, eo72⟩ := Kd.R_slice HO389.out; subst eo72))
     go_ret
     exact ⟨by first | rfl | (simp <;> rfl) | (simp [*] <;> rfl), by repeat (first | (with_reducible first | exact HB.out | apply ba_ | apply bn_ | apply bd_) | exact HB.out)⟩
    ·replace c69 := Bool.eq_false_iff.mpr c69
     subst c69
     have H1 : (some false) = some r := by rw [if_neg (show ¬ (false = true) by decide)] at H; exact H
     clear H
     have H := H1
     clear H1
     exact absurd ((Option.some.inj H).trans hT.out) Bool.false_ne_true

/-- THE ONE PURE STATEMENT of medlarlaw12_LayerCovers: yours. -/
def medlarlaw12_LayerCovers.Pure : Prop := ∀ (a0 : Int) (a1 : Int) (l2 : List Int) (a3 : Int), (Lit.int .i64 a0).wf = true → (Lit.int .i64 a1).wf = true → l2.length ≤ maxLen → l2.length * 8 ≤ 140737488351232 → (∀ x ∈ l2, (Lit.int .u64 x).wf = true) → (Lit.int .u64 a3).wf = true → ∃ k, medlarlaw12_LayerCovers.f k a0 a1 l2 a3 = some true
theorem medlarlaw12_LayerCovers.walk (P : medlarlaw12_LayerCovers.Pure) (a0 : Int) (a1 : Int) (a2 : Option Addr) (len2 cap2 : Nat) (z2 : List Int) (a3 : Int) (w : World) (w0 : (Lit.int .i64 a0).wf = true) (w1 : (Lit.int .i64 a1).wf = true) (w2 : (a2 = none ∧ len2 = 0 ∧ cap2 = 0 ∧ z2 = []) ∨ ∃ x, a2 = some x ∧ len2 ≤ cap2 ∧ cap2 ≤ maxLen ∧ z2.length = cap2 ∧ (∀ i, i < z2.length → w.cell? (x.add i) = some (.int .u64 (z2.getD i 0))) ∧ ∀ n ∈ z2, (Lit.int .u64 n).wf = true) (y2 : len2 * 8 ≤ 140737488351232) (w3 : (Lit.int .u64 a3).wf = true) :
   Calls Try.prog 12 #[.int .i64 a0, .int .i64 a1, .slice a2 len2 cap2, .int .u64 a3] w fun e w' => e = .returned (.bool true) ∧ Below w.heap.size w w' := by
  obtain ⟨l2, rfl, hr2, hm2, hw2, hc2⟩ := ReadsInt.ofRowC w2
  obtain ⟨k, h⟩ := P a0 a1 l2 a3 w0 w1 hm2 y2 hw2 w3
  refine (medlarlaw12_LayerCovers.calls k a0 a1 _ _ l2 a3 true w (Kd.C_of_reads (d := (0 : Int)) (h1 := fun _ => rfl) hr2) hc2 h ⟨rfl⟩).mono ?_
  rintro e w' ⟨rfl, hd⟩
  exact ⟨rfl, hd⟩

end Go.Proofs.Ytmffkfakcbopcaa.MP
