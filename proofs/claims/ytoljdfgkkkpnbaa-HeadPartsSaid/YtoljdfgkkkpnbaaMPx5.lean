-- written by a program of this session (wip/tools/mprint.sh) for this seat
import Derived.Test.YtoljdfgkkkpnbaaMPx0
import Derived.Test.YtoljdfgkkkpnbaaMPx3
import Derived.Test.YtoljdfgkkkpnbaaMPx4
namespace Go.Proofs.Ytoljdfgkkkpnbaa.MP
open Go.RowKit Go.Proofs.YtoljdfgkkkpnbaaW.PrintWords Go.Proofs.YtoljdfgkkkpnbaaW.PrintLast Go.Proofs.YtoljdfgkkkpnbaaW.PrintMore
open List (setIfInBounds_toArray set_cons_zero set_cons_succ map_toArray map_cons map_nil length_drop length_take)
attribute [local go_sem] max2_int min2_int max_two min_two max_three min_three max_four min_four   -- for this text's walks alone
set_option linter.unusedVariables false
set_option linter.unusedSimpArgs false

def bA5 (k n : Nat) : Array Bool := (Array.range n).map fun i => decide (i < k)
/-! ### medlarlaw16_HeadParts: function 3 -/
mutual
def medlarlaw16_HeadParts.j0 : Nat → Int → Bool → Bool → Int → Int → Int → List (S41) → Bool → Bool → Int → Int → Int → Int → Int → Int → Int → Option (Bool)
  | 0, _, _, _, _, _, _, _, _, _, _, _, _, _, _, _, _ => none
  | k + 1, x1, x5, x30, x221000, x221001, x221002, x221003, x221004, x221005, x221006, x221007, x221008, x221009, x221010, x221011, x221012 => if x30 = true then (some x5) else (if (x221003.length : Int) = 0 then (none) else (if 0 ≤ (Int.tmod (wrap64 ((Int.tmod x1 (x221003.length : Int)) + (x221003.length : Int))) (x221003.length : Int)) then (if (Int.tmod (wrap64 ((Int.tmod x1 (x221003.length : Int)) + (x221003.length : Int))) (x221003.length : Int)) ≤ (x221003.length : Int) then ((some (x221003.take ((Int.tmod (wrap64 ((Int.tmod x1 (x221003.length : Int)) + (x221003.length : Int))) (x221003.length : Int)) : Int).toNat : List (S41))).bind fun y224 => (if ([] : List (S41)).length + y224.length < 1759218604441 then ((some (([] : List (S41)) ++ y224 : List (S41))).bind fun y228 => (if 0 ≤ (wrap64 ((Int.tmod (wrap64 ((Int.tmod x1 (x221003.length : Int)) + (x221003.length : Int))) (x221003.length : Int)) + 1)) then (if (wrap64 ((Int.tmod (wrap64 ((Int.tmod x1 (x221003.length : Int)) + (x221003.length : Int))) (x221003.length : Int)) + 1)) ≤ (x221003.length : Int) then ((some (x221003.drop ((wrap64 ((Int.tmod (wrap64 ((Int.tmod x1 (x221003.length : Int)) + (x221003.length : Int))) (x221003.length : Int)) + 1)) : Int).toNat : List (S41))).bind fun y231 => (if y228.length + y231.length < 1759218604441 then ((head_Bytes.f k x221000 x221001 x221002 x221003 x221004 x221005 x221006 x221007 x221008 x221009 x221010 x221011 x221012).bind fun bt239 => ((head_Bytes.f k x221000 x221001 x221002 (y228 ++ y231) x221004 x221005 x221006 x221007 x221008 x221009 x221010 x221011 x221012).bind fun bt243 => ((head_Bytes.f k x221000 x221001 x221002 x221003 x221004 x221005 x221006 x221007 x221008 x221009 (Go.bits .xor .u64 x221010 1) x221011 x221012).bind fun bt247 => (if bt239.2 = 0 then (if bt243.2 = 0 then (if bt247.2 = 0 then (if (wrap64 ((bt243.1.length : Int) + 48)) = (bt239.1.length : Int) then (if (bt247.1.length : Int) = (bt239.1.length : Int) then (medlarlaw16_HeadParts.j1 k (Int.tmod (wrap64 ((Int.tmod x1 (x221003.length : Int)) + (x221003.length : Int))) (x221003.length : Int)) x5 ((strOfNums bt247.1).toList == (strOfNums bt239.1).toList) x221000 x221001 x221002 x221003 x221004 x221005 x221006 x221007 x221008 x221009 x221010 x221011 x221012) else (medlarlaw16_HeadParts.j1 k (Int.tmod (wrap64 ((Int.tmod x1 (x221003.length : Int)) + (x221003.length : Int))) (x221003.length : Int)) x5 true x221000 x221001 x221002 x221003 x221004 x221005 x221006 x221007 x221008 x221009 x221010 x221011 x221012)) else (medlarlaw16_HeadParts.j1 k (Int.tmod (wrap64 ((Int.tmod x1 (x221003.length : Int)) + (x221003.length : Int))) (x221003.length : Int)) x5 true x221000 x221001 x221002 x221003 x221004 x221005 x221006 x221007 x221008 x221009 x221010 x221011 x221012)) else (medlarlaw16_HeadParts.j1 k (Int.tmod (wrap64 ((Int.tmod x1 (x221003.length : Int)) + (x221003.length : Int))) (x221003.length : Int)) x5 true x221000 x221001 x221002 x221003 x221004 x221005 x221006 x221007 x221008 x221009 x221010 x221011 x221012)) else (medlarlaw16_HeadParts.j1 k (Int.tmod (wrap64 ((Int.tmod x1 (x221003.length : Int)) + (x221003.length : Int))) (x221003.length : Int)) x5 true x221000 x221001 x221002 x221003 x221004 x221005 x221006 x221007 x221008 x221009 x221010 x221011 x221012)) else (medlarlaw16_HeadParts.j1 k (Int.tmod (wrap64 ((Int.tmod x1 (x221003.length : Int)) + (x221003.length : Int))) (x221003.length : Int)) x5 true x221000 x221001 x221002 x221003 x221004 x221005 x221006 x221007 x221008 x221009 x221010 x221011 x221012))))) else (none))) else (none)) else (none))) else (none))) else (none)) else (none)))
def medlarlaw16_HeadParts.j1 : Nat → Int → Bool → Bool → Int → Int → Int → List (S41) → Bool → Bool → Int → Int → Int → Int → Int → Int → Int → Option (Bool)
  | 0, _, _, _, _, _, _, _, _, _, _, _, _, _, _, _, _ => none
  | k + 1, x1, x5, x115, x221000, x221001, x221002, x221003, x221004, x221005, x221006, x221007, x221008, x221009, x221010, x221011, x221012 => if x115 = true then (some false) else (if x1 = 0 then (some x5) else (if ([] : List (S41)).length + x221003.length < 1759218604441 then ((some (([] : List (S41)) ++ x221003 : List (S41))).bind fun y252 => (if 0 ≤ (wrap64 (x1 - 1)) then (if (wrap64 (x1 - 1)) < (x221003.length : Int) then (if 0 ≤ x1 then (if x1 < (y252.length : Int) then (if x1 < (x221003.length : Int) then (if (wrap64 (x1 - 1)) < (y252.length : Int) then (if x5 = true then ((head_Check.f k x221000 x221001 x221002 ((y252.set (x1 : Int).toNat (⟨(⟨(rd_T41 x221003 (wrap64 (x1 - 1))).f0.f0, (rd_T41 x221003 (wrap64 (x1 - 1))).f0.f1⟩ : S39), (⟨(rd_T41 x221003 (wrap64 (x1 - 1))).f1.f0, (rd_T41 x221003 (wrap64 (x1 - 1))).f1.f1, (⟨(rd_T41 x221003 (wrap64 (x1 - 1))).f1.f2.f0, (rd_T41 x221003 (wrap64 (x1 - 1))).f1.f2.f1⟩ : S25), (⟨(⟨(rd_T41 x221003 (wrap64 (x1 - 1))).f1.f3.f0.f0, (rd_T41 x221003 (wrap64 (x1 - 1))).f1.f3.f0.f1⟩ : S25), (⟨(rd_T41 x221003 (wrap64 (x1 - 1))).f1.f3.f1.f0, (rd_T41 x221003 (wrap64 (x1 - 1))).f1.f3.f1.f1⟩ : S25)⟩ : S27), (rd_T41 x221003 (wrap64 (x1 - 1))).f1.f4⟩ : S29)⟩ : S41)).set ((wrap64 (x1 - 1)) : Int).toNat (⟨(⟨(rd_T41 x221003 x1).f0.f0, (rd_T41 x221003 x1).f0.f1⟩ : S39), (⟨(rd_T41 x221003 x1).f1.f0, (rd_T41 x221003 x1).f1.f1, (⟨(rd_T41 x221003 x1).f1.f2.f0, (rd_T41 x221003 x1).f1.f2.f1⟩ : S25), (⟨(⟨(rd_T41 x221003 x1).f1.f3.f0.f0, (rd_T41 x221003 x1).f1.f3.f0.f1⟩ : S25), (⟨(rd_T41 x221003 x1).f1.f3.f1.f0, (rd_T41 x221003 x1).f1.f3.f1.f1⟩ : S25)⟩ : S27), (rd_T41 x221003 x1).f1.f4⟩ : S29)⟩ : S41)) x221004 x221005 x221006 x221007 x221008 x221009 x221010 x221011 x221012).bind fun t259 => (some (t259 == 1))) else (some false)) else (none)) else (none)) else (none)) else (none)) else (none)) else (none))) else (none)))
end
def medlarlaw16_HeadParts.f (k : Nat) (a0_0 : Int) (a0_1 : Int) (a0_2 : Int) (l0_3 : List (S41)) (a0_4 : Bool) (a0_5 : Bool) (a0_6 : Int) (a0_7 : Int) (a0_8 : Int) (a0_9 : Int) (a0_10 : Int) (a0_11 : Int) (a0_12 : Int) (a1 : Int) : Option (Bool) := (medlarlaw16_live.f k).bind fun t221 => (if (l0_3.length : Int) > 60 then (medlarlaw16_HeadParts.j0 k a1 t221 true a0_0 a0_1 a0_2 l0_3 a0_4 a0_5 a0_6 a0_7 a0_8 a0_9 a0_10 a0_11 a0_12) else ((head_Check.f k a0_0 a0_1 a0_2 l0_3 a0_4 a0_5 a0_6 a0_7 a0_8 a0_9 a0_10 a0_11 a0_12).bind fun t222 => (if t222 = 0 then (medlarlaw16_HeadParts.j0 k a1 t221 ((l0_3.length : Int) == 0) a0_0 a0_1 a0_2 l0_3 a0_4 a0_5 a0_6 a0_7 a0_8 a0_9 a0_10 a0_11 a0_12) else (medlarlaw16_HeadParts.j0 k a1 t221 true a0_0 a0_1 a0_2 l0_3 a0_4 a0_5 a0_6 a0_7 a0_8 a0_9 a0_10 a0_11 a0_12))))
theorem medlarlaw16_HeadParts.mono_l : ∀ k, (∀ y0 y1 y2 y3 y4 y5 y6 y7 y8 y9 y10 y11 y12 y13 y14 y15, LeO (medlarlaw16_HeadParts.j0 k y0 y1 y2 y3 y4 y5 y6 y7 y8 y9 y10 y11 y12 y13 y14 y15) (medlarlaw16_HeadParts.j0 (k + 1) y0 y1 y2 y3 y4 y5 y6 y7 y8 y9 y10 y11 y12 y13 y14 y15)) ∧ (∀ y0 y1 y2 y3 y4 y5 y6 y7 y8 y9 y10 y11 y12 y13 y14 y15, LeO (medlarlaw16_HeadParts.j1 k y0 y1 y2 y3 y4 y5 y6 y7 y8 y9 y10 y11 y12 y13 y14 y15) (medlarlaw16_HeadParts.j1 (k + 1) y0 y1 y2 y3 y4 y5 y6 y7 y8 y9 y10 y11 y12 y13 y14 y15))
  | 0 => ⟨fun _ _ _ _ _ _ _ _ _ _ _ _ _ _ _ _ r h => by simp [medlarlaw16_HeadParts.j0] at h, fun _ _ _ _ _ _ _ _ _ _ _ _ _ _ _ _ r h => by simp [medlarlaw16_HeadParts.j1] at h⟩
  | k + 1 => by
   obtain ⟨ih0, ih1⟩ := medlarlaw16_HeadParts.mono_l k
   refine ⟨?_, ?_⟩
   ·intro y0 y1 y2 y3 y4 y5 y6 y7 y8 y9 y10 y11 y12 y13 y14 y15
    unfold medlarlaw16_HeadParts.j0
    repeat' first
    | (with_reducible exact ih0 _ _ _ _ _ _ _ _ _ _ _ _ _ _ _ _)
    | (with_reducible exact ih1 _ _ _ _ _ _ _ _ _ _ _ _ _ _ _ _)
    | (with_reducible exact head_Bytes.mono _ _ _ _ _ _ _ _ _ _ _ _ _ _)
    | (with_reducible exact head_Check.mono _ _ _ _ _ _ _ _ _ _ _ _ _ _)
    | (with_reducible exact medlarlaw16_live.mono _)
    | (with_reducible exact LeO.refl _)
    | (with_reducible exact LeO.none _)
    | (with_reducible refine LeO.ite ?_ ?_)
    | (with_reducible refine LeO.bind ?_ (fun _ => ?_))
    | exact ih0 _ _ _ _ _ _ _ _ _ _ _ _ _ _ _ _
    | exact ih1 _ _ _ _ _ _ _ _ _ _ _ _ _ _ _ _
    | exact head_Bytes.mono _ _ _ _ _ _ _ _ _ _ _ _ _ _
    | exact head_Check.mono _ _ _ _ _ _ _ _ _ _ _ _ _ _
    | exact medlarlaw16_live.mono _
    | exact LeO.none _
    | refine LeO.ite ?_ ?_
    | refine LeO.bind ?_ (fun _ => ?_)
   ·intro y0 y1 y2 y3 y4 y5 y6 y7 y8 y9 y10 y11 y12 y13 y14 y15
    unfold medlarlaw16_HeadParts.j1
    repeat' first
    | (with_reducible exact ih0 _ _ _ _ _ _ _ _ _ _ _ _ _ _ _ _)
    | (with_reducible exact ih1 _ _ _ _ _ _ _ _ _ _ _ _ _ _ _ _)
    | (with_reducible exact head_Bytes.mono _ _ _ _ _ _ _ _ _ _ _ _ _ _)
    | (with_reducible exact head_Check.mono _ _ _ _ _ _ _ _ _ _ _ _ _ _)
    | (with_reducible exact medlarlaw16_live.mono _)
    | (with_reducible exact LeO.refl _)
    | (with_reducible exact LeO.none _)
    | (with_reducible refine LeO.ite ?_ ?_)
    | (with_reducible refine LeO.bind ?_ (fun _ => ?_))
    | exact ih0 _ _ _ _ _ _ _ _ _ _ _ _ _ _ _ _
    | exact ih1 _ _ _ _ _ _ _ _ _ _ _ _ _ _ _ _
    | exact head_Bytes.mono _ _ _ _ _ _ _ _ _ _ _ _ _ _
    | exact head_Check.mono _ _ _ _ _ _ _ _ _ _ _ _ _ _
    | exact medlarlaw16_live.mono _
    | exact LeO.none _
    | refine LeO.ite ?_ ?_
    | refine LeO.bind ?_ (fun _ => ?_)
theorem medlarlaw16_HeadParts.mono : ∀ a0 a1 a2 a3 a4 a5 a6 a7 a8 a9 a10 a11 a12 a13 k, LeO (medlarlaw16_HeadParts.f k a0 a1 a2 a3 a4 a5 a6 a7 a8 a9 a10 a11 a12 a13) (medlarlaw16_HeadParts.f (k + 1) a0 a1 a2 a3 a4 a5 a6 a7 a8 a9 a10 a11 a12 a13) := by
  intro a0 a1 a2 a3 a4 a5 a6 a7 a8 a9 a10 a11 a12 a13 k
  obtain ⟨ih0, ih1⟩ := medlarlaw16_HeadParts.mono_l k
  unfold medlarlaw16_HeadParts.f
  repeat' first
    | (with_reducible exact ih0 _ _ _ _ _ _ _ _ _ _ _ _ _ _ _ _)
    | (with_reducible exact ih1 _ _ _ _ _ _ _ _ _ _ _ _ _ _ _ _)
    | (with_reducible exact head_Bytes.mono _ _ _ _ _ _ _ _ _ _ _ _ _ _)
    | (with_reducible exact head_Check.mono _ _ _ _ _ _ _ _ _ _ _ _ _ _)
    | (with_reducible exact medlarlaw16_live.mono _)
    | (with_reducible exact LeO.refl _)
    | (with_reducible exact LeO.none _)
    | (with_reducible refine LeO.ite ?_ ?_)
    | (with_reducible refine LeO.bind ?_ (fun _ => ?_))
    | exact ih0 _ _ _ _ _ _ _ _ _ _ _ _ _ _ _ _
    | exact ih1 _ _ _ _ _ _ _ _ _ _ _ _ _ _ _ _
    | exact head_Bytes.mono _ _ _ _ _ _ _ _ _ _ _ _ _ _
    | exact head_Check.mono _ _ _ _ _ _ _ _ _ _ _ _ _ _
    | exact medlarlaw16_live.mono _
    | exact LeO.none _
    | refine LeO.ite ?_ ?_
    | refine LeO.bind ?_ (fun _ => ?_)
def medlarlaw16_HeadParts.T4 : Bool × List (List Nat × List Nat) := (true, [([], []), ([], []), ([1], [1]), ([2], [2]), ([0, 3], [0, 3]), ([], []), ([5], [5]), ([6], [6]), ([4, 7], [4, 7]), ([], []), ([9], [9]), ([10], [10]), ([8, 11], [8, 11]), ([12, 0, 1, 2, 3, 4, 5, 6, 7, 8, 9, 10, 11, 12], [0, 12])])
def medlarlaw16_HeadParts.B4 : List Nat := [0, 0, 2, 6, 15, 0, 32, 96, 255, 0, 512, 1536, 4095, 8191]
theorem medlarlaw16_HeadParts.tab4 : rtab .any (opsOf Try.f3 4) = medlarlaw16_HeadParts.T4 := by kernel_rfl
theorem medlarlaw16_HeadParts.bits4 : waitsOk medlarlaw16_HeadParts.T4.2 medlarlaw16_HeadParts.B4 = true := by kernel_rfl
def medlarlaw16_HeadParts.T6 : Bool × List (List Nat × List Nat) := (true, [([], []), ([0], [0]), ([], []), ([1, 2], [1, 2]), ([3], [3]), ([], []), ([5], [5]), ([], []), ([7], [7]), ([6, 8], [6, 8]), ([4, 9, 4], [4, 9]), ([0, 1, 2, 3, 4, 5, 6, 7, 8, 9, 10], []), ([11, 10, 10, 0, 1, 2, 3, 4, 5, 6, 7, 8, 9, 10], [10, 11])])
def medlarlaw16_HeadParts.B6 : List Nat := [0, 1, 0, 7, 15, 0, 32, 0, 128, 480, 1023, 2047, 4095]
theorem medlarlaw16_HeadParts.tab6 : rtab .any (opsOf Try.f3 6) = medlarlaw16_HeadParts.T6 := by kernel_rfl
theorem medlarlaw16_HeadParts.bits6 : waitsOk medlarlaw16_HeadParts.T6.2 medlarlaw16_HeadParts.B6 = true := by kernel_rfl
def medlarlaw16_HeadParts.T18 : Bool × List (List Nat × List Nat) := (true, [([], []), ([0], [0]), ([], []), ([], []), ([3], [3]), ([], []), ([5], [5]), ([4, 6], [4, 6]), ([7], [7]), ([1, 2, 0, 1, 2, 3, 4, 5, 6, 7, 8], [1, 2]), ([9, 8, 0, 1, 2, 3, 4, 5, 6, 7, 8], [8, 9])])
def medlarlaw16_HeadParts.B18 : List Nat := [0, 1, 0, 0, 8, 0, 32, 120, 248, 511, 1023]
theorem medlarlaw16_HeadParts.tab18 : rtab .any (opsOf Try.f3 18) = medlarlaw16_HeadParts.T18 := by kernel_rfl
theorem medlarlaw16_HeadParts.bits18 : waitsOk medlarlaw16_HeadParts.T18.2 medlarlaw16_HeadParts.B18 = true := by kernel_rfl
def medlarlaw16_HeadParts.T19 : Bool × List (List Nat × List Nat) := (true, [([], []), ([0], [0]), ([], []), ([2], [2]), ([], []), ([4], [4]), ([], []), ([5, 6], [5, 6]), ([7], [7]), ([1, 3, 0, 1, 2, 3, 4, 5, 6, 7, 8], [1, 3]), ([9, 8, 0, 1, 2, 3, 4, 5, 6, 7, 8], [8, 9])])
def medlarlaw16_HeadParts.B19 : List Nat := [0, 1, 0, 4, 0, 16, 0, 112, 240, 511, 1023]
theorem medlarlaw16_HeadParts.tab19 : rtab .any (opsOf Try.f3 19) = medlarlaw16_HeadParts.T19 := by kernel_rfl
theorem medlarlaw16_HeadParts.bits19 : waitsOk medlarlaw16_HeadParts.T19.2 medlarlaw16_HeadParts.B19 = true := by kernel_rfl
set_option maxHeartbeats 100000000 in
set_option maxRecDepth 100000 in
theorem medlarlaw16_HeadParts.calls (k : Nat) (a0_0 : Int) (a0_1 : Int) (a0_2 : Int) (A0_3 : Option Addr) (c0_3 : Nat) (l0_3 : List (S41)) (a0_4 : Bool) (a0_5 : Bool) (a0_6 : Int) (a0_7 : Int) (a0_8 : Int) (a0_9 : Int) (a0_10 : Int) (a0_11 : Int) (a0_12 : Int) (a1 : Int) (r : Bool) (w : World) (hr0_3 : Kd.C k41 w A0_3 l0_3.length l0_3) (hc0_3 : l0_3.length ≤ c0_3) (h : medlarlaw16_HeadParts.f k a0_0 a0_1 a0_2 l0_3 a0_4 a0_5 a0_6 a0_7 a0_8 a0_9 a0_10 a0_11 a0_12 a1 = some r) (hT : Aside0 (r = true)) :
   Calls Try.prog 3 #[.agg #[.int .i64 a0_0, .int .i64 a0_1, .int .i64 a0_2, .slice A0_3 l0_3.length c0_3, .bool a0_4, .bool a0_5, .int .u64 a0_6, .int .u64 a0_7, .int .u64 a0_8, .int .u64 a0_9, .int .u64 a0_10, .int .u64 a0_11, .int .i64 a0_12], .int .i64 a1] w fun e w' => e = .returned (.bool r) ∧ Below w.heap.size w w' := by
  have hu31 := Try.underlying31
  have hu41 := Try.underlying41
  have HR0_3 := ak_ hr0_3
  have HC0_3 := ak_ hc0_3
  clear hr0_3 hc0_3
  have HB := ak_ (Below.refl w.heap.size w)
  have H : ((medlarlaw16_live.f k).bind fun t221 => (if (l0_3.length : Int) > 60 then (medlarlaw16_HeadParts.j0 k a1 t221 true a0_0 a0_1 a0_2 l0_3 a0_4 a0_5 a0_6 a0_7 a0_8 a0_9 a0_10 a0_11 a0_12) else ((head_Check.f k a0_0 a0_1 a0_2 l0_3 a0_4 a0_5 a0_6 a0_7 a0_8 a0_9 a0_10 a0_11 a0_12).bind fun t222 => (if t222 = 0 then (medlarlaw16_HeadParts.j0 k a1 t221 ((l0_3.length : Int) == 0) a0_0 a0_1 a0_2 l0_3 a0_4 a0_5 a0_6 a0_7 a0_8 a0_9 a0_10 a0_11 a0_12) else (medlarlaw16_HeadParts.j0 k a1 t221 true a0_0 a0_1 a0_2 l0_3 a0_4 a0_5 a0_6 a0_7 a0_8 a0_9 a0_10 a0_11 a0_12))))) = some r := h
  clear h
  replace H := Option.bind_eq_some_iff.mp H
  obtain ⟨t221, A30, H⟩ := H
  replace H : (if (l0_3.length : Int) > 60 then (medlarlaw16_HeadParts.j0 k a1 t221 true a0_0 a0_1 a0_2 l0_3 a0_4 a0_5 a0_6 a0_7 a0_8 a0_9 a0_10 a0_11 a0_12) else ((head_Check.f k a0_0 a0_1 a0_2 l0_3 a0_4 a0_5 a0_6 a0_7 a0_8 a0_9 a0_10 a0_11 a0_12).bind fun t222 => (if t222 = 0 then (medlarlaw16_HeadParts.j0 k a1 t221 ((l0_3.length : Int) == 0) a0_0 a0_1 a0_2 l0_3 a0_4 a0_5 a0_6 a0_7 a0_8 a0_9 a0_10 a0_11 a0_12) else (medlarlaw16_HeadParts.j0 k a1 t221 true a0_0 a0_1 a0_2 l0_3 a0_4 a0_5 a0_6 a0_7 a0_8 a0_9 a0_10 a0_11 a0_12)))) = some r := H
  have A3 := ak_ A30
  clear A30
  have HC4 := ak_ H
  clear H
  go_enter Try.func3, Try.ntmps3
  go_upto_region 2 with (first | ((with_reducible refine gate_dst (N := 2) rfl ?_); (try (refine gate_guard (by rfl) ?_; dsimp only)); refine box_event ?hg (N := 2) ?hd (cs := #[.int .i64 a0_0, .int .i64 a0_1, .int .i64 a0_2, .slice A0_3 l0_3.length c0_3, .bool a0_4, .bool a0_5, .int .u64 a0_6, .int .u64 a0_7, .int .u64 a0_8, .int .u64 a0_9, .int .u64 a0_10, .int .u64 a0_11, .int .i64 a0_12]) (t := 31) ?hr ?_; (case hd => rfl); (case hg => rfl); (case hr => first | (go_simp; done) | (go_simp; rfl)); intro gb220 hg w5 hbox hb; have n0_ := ak_ (bt_ (by repeat (first | (with_reducible first | exact HB.out | apply ba_ | apply bn_ | apply bd_) | exact HB.out)) hb); have n1_ := ak_ (hbox); have n2_ := ak_ ((by rw [hg]; exact (bz_ (by repeat (first | (with_reducible first | exact HB.out | apply ba_ | apply bn_ | apply bd_) | exact HB.out))) : w.heap.size ≤ gb220)); have n3_ := ak_ ((by rw [hg]; exact (bz_ (by repeat (first | (with_reducible first | exact HB.out | apply ba_ | apply bn_ | apply bd_) | exact HB.out))) : w.heap.size ≤ gb220)); clear HB; have HB := n0_; have BK220 := n1_; have GW220 := n2_; have GE220 := n3_; clear n0_ n1_ n2_ n3_; clear hb hbox hg) | ((with_reducible refine gate_callee (f := 15) rfl ?_); refine goesL_ (some 15) rfl rfl Try.func15 (by kernel_rfl) rfl #[] rfl (by (try simp only [map_toArray, map_cons, map_nil]); first | done | rfl | (simp only [length_drop, length_take]; rfl)) ?_; (with_reducible refine (medlarlaw16_live.calls k  t221 _ A3.out).mono ?_); rintro e w6 ⟨rfl, hb⟩; refine ⟨_, rfl, ?_⟩; have n0_ := ak_ (kb_ (g := gb220) (o := .cells #[.int .i64 a0_0, .int .i64 a0_1, .int .i64 a0_2, .slice A0_3 l0_3.length c0_3, .bool a0_4, .bool a0_5, .int .u64 a0_6, .int .u64 a0_7, .int .u64 a0_8, .int .u64 a0_9, .int .u64 a0_10, .int .u64 a0_11, .int .i64 a0_12] 31 (0, 0)) (by (with_reducible repeat (first | refine kn_ ?_ _ | refine kd_ ?_ | refine ka_ ?_ _)); exact BK220.out) hb); have n1_ := ak_ (bt_ (by repeat (first | (with_reducible first | exact HB.out | apply ba_ | apply bn_ | apply bd_ | refine below_set ?_ GE220.out) | exact HB.out)) hb); clear BK220; clear HB; have BK220 := n0_; have HB := n1_; clear n0_ n1_; (try clear hb); (try clear hb2); (try clear hk); (try clear hi)))
  (try simp only [Act.put, setIfInBounds_toArray, set_cons_zero, set_cons_succ])
  go_cut [30] (fun v30 wc => ∃ (kq : Nat) (x30_3 : Bool), v30 = .bool x30_3 ∧ Aside0 (medlarlaw16_HeadParts.j0 kq a1 t221 x30_3 a0_0 a0_1 a0_2 l0_3 a0_4 a0_5 a0_6 a0_7 a0_8 a0_9 a0_10 a0_11 a0_12 = some r) ∧ Aside0 (kq ≤ k) ∧ Aside0 (wc.heap[gb220]? = some (.cells #[.int .i64 a0_0, .int .i64 a0_1, .int .i64 a0_2, (.slice A0_3 l0_3.length c0_3), .bool a0_4, .bool a0_5, .int .u64 a0_6, .int .u64 a0_7, .int .u64 a0_8, .int .u64 a0_9, .int .u64 a0_10, .int .u64 a0_11, .int .i64 a0_12] 31 (0, 0))) ∧ Aside0 (Below w.heap.size w wc))
  case first =>
   have H := HC4.out
   clear HC4
   by_cases c7 : (l0_3.length : Int) > 60
   ·rw [if_pos c7] at H
    have c7b0 : decide (60 < (l0_3.length : Int)) = true := decide_eq_true c7
    have c7b1 : decide (60 < l0_3.length) = true := decide_eq_true (by omega)
    clear c7
    (first | rw [c7b0] | (simp only [i64_w, i32_w]; rw [c7b0]) | skip)
    have H' := ak_ H
    clear H
    have hcz8_0 : w6.cell? ⟨gb220, 0, none⟩ = some (.int .i64 a0_0) := (kc_ BK220.out 0).trans rfl
    have hcz8_1 : w6.cell? ⟨gb220, 1, none⟩ = some (.int .i64 a0_1) := (kc_ BK220.out 1).trans rfl
    have hcz8_2 : w6.cell? ⟨gb220, 2, none⟩ = some (.int .i64 a0_2) := (kc_ BK220.out 2).trans rfl
    have hcz8_3 : w6.cell? ⟨gb220, 3, none⟩ = some (.slice A0_3 l0_3.length c0_3) := (kc_ BK220.out 3).trans rfl
    have hcz8_4 : w6.cell? ⟨gb220, 4, none⟩ = some (.bool a0_4) := (kc_ BK220.out 4).trans rfl
    have hcz8_5 : w6.cell? ⟨gb220, 5, none⟩ = some (.bool a0_5) := (kc_ BK220.out 5).trans rfl
    have hcz8_6 : w6.cell? ⟨gb220, 6, none⟩ = some (.int .u64 a0_6) := (kc_ BK220.out 6).trans rfl
    have hcz8_7 : w6.cell? ⟨gb220, 7, none⟩ = some (.int .u64 a0_7) := (kc_ BK220.out 7).trans rfl
    have hcz8_8 : w6.cell? ⟨gb220, 8, none⟩ = some (.int .u64 a0_8) := (kc_ BK220.out 8).trans rfl
    have hcz8_9 : w6.cell? ⟨gb220, 9, none⟩ = some (.int .u64 a0_9) := (kc_ BK220.out 9).trans rfl
    have hcz8_10 : w6.cell? ⟨gb220, 10, none⟩ = some (.int .u64 a0_10) := (kc_ BK220.out 10).trans rfl
    have hcz8_11 : w6.cell? ⟨gb220, 11, none⟩ = some (.int .u64 a0_11) := (kc_ BK220.out 11).trans rfl
    have hcz8_12 : w6.cell? ⟨gb220, 12, none⟩ = some (.int .i64 a0_12) := (kc_ BK220.out 12).trans rfl
    have hfz8_0 := kf_ BK220.out 0
    have hfz8_1 := kf_ BK220.out 1
    have hfz8_2 := kf_ BK220.out 2
    have hfz8_3 := kf_ BK220.out 3
    have hfz8_4 := kf_ BK220.out 4
    have hfz8_5 := kf_ BK220.out 5
    have hfz8_6 := kf_ BK220.out 6
    have hfz8_7 := kf_ BK220.out 7
    have hfz8_8 := kf_ BK220.out 8
    have hfz8_9 := kf_ BK220.out 9
    have hfz8_10 := kf_ BK220.out 10
    have hfz8_11 := kf_ BK220.out 11
    have hfz8_12 := kf_ BK220.out 12
    go_wp2
    go_meet
    case rel => exact ⟨_, (true), (by first | rfl | (simp; done) | (simp [*]; done)), H', ⟨by first | omega | exact Nat.le_refl _⟩, ⟨by (with_reducible repeat (first | refine kn_ ?_ _ | refine kd_ ?_ | refine ka_ ?_ _)); exact BK220.out⟩, ⟨by repeat (first | (with_reducible first | exact HB.out | apply ba_ | apply bn_ | apply bd_ | refine below_set ?_ GE220.out) | exact HB.out)⟩⟩
   ·rw [if_neg c7] at H
    have c7b0 : decide (60 < (l0_3.length : Int)) = false := decide_eq_false c7
    have c7b1 : decide (60 < l0_3.length) = false := decide_eq_false (by omega)
    clear c7
    (first | rw [c7b0] | (simp only [i64_w, i32_w]; rw [c7b0]) | skip)
    replace H := Option.bind_eq_some_iff.mp H
    obtain ⟨t222, A90, H⟩ := H
    replace H : (if t222 = 0 then (medlarlaw16_HeadParts.j0 k a1 t221 ((l0_3.length : Int) == 0) a0_0 a0_1 a0_2 l0_3 a0_4 a0_5 a0_6 a0_7 a0_8 a0_9 a0_10 a0_11 a0_12) else (medlarlaw16_HeadParts.j0 k a1 t221 true a0_0 a0_1 a0_2 l0_3 a0_4 a0_5 a0_6 a0_7 a0_8 a0_9 a0_10 a0_11 a0_12)) = some r := H
    have A9 := ak_ A90
    clear A90
    by_cases c10 : t222 = 0
    ·rw [if_pos c10] at H
     have c10b0 : (t222 == 0) = true := beq_iff_eq.mpr c10
     have c10b1 : (t222 != 0) = false := bne_eq_false_iff_eq.mpr c10
     clear c10
     have H' := ak_ H
     clear H
     have hcz11_0 : w6.cell? ⟨gb220, 0, none⟩ = some (.int .i64 a0_0) := (kc_ BK220.out 0).trans rfl
     have hcz11_1 : w6.cell? ⟨gb220, 1, none⟩ = some (.int .i64 a0_1) := (kc_ BK220.out 1).trans rfl
     have hcz11_2 : w6.cell? ⟨gb220, 2, none⟩ = some (.int .i64 a0_2) := (kc_ BK220.out 2).trans rfl
     have hcz11_3 : w6.cell? ⟨gb220, 3, none⟩ = some (.slice A0_3 l0_3.length c0_3) := (kc_ BK220.out 3).trans rfl
     have hcz11_4 : w6.cell? ⟨gb220, 4, none⟩ = some (.bool a0_4) := (kc_ BK220.out 4).trans rfl
     have hcz11_5 : w6.cell? ⟨gb220, 5, none⟩ = some (.bool a0_5) := (kc_ BK220.out 5).trans rfl
     have hcz11_6 : w6.cell? ⟨gb220, 6, none⟩ = some (.int .u64 a0_6) := (kc_ BK220.out 6).trans rfl
     have hcz11_7 : w6.cell? ⟨gb220, 7, none⟩ = some (.int .u64 a0_7) := (kc_ BK220.out 7).trans rfl
     have hcz11_8 : w6.cell? ⟨gb220, 8, none⟩ = some (.int .u64 a0_8) := (kc_ BK220.out 8).trans rfl
     have hcz11_9 : w6.cell? ⟨gb220, 9, none⟩ = some (.int .u64 a0_9) := (kc_ BK220.out 9).trans rfl
     have hcz11_10 : w6.cell? ⟨gb220, 10, none⟩ = some (.int .u64 a0_10) := (kc_ BK220.out 10).trans rfl
     have hcz11_11 : w6.cell? ⟨gb220, 11, none⟩ = some (.int .u64 a0_11) := (kc_ BK220.out 11).trans rfl
     have hcz11_12 : w6.cell? ⟨gb220, 12, none⟩ = some (.int .i64 a0_12) := (kc_ BK220.out 12).trans rfl
     have hfz11_0 := kf_ BK220.out 0
     have hfz11_1 := kf_ BK220.out 1
     have hfz11_2 := kf_ BK220.out 2
     have hfz11_3 := kf_ BK220.out 3
     have hfz11_4 := kf_ BK220.out 4
     have hfz11_5 := kf_ BK220.out 5
     have hfz11_6 := kf_ BK220.out 6
     have hfz11_7 := kf_ BK220.out 7
     have hfz11_8 := kf_ BK220.out 8
     have hfz11_9 := kf_ BK220.out 9
     have hfz11_10 := kf_ BK220.out 10
     have hfz11_11 := kf_ BK220.out 11
     have hfz11_12 := kf_ BK220.out 12
     go_wp2_with (first | (go_at_call 16; (with_reducible refine (head_Check.calls k a0_0 a0_1 a0_2 _ _ l0_3 a0_4 a0_5 a0_6 a0_7 a0_8 a0_9 a0_10 a0_11 a0_12 t222 _ ?side1 ?side2 A9.out).mono ?_); (case side1 => repeat (first | exact (Kd.C_below HR0_3.out HB.out) | (with_reducible refine Kd.C_alloc ?_ _) | (with_reducible refine Kd.C_drewN ?_ _) | (with_reducible refine Kd.C_drew ?_))); (case side2 => exact HC0_3.out); rintro e w12 ⟨rfl, hb⟩; have n0_ := ak_ (kb_ (g := gb220) (o := .cells #[.int .i64 a0_0, .int .i64 a0_1, .int .i64 a0_2, .slice A0_3 l0_3.length c0_3, .bool a0_4, .bool a0_5, .int .u64 a0_6, .int .u64 a0_7, .int .u64 a0_8, .int .u64 a0_9, .int .u64 a0_10, .int .u64 a0_11, .int .i64 a0_12] 31 (0, 0)) (by (with_reducible repeat (first | refine kn_ ?_ _ | refine kd_ ?_ | refine ka_ ?_ _)); exact BK220.out) hb); have n1_ := ak_ (bt_ (by repeat (first | (with_reducible first | exact HB.out | apply ba_ | apply bn_ | apply bd_ | refine below_set ?_ GE220.out) | exact HB.out)) hb); clear BK220; clear HB; have BK220 := n0_; have HB := n1_; clear n0_ n1_; (try clear hb); (try clear hb2); (try clear hk); (try clear hi); have hcz13_0 : w12.cell? ⟨gb220, 0, none⟩ = some (.int .i64 a0_0) := (kc_ BK220.out 0).trans rfl; have hcz13_1 : w12.cell? ⟨gb220, 1, none⟩ = some (.int .i64 a0_1) := (kc_ BK220.out 1).trans rfl; have hcz13_2 : w12.cell? ⟨gb220, 2, none⟩ = some (.int .i64 a0_2) := (kc_ BK220.out 2).trans rfl; have hcz13_3 : w12.cell? ⟨gb220, 3, none⟩ = some (.slice A0_3 l0_3.length c0_3) := (kc_ BK220.out 3).trans rfl; have hcz13_4 : w12.cell? ⟨gb220, 4, none⟩ = some (.bool a0_4) := (kc_ BK220.out 4).trans rfl; have hcz13_5 : w12.cell? ⟨gb220, 5, none⟩ = some (.bool a0_5) := (kc_ BK220.out 5).trans rfl; have hcz13_6 : w12.cell? ⟨gb220, 6, none⟩ = some (.int .u64 a0_6) := (kc_ BK220.out 6).trans rfl; have hcz13_7 : w12.cell? ⟨gb220, 7, none⟩ = some (.int .u64 a0_7) := (kc_ BK220.out 7).trans rfl; have hcz13_8 : w12.cell? ⟨gb220, 8, none⟩ = some (.int .u64 a0_8) := (kc_ BK220.out 8).trans rfl; have hcz13_9 : w12.cell? ⟨gb220, 9, none⟩ = some (.int .u64 a0_9) := (kc_ BK220.out 9).trans rfl; have hcz13_10 : w12.cell? ⟨gb220, 10, none⟩ = some (.int .u64 a0_10) := (kc_ BK220.out 10).trans rfl; have hcz13_11 : w12.cell? ⟨gb220, 11, none⟩ = some (.int .u64 a0_11) := (kc_ BK220.out 11).trans rfl; have hcz13_12 : w12.cell? ⟨gb220, 12, none⟩ = some (.int .i64 a0_12) := (kc_ BK220.out 12).trans rfl; have hfz13_0 := kf_ BK220.out 0; have hfz13_1 := kf_ BK220.out 1; have hfz13_2 := kf_ BK220.out 2; have hfz13_3 := kf_ BK220.out 3; have hfz13_4 := kf_ BK220.out 4; have hfz13_5 := kf_ BK220.out 5; have hfz13_6 := kf_ BK220.out 6; have hfz13_7 := kf_ BK220.out 7; have hfz13_8 := kf_ BK220.out 8; have hfz13_9 := kf_ BK220.out 9; have hfz13_10 := kf_ BK220.out 10; have hfz13_11 := kf_ BK220.out 11; have hfz13_12 := kf_ BK220.out 12))
     go_meet
     case rel => exact ⟨_, (((l0_3.length : Int) == 0)), (by first | rfl | (simp; done) | (simp [*]; done)), H', ⟨by first | omega | exact Nat.le_refl _⟩, ⟨by (with_reducible repeat (first | refine kn_ ?_ _ | refine kd_ ?_ | refine ka_ ?_ _)); exact BK220.out⟩, ⟨by repeat (first | (with_reducible first | exact HB.out | apply ba_ | apply bn_ | apply bd_ | refine below_set ?_ GE220.out) | exact HB.out)⟩⟩
    ·rw [if_neg c10] at H
     have c10b0 : (t222 == 0) = false := beq_eq_false_iff_ne.mpr c10
     have c10b1 : (t222 != 0) = true := bne_iff_ne.mpr c10
     have H' := ak_ H
     clear H
     have hcz14_0 : w6.cell? ⟨gb220, 0, none⟩ = some (.int .i64 a0_0) := (kc_ BK220.out 0).trans rfl
     have hcz14_1 : w6.cell? ⟨gb220, 1, none⟩ = some (.int .i64 a0_1) := (kc_ BK220.out 1).trans rfl
     have hcz14_2 : w6.cell? ⟨gb220, 2, none⟩ = some (.int .i64 a0_2) := (kc_ BK220.out 2).trans rfl
     have hcz14_3 : w6.cell? ⟨gb220, 3, none⟩ = some (.slice A0_3 l0_3.length c0_3) := (kc_ BK220.out 3).trans rfl
     have hcz14_4 : w6.cell? ⟨gb220, 4, none⟩ = some (.bool a0_4) := (kc_ BK220.out 4).trans rfl
     have hcz14_5 : w6.cell? ⟨gb220, 5, none⟩ = some (.bool a0_5) := (kc_ BK220.out 5).trans rfl
     have hcz14_6 : w6.cell? ⟨gb220, 6, none⟩ = some (.int .u64 a0_6) := (kc_ BK220.out 6).trans rfl
     have hcz14_7 : w6.cell? ⟨gb220, 7, none⟩ = some (.int .u64 a0_7) := (kc_ BK220.out 7).trans rfl
     have hcz14_8 : w6.cell? ⟨gb220, 8, none⟩ = some (.int .u64 a0_8) := (kc_ BK220.out 8).trans rfl
     have hcz14_9 : w6.cell? ⟨gb220, 9, none⟩ = some (.int .u64 a0_9) := (kc_ BK220.out 9).trans rfl
     have hcz14_10 : w6.cell? ⟨gb220, 10, none⟩ = some (.int .u64 a0_10) := (kc_ BK220.out 10).trans rfl
     have hcz14_11 : w6.cell? ⟨gb220, 11, none⟩ = some (.int .u64 a0_11) := (kc_ BK220.out 11).trans rfl
     have hcz14_12 : w6.cell? ⟨gb220, 12, none⟩ = some (.int .i64 a0_12) := (kc_ BK220.out 12).trans rfl
     have hfz14_0 := kf_ BK220.out 0
     have hfz14_1 := kf_ BK220.out 1
     have hfz14_2 := kf_ BK220.out 2
     have hfz14_3 := kf_ BK220.out 3
     have hfz14_4 := kf_ BK220.out 4
     have hfz14_5 := kf_ BK220.out 5
     have hfz14_6 := kf_ BK220.out 6
     have hfz14_7 := kf_ BK220.out 7
     have hfz14_8 := kf_ BK220.out 8
     have hfz14_9 := kf_ BK220.out 9
     have hfz14_10 := kf_ BK220.out 10
     have hfz14_11 := kf_ BK220.out 11
     have hfz14_12 := kf_ BK220.out 12
     go_wp2_with (first | (go_at_call 16; (with_reducible refine (head_Check.calls k a0_0 a0_1 a0_2 _ _ l0_3 a0_4 a0_5 a0_6 a0_7 a0_8 a0_9 a0_10 a0_11 a0_12 t222 _ ?side1 ?side2 A9.out).mono ?_); (case side1 => repeat (first | exact (Kd.C_below HR0_3.out HB.out) | (with_reducible refine Kd.C_alloc ?_ _) | (with_reducible refine Kd.C_drewN ?_ _) | (with_reducible refine Kd.C_drew ?_))); (case side2 => exact HC0_3.out); rintro e w15 ⟨rfl, hb⟩; have n0_ := ak_ (kb_ (g := gb220) (o := .cells #[.int .i64 a0_0, .int .i64 a0_1, .int .i64 a0_2, .slice A0_3 l0_3.length c0_3, .bool a0_4, .bool a0_5, .int .u64 a0_6, .int .u64 a0_7, .int .u64 a0_8, .int .u64 a0_9, .int .u64 a0_10, .int .u64 a0_11, .int .i64 a0_12] 31 (0, 0)) (by (with_reducible repeat (first | refine kn_ ?_ _ | refine kd_ ?_ | refine ka_ ?_ _)); exact BK220.out) hb); have n1_ := ak_ (bt_ (by repeat (first | (with_reducible first | exact HB.out | apply ba_ | apply bn_ | apply bd_ | refine below_set ?_ GE220.out) | exact HB.out)) hb); clear BK220; clear HB; have BK220 := n0_; have HB := n1_; clear n0_ n1_; (try clear hb); (try clear hb2); (try clear hk); (try clear hi)))
     go_meet
     case rel => exact ⟨_, (true), (by first | rfl | (simp; done) | (simp [*]; done)), H', ⟨by first | omega | exact Nat.le_refl _⟩, ⟨by (with_reducible repeat (first | refine kn_ ?_ _ | refine kd_ ?_ | refine ka_ ?_ _)); exact BK220.out⟩, ⟨by repeat (first | (with_reducible first | exact HB.out | apply ba_ | apply bn_ | apply bd_ | refine below_set ?_ GE220.out) | exact HB.out)⟩⟩
  case rest =>
   clear HC4
   try clear c1
   try clear p2
   try clear c3
   try clear c7
   try clear c7b0
   try clear c7b1
   try clear c10
   try clear c10b0
   try clear c10b1
   try clear c15
   try clear hcz11_0
   try clear hcz11_1
   try clear hcz11_10
   try clear hcz11_11
   try clear hcz11_12
   try clear hcz11_2
   try clear hcz11_3
   try clear hcz11_4
   try clear hcz11_5
   try clear hcz11_6
   try clear hcz11_7
   try clear hcz11_8
   try clear hcz11_9
   try clear hcz13_0
   try clear hcz13_1
   try clear hcz13_10
   try clear hcz13_11
   try clear hcz13_12
   try clear hcz13_2
   try clear hcz13_3
   try clear hcz13_4
   try clear hcz13_5
   try clear hcz13_6
   try clear hcz13_7
   try clear hcz13_8
   try clear hcz13_9
   try clear hcz14_0
   try clear hcz14_1
   try clear hcz14_10
   try clear hcz14_11
   try clear hcz14_12
   try clear hcz14_2
   try clear hcz14_3
   try clear hcz14_4
   try clear hcz14_5
   try clear hcz14_6
   try clear hcz14_7
   try clear hcz14_8
   try clear hcz14_9
   try clear hcz8_0
   try clear hcz8_1
   try clear hcz8_10
   try clear hcz8_11
   try clear hcz8_12
   try clear hcz8_2
   try clear hcz8_3
   try clear hcz8_4
   try clear hcz8_5
   try clear hcz8_6
   try clear hcz8_7
   try clear hcz8_8
   try clear hcz8_9
   try clear hfz11_0
   try clear hfz11_1
   try clear hfz11_10
   try clear hfz11_11
   try clear hfz11_12
   try clear hfz11_2
   try clear hfz11_3
   try clear hfz11_4
   try clear hfz11_5
   try clear hfz11_6
   try clear hfz11_7
   try clear hfz11_8
   try clear hfz11_9
   try clear hfz13_0
   try clear hfz13_1
   try clear hfz13_10
   try clear hfz13_11
   try clear hfz13_12
   try clear hfz13_2
   try clear hfz13_3
   try clear hfz13_4
   try clear hfz13_5
   try clear hfz13_6
   try clear hfz13_7
   try clear hfz13_8
   try clear hfz13_9
   try clear hfz14_0
   try clear hfz14_1
   try clear hfz14_10
   try clear hfz14_11
   try clear hfz14_12
   try clear hfz14_2
   try clear hfz14_3
   try clear hfz14_4
   try clear hfz14_5
   try clear hfz14_6
   try clear hfz14_7
   try clear hfz14_8
   try clear hfz14_9
   try clear hfz8_0
   try clear hfz8_1
   try clear hfz8_10
   try clear hfz8_11
   try clear hfz8_12
   try clear hfz8_2
   try clear hfz8_3
   try clear hfz8_4
   try clear hfz8_5
   try clear hfz8_6
   try clear hfz8_7
   try clear hfz8_8
   try clear hfz8_9
   obtain ⟨kq, x30_3, rfl, HA, HJ3, BK220, HB⟩ := hcut
   cases kq with
   | zero => exact absurd HA.out (by simp [medlarlaw16_HeadParts.j0])
   | succ kj3 =>
    have H := HA.out
    clear HA
    simp only [medlarlaw16_HeadParts.j0] at H
    by_cases c16 : x30_3 = true
    ·subst c16
     have H1 : (some t221) = some r := by rw [if_pos rfl] at H; exact H
     clear H
     have H := H1
     clear H1
     obtain rfl := Option.some.inj H
     go_wp2
     go_ret
     exact ⟨by first | rfl | (simp <;> rfl) | (simp [*] <;> rfl), by repeat (first | (with_reducible first | exact HB.out | apply ba_ | apply bn_ | apply bd_ | refine below_set ?_ GE220.out) | exact HB.out)⟩
    ·replace c16 := Bool.eq_false_iff.mpr c16
     subst c16
     have H1 : (if (l0_3.length : Int) = 0 then (none) else (if 0 ≤ (Int.tmod (wrap64 ((Int.tmod a1 (l0_3.length : Int)) + (l0_3.length : Int))) (l0_3.length : Int)) then (if (Int.tmod (wrap64 ((Int.tmod a1 (l0_3.length : Int)) + (l0_3.length : Int))) (l0_3.length : Int)) ≤ (l0_3.length : Int) then ((some (l0_3.take ((Int.tmod (wrap64 ((Int.tmod a1 (l0_3.length : Int)) + (l0_3.length : Int))) (l0_3.length : Int)) : Int).toNat : List (S41))).bind fun y224 => (if ([] : List (S41)).length + y224.length < 1759218604441 then ((some (([] : List (S41)) ++ y224 : List (S41))).bind fun y228 => (if 0 ≤ (wrap64 ((Int.tmod (wrap64 ((Int.tmod a1 (l0_3.length : Int)) + (l0_3.length : Int))) (l0_3.length : Int)) + 1)) then (if (wrap64 ((Int.tmod (wrap64 ((Int.tmod a1 (l0_3.length : Int)) + (l0_3.length : Int))) (l0_3.length : Int)) + 1)) ≤ (l0_3.length : Int) then ((some (l0_3.drop ((wrap64 ((Int.tmod (wrap64 ((Int.tmod a1 (l0_3.length : Int)) + (l0_3.length : Int))) (l0_3.length : Int)) + 1)) : Int).toNat : List (S41))).bind fun y231 => (if y228.length + y231.length < 1759218604441 then ((head_Bytes.f kj3 a0_0 a0_1 a0_2 l0_3 a0_4 a0_5 a0_6 a0_7 a0_8 a0_9 a0_10 a0_11 a0_12).bind fun bt239 => ((head_Bytes.f kj3 a0_0 a0_1 a0_2 (y228 ++ y231) a0_4 a0_5 a0_6 a0_7 a0_8 a0_9 a0_10 a0_11 a0_12).bind fun bt243 => ((head_Bytes.f kj3 a0_0 a0_1 a0_2 l0_3 a0_4 a0_5 a0_6 a0_7 a0_8 a0_9 (Go.bits .xor .u64 a0_10 1) a0_11 a0_12).bind fun bt247 => (if bt239.2 = 0 then (if bt243.2 = 0 then (if bt247.2 = 0 then (if (wrap64 ((bt243.1.length : Int) + 48)) = (bt239.1.length : Int) then (if (bt247.1.length : Int) = (bt239.1.length : Int) then (medlarlaw16_HeadParts.j1 kj3 (Int.tmod (wrap64 ((Int.tmod a1 (l0_3.length : Int)) + (l0_3.length : Int))) (l0_3.length : Int)) t221 ((strOfNums bt247.1).toList == (strOfNums bt239.1).toList) a0_0 a0_1 a0_2 l0_3 a0_4 a0_5 a0_6 a0_7 a0_8 a0_9 a0_10 a0_11 a0_12) else (medlarlaw16_HeadParts.j1 kj3 (Int.tmod (wrap64 ((Int.tmod a1 (l0_3.length : Int)) + (l0_3.length : Int))) (l0_3.length : Int)) t221 true a0_0 a0_1 a0_2 l0_3 a0_4 a0_5 a0_6 a0_7 a0_8 a0_9 a0_10 a0_11 a0_12)) else (medlarlaw16_HeadParts.j1 kj3 (Int.tmod (wrap64 ((Int.tmod a1 (l0_3.length : Int)) + (l0_3.length : Int))) (l0_3.length : Int)) t221 true a0_0 a0_1 a0_2 l0_3 a0_4 a0_5 a0_6 a0_7 a0_8 a0_9 a0_10 a0_11 a0_12)) else (medlarlaw16_HeadParts.j1 kj3 (Int.tmod (wrap64 ((Int.tmod a1 (l0_3.length : Int)) + (l0_3.length : Int))) (l0_3.length : Int)) t221 true a0_0 a0_1 a0_2 l0_3 a0_4 a0_5 a0_6 a0_7 a0_8 a0_9 a0_10 a0_11 a0_12)) else (medlarlaw16_HeadParts.j1 kj3 (Int.tmod (wrap64 ((Int.tmod a1 (l0_3.length : Int)) + (l0_3.length : Int))) (l0_3.length : Int)) t221 true a0_0 a0_1 a0_2 l0_3 a0_4 a0_5 a0_6 a0_7 a0_8 a0_9 a0_10 a0_11 a0_12)) else (medlarlaw16_HeadParts.j1 kj3 (Int.tmod (wrap64 ((Int.tmod a1 (l0_3.length : Int)) + (l0_3.length : Int))) (l0_3.length : Int)) t221 true a0_0 a0_1 a0_2 l0_3 a0_4 a0_5 a0_6 a0_7 a0_8 a0_9 a0_10 a0_11 a0_12))))) else (none))) else (none)) else (none))) else (none))) else (none)) else (none))) = some r := by rw [if_neg (show ¬ (false = true) by decide)] at H; exact H
     clear H
     have H := H1
     clear H1
     by_cases c17 : (l0_3.length : Int) = 0
     ·rw [if_pos c17] at H
      exact absurd H (by simp)
     ·rw [if_neg c17] at H
      have c17b0 : ((l0_3.length : Int) == 0) = false := beq_eq_false_iff_ne.mpr c17
      have c17b1 : ((l0_3.length : Int) != 0) = true := bne_iff_ne.mpr c17
      have c17b2 : ¬ (l0_3 = []) := fun h_ => c17 (by rw [h_]; rfl)
      obtain ⟨ji18, hji18⟩ : ∃ j_ : Int, (Int.tmod (wrap64 ((Int.tmod a1 (l0_3.length : Int)) + (l0_3.length : Int))) (l0_3.length : Int)) = j_ := ⟨_, rfl⟩
      replace H : (if 0 ≤ (ji18) then (if (ji18) ≤ (l0_3.length : Int) then ((some (l0_3.take ((ji18) : Int).toNat : List (S41))).bind fun y224 => (if ([] : List (S41)).length + y224.length < 1759218604441 then ((some (([] : List (S41)) ++ y224 : List (S41))).bind fun y228 => (if 0 ≤ (wrap64 ((ji18) + 1)) then (if (wrap64 ((ji18) + 1)) ≤ (l0_3.length : Int) then ((some (l0_3.drop ((wrap64 ((ji18) + 1)) : Int).toNat : List (S41))).bind fun y231 => (if y228.length + y231.length < 1759218604441 then ((head_Bytes.f kj3 a0_0 a0_1 a0_2 l0_3 a0_4 a0_5 a0_6 a0_7 a0_8 a0_9 a0_10 a0_11 a0_12).bind fun bt239 => ((head_Bytes.f kj3 a0_0 a0_1 a0_2 (y228 ++ y231) a0_4 a0_5 a0_6 a0_7 a0_8 a0_9 a0_10 a0_11 a0_12).bind fun bt243 => ((head_Bytes.f kj3 a0_0 a0_1 a0_2 l0_3 a0_4 a0_5 a0_6 a0_7 a0_8 a0_9 (Go.bits .xor .u64 a0_10 1) a0_11 a0_12).bind fun bt247 => (if bt239.2 = 0 then (if bt243.2 = 0 then (if bt247.2 = 0 then (if (wrap64 ((bt243.1.length : Int) + 48)) = (bt239.1.length : Int) then (if (bt247.1.length : Int) = (bt239.1.length : Int) then (medlarlaw16_HeadParts.j1 kj3 ji18 t221 ((strOfNums bt247.1).toList == (strOfNums bt239.1).toList) a0_0 a0_1 a0_2 l0_3 a0_4 a0_5 a0_6 a0_7 a0_8 a0_9 a0_10 a0_11 a0_12) else (medlarlaw16_HeadParts.j1 kj3 ji18 t221 true a0_0 a0_1 a0_2 l0_3 a0_4 a0_5 a0_6 a0_7 a0_8 a0_9 a0_10 a0_11 a0_12)) else (medlarlaw16_HeadParts.j1 kj3 ji18 t221 true a0_0 a0_1 a0_2 l0_3 a0_4 a0_5 a0_6 a0_7 a0_8 a0_9 a0_10 a0_11 a0_12)) else (medlarlaw16_HeadParts.j1 kj3 ji18 t221 true a0_0 a0_1 a0_2 l0_3 a0_4 a0_5 a0_6 a0_7 a0_8 a0_9 a0_10 a0_11 a0_12)) else (medlarlaw16_HeadParts.j1 kj3 ji18 t221 true a0_0 a0_1 a0_2 l0_3 a0_4 a0_5 a0_6 a0_7 a0_8 a0_9 a0_10 a0_11 a0_12)) else (medlarlaw16_HeadParts.j1 kj3 ji18 t221 true a0_0 a0_1 a0_2 l0_3 a0_4 a0_5 a0_6 a0_7 a0_8 a0_9 a0_10 a0_11 a0_12))))) else (none))) else (none)) else (none))) else (none))) else (none)) else (none)) = some r := by first | (rw [hji18] at H; exact H) | (simp only [hji18] at H ⊢; exact H)
      by_cases c19 : 0 ≤ (ji18)
      ·rw [if_pos c19] at H
       have c19b0 := eq_true c19
       have c19b1 : decide (0 ≤ (ji18)) = true := decide_eq_true c19
       clear c19
       by_cases c20 : (ji18) ≤ (l0_3.length : Int)
       ·rw [if_pos c20] at H
        have c20b0 := eq_true c20
        have c20b1 : decide ((ji18) ≤ (l0_3.length : Int)) = true := decide_eq_true c20
        clear c20
        obtain ⟨y224, hy224⟩ : ∃ y_ : List (S41), y_ = (l0_3.take ((ji18) : Int).toNat) := ⟨_, rfl⟩
        replace H : (if ([] : List (S41)).length + y224.length < 1759218604441 then ((some (([] : List (S41)) ++ y224 : List (S41))).bind fun y228 => (if 0 ≤ (wrap64 ((ji18) + 1)) then (if (wrap64 ((ji18) + 1)) ≤ (l0_3.length : Int) then ((some (l0_3.drop ((wrap64 ((ji18) + 1)) : Int).toNat : List (S41))).bind fun y231 => (if y228.length + y231.length < 1759218604441 then ((head_Bytes.f kj3 a0_0 a0_1 a0_2 l0_3 a0_4 a0_5 a0_6 a0_7 a0_8 a0_9 a0_10 a0_11 a0_12).bind fun bt239 => ((head_Bytes.f kj3 a0_0 a0_1 a0_2 (y228 ++ y231) a0_4 a0_5 a0_6 a0_7 a0_8 a0_9 a0_10 a0_11 a0_12).bind fun bt243 => ((head_Bytes.f kj3 a0_0 a0_1 a0_2 l0_3 a0_4 a0_5 a0_6 a0_7 a0_8 a0_9 (Go.bits .xor .u64 a0_10 1) a0_11 a0_12).bind fun bt247 => (if bt239.2 = 0 then (if bt243.2 = 0 then (if bt247.2 = 0 then (if (wrap64 ((bt243.1.length : Int) + 48)) = (bt239.1.length : Int) then (if (bt247.1.length : Int) = (bt239.1.length : Int) then (medlarlaw16_HeadParts.j1 kj3 ji18 t221 ((strOfNums bt247.1).toList == (strOfNums bt239.1).toList) a0_0 a0_1 a0_2 l0_3 a0_4 a0_5 a0_6 a0_7 a0_8 a0_9 a0_10 a0_11 a0_12) else (medlarlaw16_HeadParts.j1 kj3 ji18 t221 true a0_0 a0_1 a0_2 l0_3 a0_4 a0_5 a0_6 a0_7 a0_8 a0_9 a0_10 a0_11 a0_12)) else (medlarlaw16_HeadParts.j1 kj3 ji18 t221 true a0_0 a0_1 a0_2 l0_3 a0_4 a0_5 a0_6 a0_7 a0_8 a0_9 a0_10 a0_11 a0_12)) else (medlarlaw16_HeadParts.j1 kj3 ji18 t221 true a0_0 a0_1 a0_2 l0_3 a0_4 a0_5 a0_6 a0_7 a0_8 a0_9 a0_10 a0_11 a0_12)) else (medlarlaw16_HeadParts.j1 kj3 ji18 t221 true a0_0 a0_1 a0_2 l0_3 a0_4 a0_5 a0_6 a0_7 a0_8 a0_9 a0_10 a0_11 a0_12)) else (medlarlaw16_HeadParts.j1 kj3 ji18 t221 true a0_0 a0_1 a0_2 l0_3 a0_4 a0_5 a0_6 a0_7 a0_8 a0_9 a0_10 a0_11 a0_12))))) else (none))) else (none)) else (none))) else (none)) = some r := by first | (rw [hy224]; with_reducible exact H) | (have H2_ := (Option.bind_some _ _).symm.trans H; rw [hy224]; with_reducible exact H2_) | (have H2_ := (Option.bind_some _ _).symm.trans H; with_reducible exact H2_) | with_reducible exact H | (rw [hy224]; exact H) | exact H
        have Ny224 := ak_ hy224
        clear hy224
        by_cases c21 : ([] : List (S41)).length + y224.length < 1759218604441
        ·rw [if_pos c21] at H
         have LMc21 := ak_ c21
         clear c21
         obtain ⟨y228, hy228⟩ : ∃ y_ : List (S41), y_ = (([] : List (S41)) ++ y224) := ⟨_, rfl⟩
         replace H : (if 0 ≤ (wrap64 ((ji18) + 1)) then (if (wrap64 ((ji18) + 1)) ≤ (l0_3.length : Int) then ((some (l0_3.drop ((wrap64 ((ji18) + 1)) : Int).toNat : List (S41))).bind fun y231 => (if y228.length + y231.length < 1759218604441 then ((head_Bytes.f kj3 a0_0 a0_1 a0_2 l0_3 a0_4 a0_5 a0_6 a0_7 a0_8 a0_9 a0_10 a0_11 a0_12).bind fun bt239 => ((head_Bytes.f kj3 a0_0 a0_1 a0_2 (y228 ++ y231) a0_4 a0_5 a0_6 a0_7 a0_8 a0_9 a0_10 a0_11 a0_12).bind fun bt243 => ((head_Bytes.f kj3 a0_0 a0_1 a0_2 l0_3 a0_4 a0_5 a0_6 a0_7 a0_8 a0_9 (Go.bits .xor .u64 a0_10 1) a0_11 a0_12).bind fun bt247 => (if bt239.2 = 0 then (if bt243.2 = 0 then (if bt247.2 = 0 then (if (wrap64 ((bt243.1.length : Int) + 48)) = (bt239.1.length : Int) then (if (bt247.1.length : Int) = (bt239.1.length : Int) then (medlarlaw16_HeadParts.j1 kj3 ji18 t221 ((strOfNums bt247.1).toList == (strOfNums bt239.1).toList) a0_0 a0_1 a0_2 l0_3 a0_4 a0_5 a0_6 a0_7 a0_8 a0_9 a0_10 a0_11 a0_12) else (medlarlaw16_HeadParts.j1 kj3 ji18 t221 true a0_0 a0_1 a0_2 l0_3 a0_4 a0_5 a0_6 a0_7 a0_8 a0_9 a0_10 a0_11 a0_12)) else (medlarlaw16_HeadParts.j1 kj3 ji18 t221 true a0_0 a0_1 a0_2 l0_3 a0_4 a0_5 a0_6 a0_7 a0_8 a0_9 a0_10 a0_11 a0_12)) else (medlarlaw16_HeadParts.j1 kj3 ji18 t221 true a0_0 a0_1 a0_2 l0_3 a0_4 a0_5 a0_6 a0_7 a0_8 a0_9 a0_10 a0_11 a0_12)) else (medlarlaw16_HeadParts.j1 kj3 ji18 t221 true a0_0 a0_1 a0_2 l0_3 a0_4 a0_5 a0_6 a0_7 a0_8 a0_9 a0_10 a0_11 a0_12)) else (medlarlaw16_HeadParts.j1 kj3 ji18 t221 true a0_0 a0_1 a0_2 l0_3 a0_4 a0_5 a0_6 a0_7 a0_8 a0_9 a0_10 a0_11 a0_12))))) else (none))) else (none)) else (none)) = some r := by first | (rw [hy228]; with_reducible exact H) | (have H2_ := (Option.bind_some _ _).symm.trans H; rw [hy228]; with_reducible exact H2_) | (have H2_ := (Option.bind_some _ _).symm.trans H; with_reducible exact H2_) | with_reducible exact H | (rw [hy228]; exact H) | exact H
         have Ny228 := ak_ hy228
         clear hy228
         obtain ⟨ji22, hji22⟩ : ∃ j_ : Int, (wrap64 ((ji18) + 1)) = j_ := ⟨_, rfl⟩
         replace H : (if 0 ≤ (ji22) then (if (ji22) ≤ (l0_3.length : Int) then ((some (l0_3.drop ((ji22) : Int).toNat : List (S41))).bind fun y231 => (if y228.length + y231.length < 1759218604441 then ((head_Bytes.f kj3 a0_0 a0_1 a0_2 l0_3 a0_4 a0_5 a0_6 a0_7 a0_8 a0_9 a0_10 a0_11 a0_12).bind fun bt239 => ((head_Bytes.f kj3 a0_0 a0_1 a0_2 (y228 ++ y231) a0_4 a0_5 a0_6 a0_7 a0_8 a0_9 a0_10 a0_11 a0_12).bind fun bt243 => ((head_Bytes.f kj3 a0_0 a0_1 a0_2 l0_3 a0_4 a0_5 a0_6 a0_7 a0_8 a0_9 (Go.bits .xor .u64 a0_10 1) a0_11 a0_12).bind fun bt247 => (if bt239.2 = 0 then (if bt243.2 = 0 then (if bt247.2 = 0 then (if (wrap64 ((bt243.1.length : Int) + 48)) = (bt239.1.length : Int) then (if (bt247.1.length : Int) = (bt239.1.length : Int) then (medlarlaw16_HeadParts.j1 kj3 ji18 t221 ((strOfNums bt247.1).toList == (strOfNums bt239.1).toList) a0_0 a0_1 a0_2 l0_3 a0_4 a0_5 a0_6 a0_7 a0_8 a0_9 a0_10 a0_11 a0_12) else (medlarlaw16_HeadParts.j1 kj3 ji18 t221 true a0_0 a0_1 a0_2 l0_3 a0_4 a0_5 a0_6 a0_7 a0_8 a0_9 a0_10 a0_11 a0_12)) else (medlarlaw16_HeadParts.j1 kj3 ji18 t221 true a0_0 a0_1 a0_2 l0_3 a0_4 a0_5 a0_6 a0_7 a0_8 a0_9 a0_10 a0_11 a0_12)) else (medlarlaw16_HeadParts.j1 kj3 ji18 t221 true a0_0 a0_1 a0_2 l0_3 a0_4 a0_5 a0_6 a0_7 a0_8 a0_9 a0_10 a0_11 a0_12)) else (medlarlaw16_HeadParts.j1 kj3 ji18 t221 true a0_0 a0_1 a0_2 l0_3 a0_4 a0_5 a0_6 a0_7 a0_8 a0_9 a0_10 a0_11 a0_12)) else (medlarlaw16_HeadParts.j1 kj3 ji18 t221 true a0_0 a0_1 a0_2 l0_3 a0_4 a0_5 a0_6 a0_7 a0_8 a0_9 a0_10 a0_11 a0_12))))) else (none))) else (none)) else (none)) = some r := by first | (rw [hji22] at H; exact H) | (simp only [hji22] at H ⊢; exact H)
         have hji22w : (IntKind.i64.wrap ((ji18) + 1)) = ji22 := (i64_w _).trans hji22
         by_cases c23 : 0 ≤ (ji22)
         ·rw [if_pos c23] at H
          have c23b0 := eq_true c23
          have c23b1 : decide (0 ≤ (ji22)) = true := decide_eq_true c23
          clear c23
          by_cases c24 : (ji22) ≤ (l0_3.length : Int)
          ·rw [if_pos c24] at H
           have c24b0 := eq_true c24
           have c24b1 : decide ((ji22) ≤ (l0_3.length : Int)) = true := decide_eq_true c24
           clear c24
           obtain ⟨y231, hy231⟩ : ∃ y_ : List (S41), y_ = (l0_3.drop ((ji22) : Int).toNat) := ⟨_, rfl⟩
           replace H : (if y228.length + y231.length < 1759218604441 then ((head_Bytes.f kj3 a0_0 a0_1 a0_2 l0_3 a0_4 a0_5 a0_6 a0_7 a0_8 a0_9 a0_10 a0_11 a0_12).bind fun bt239 => ((head_Bytes.f kj3 a0_0 a0_1 a0_2 (y228 ++ y231) a0_4 a0_5 a0_6 a0_7 a0_8 a0_9 a0_10 a0_11 a0_12).bind fun bt243 => ((head_Bytes.f kj3 a0_0 a0_1 a0_2 l0_3 a0_4 a0_5 a0_6 a0_7 a0_8 a0_9 (Go.bits .xor .u64 a0_10 1) a0_11 a0_12).bind fun bt247 => (if bt239.2 = 0 then (if bt243.2 = 0 then (if bt247.2 = 0 then (if (wrap64 ((bt243.1.length : Int) + 48)) = (bt239.1.length : Int) then (if (bt247.1.length : Int) = (bt239.1.length : Int) then (medlarlaw16_HeadParts.j1 kj3 ji18 t221 ((strOfNums bt247.1).toList == (strOfNums bt239.1).toList) a0_0 a0_1 a0_2 l0_3 a0_4 a0_5 a0_6 a0_7 a0_8 a0_9 a0_10 a0_11 a0_12) else (medlarlaw16_HeadParts.j1 kj3 ji18 t221 true a0_0 a0_1 a0_2 l0_3 a0_4 a0_5 a0_6 a0_7 a0_8 a0_9 a0_10 a0_11 a0_12)) else (medlarlaw16_HeadParts.j1 kj3 ji18 t221 true a0_0 a0_1 a0_2 l0_3 a0_4 a0_5 a0_6 a0_7 a0_8 a0_9 a0_10 a0_11 a0_12)) else (medlarlaw16_HeadParts.j1 kj3 ji18 t221 true a0_0 a0_1 a0_2 l0_3 a0_4 a0_5 a0_6 a0_7 a0_8 a0_9 a0_10 a0_11 a0_12)) else (medlarlaw16_HeadParts.j1 kj3 ji18 t221 true a0_0 a0_1 a0_2 l0_3 a0_4 a0_5 a0_6 a0_7 a0_8 a0_9 a0_10 a0_11 a0_12)) else (medlarlaw16_HeadParts.j1 kj3 ji18 t221 true a0_0 a0_1 a0_2 l0_3 a0_4 a0_5 a0_6 a0_7 a0_8 a0_9 a0_10 a0_11 a0_12))))) else (none)) = some r := by first | (rw [hy231]; with_reducible exact H) | (have H2_ := (Option.bind_some _ _).symm.trans H; rw [hy231]; with_reducible exact H2_) | (have H2_ := (Option.bind_some _ _).symm.trans H; with_reducible exact H2_) | with_reducible exact H | (rw [hy231]; exact H) | exact H
           have Ny231 := ak_ hy231
           clear hy231
           by_cases c25 : y228.length + y231.length < 1759218604441
           ·rw [if_pos c25] at H
            have LMc25 := ak_ c25
            clear c25
            obtain ⟨y235, hy235⟩ : ∃ y_ : List (S41), y_ = (y228 ++ y231) := ⟨_, rfl⟩
            replace H : ((head_Bytes.f kj3 a0_0 a0_1 a0_2 l0_3 a0_4 a0_5 a0_6 a0_7 a0_8 a0_9 a0_10 a0_11 a0_12).bind fun bt239 => ((head_Bytes.f kj3 a0_0 a0_1 a0_2 y235 a0_4 a0_5 a0_6 a0_7 a0_8 a0_9 a0_10 a0_11 a0_12).bind fun bt243 => ((head_Bytes.f kj3 a0_0 a0_1 a0_2 l0_3 a0_4 a0_5 a0_6 a0_7 a0_8 a0_9 (Go.bits .xor .u64 a0_10 1) a0_11 a0_12).bind fun bt247 => (if bt239.2 = 0 then (if bt243.2 = 0 then (if bt247.2 = 0 then (if (wrap64 ((bt243.1.length : Int) + 48)) = (bt239.1.length : Int) then (if (bt247.1.length : Int) = (bt239.1.length : Int) then (medlarlaw16_HeadParts.j1 kj3 ji18 t221 ((strOfNums bt247.1).toList == (strOfNums bt239.1).toList) a0_0 a0_1 a0_2 l0_3 a0_4 a0_5 a0_6 a0_7 a0_8 a0_9 a0_10 a0_11 a0_12) else (medlarlaw16_HeadParts.j1 kj3 ji18 t221 true a0_0 a0_1 a0_2 l0_3 a0_4 a0_5 a0_6 a0_7 a0_8 a0_9 a0_10 a0_11 a0_12)) else (medlarlaw16_HeadParts.j1 kj3 ji18 t221 true a0_0 a0_1 a0_2 l0_3 a0_4 a0_5 a0_6 a0_7 a0_8 a0_9 a0_10 a0_11 a0_12)) else (medlarlaw16_HeadParts.j1 kj3 ji18 t221 true a0_0 a0_1 a0_2 l0_3 a0_4 a0_5 a0_6 a0_7 a0_8 a0_9 a0_10 a0_11 a0_12)) else (medlarlaw16_HeadParts.j1 kj3 ji18 t221 true a0_0 a0_1 a0_2 l0_3 a0_4 a0_5 a0_6 a0_7 a0_8 a0_9 a0_10 a0_11 a0_12)) else (medlarlaw16_HeadParts.j1 kj3 ji18 t221 true a0_0 a0_1 a0_2 l0_3 a0_4 a0_5 a0_6 a0_7 a0_8 a0_9 a0_10 a0_11 a0_12))))) = some r := by first | (rw [hy235]; with_reducible exact H) | (have H2_ := (Option.bind_some _ _).symm.trans H; rw [hy235]; with_reducible exact H2_) | (have H2_ := (Option.bind_some _ _).symm.trans H; with_reducible exact H2_) | with_reducible exact H | (rw [hy235]; exact H) | exact H
            have Ny235 := ak_ hy235
            clear hy235
            replace H := Option.bind_eq_some_iff.mp H
            obtain ⟨⟨t239, t242⟩, A260, H⟩ := H
            replace H : ((head_Bytes.f kj3 a0_0 a0_1 a0_2 y235 a0_4 a0_5 a0_6 a0_7 a0_8 a0_9 a0_10 a0_11 a0_12).bind fun bt243 => ((head_Bytes.f kj3 a0_0 a0_1 a0_2 l0_3 a0_4 a0_5 a0_6 a0_7 a0_8 a0_9 (Go.bits .xor .u64 a0_10 1) a0_11 a0_12).bind fun bt247 => (if t242 = 0 then (if bt243.2 = 0 then (if bt247.2 = 0 then (if (wrap64 ((bt243.1.length : Int) + 48)) = (t239.length : Int) then (if (bt247.1.length : Int) = (t239.length : Int) then (medlarlaw16_HeadParts.j1 kj3 ji18 t221 ((strOfNums bt247.1).toList == (strOfNums t239).toList) a0_0 a0_1 a0_2 l0_3 a0_4 a0_5 a0_6 a0_7 a0_8 a0_9 a0_10 a0_11 a0_12) else (medlarlaw16_HeadParts.j1 kj3 ji18 t221 true a0_0 a0_1 a0_2 l0_3 a0_4 a0_5 a0_6 a0_7 a0_8 a0_9 a0_10 a0_11 a0_12)) else (medlarlaw16_HeadParts.j1 kj3 ji18 t221 true a0_0 a0_1 a0_2 l0_3 a0_4 a0_5 a0_6 a0_7 a0_8 a0_9 a0_10 a0_11 a0_12)) else (medlarlaw16_HeadParts.j1 kj3 ji18 t221 true a0_0 a0_1 a0_2 l0_3 a0_4 a0_5 a0_6 a0_7 a0_8 a0_9 a0_10 a0_11 a0_12)) else (medlarlaw16_HeadParts.j1 kj3 ji18 t221 true a0_0 a0_1 a0_2 l0_3 a0_4 a0_5 a0_6 a0_7 a0_8 a0_9 a0_10 a0_11 a0_12)) else (medlarlaw16_HeadParts.j1 kj3 ji18 t221 true a0_0 a0_1 a0_2 l0_3 a0_4 a0_5 a0_6 a0_7 a0_8 a0_9 a0_10 a0_11 a0_12)))) = some r := H
            have A26 := ak_ A260
            clear A260
            replace H := Option.bind_eq_some_iff.mp H
            obtain ⟨⟨t243, t246⟩, A270, H⟩ := H
            replace H : ((head_Bytes.f kj3 a0_0 a0_1 a0_2 l0_3 a0_4 a0_5 a0_6 a0_7 a0_8 a0_9 (Go.bits .xor .u64 a0_10 1) a0_11 a0_12).bind fun bt247 => (if t242 = 0 then (if t246 = 0 then (if bt247.2 = 0 then (if (wrap64 ((t243.length : Int) + 48)) = (t239.length : Int) then (if (bt247.1.length : Int) = (t239.length : Int) then (medlarlaw16_HeadParts.j1 kj3 ji18 t221 ((strOfNums bt247.1).toList == (strOfNums t239).toList) a0_0 a0_1 a0_2 l0_3 a0_4 a0_5 a0_6 a0_7 a0_8 a0_9 a0_10 a0_11 a0_12) else (medlarlaw16_HeadParts.j1 kj3 ji18 t221 true a0_0 a0_1 a0_2 l0_3 a0_4 a0_5 a0_6 a0_7 a0_8 a0_9 a0_10 a0_11 a0_12)) else (medlarlaw16_HeadParts.j1 kj3 ji18 t221 true a0_0 a0_1 a0_2 l0_3 a0_4 a0_5 a0_6 a0_7 a0_8 a0_9 a0_10 a0_11 a0_12)) else (medlarlaw16_HeadParts.j1 kj3 ji18 t221 true a0_0 a0_1 a0_2 l0_3 a0_4 a0_5 a0_6 a0_7 a0_8 a0_9 a0_10 a0_11 a0_12)) else (medlarlaw16_HeadParts.j1 kj3 ji18 t221 true a0_0 a0_1 a0_2 l0_3 a0_4 a0_5 a0_6 a0_7 a0_8 a0_9 a0_10 a0_11 a0_12)) else (medlarlaw16_HeadParts.j1 kj3 ji18 t221 true a0_0 a0_1 a0_2 l0_3 a0_4 a0_5 a0_6 a0_7 a0_8 a0_9 a0_10 a0_11 a0_12))) = some r := H
            have A27 := ak_ A270
            clear A270
            replace H := Option.bind_eq_some_iff.mp H
            obtain ⟨⟨t247, t250⟩, A280, H⟩ := H
            replace H : (if t242 = 0 then (if t246 = 0 then (if t250 = 0 then (if (wrap64 ((t243.length : Int) + 48)) = (t239.length : Int) then (if (t247.length : Int) = (t239.length : Int) then (medlarlaw16_HeadParts.j1 kj3 ji18 t221 ((strOfNums t247).toList == (strOfNums t239).toList) a0_0 a0_1 a0_2 l0_3 a0_4 a0_5 a0_6 a0_7 a0_8 a0_9 a0_10 a0_11 a0_12) else (medlarlaw16_HeadParts.j1 kj3 ji18 t221 true a0_0 a0_1 a0_2 l0_3 a0_4 a0_5 a0_6 a0_7 a0_8 a0_9 a0_10 a0_11 a0_12)) else (medlarlaw16_HeadParts.j1 kj3 ji18 t221 true a0_0 a0_1 a0_2 l0_3 a0_4 a0_5 a0_6 a0_7 a0_8 a0_9 a0_10 a0_11 a0_12)) else (medlarlaw16_HeadParts.j1 kj3 ji18 t221 true a0_0 a0_1 a0_2 l0_3 a0_4 a0_5 a0_6 a0_7 a0_8 a0_9 a0_10 a0_11 a0_12)) else (medlarlaw16_HeadParts.j1 kj3 ji18 t221 true a0_0 a0_1 a0_2 l0_3 a0_4 a0_5 a0_6 a0_7 a0_8 a0_9 a0_10 a0_11 a0_12)) else (medlarlaw16_HeadParts.j1 kj3 ji18 t221 true a0_0 a0_1 a0_2 l0_3 a0_4 a0_5 a0_6 a0_7 a0_8 a0_9 a0_10 a0_11 a0_12)) = some r := H
            have A28 := ak_ A280
            clear A280
            have HC29 := ak_ H
            clear H
            try go_wp2
            have n0_ := ak_ (kd_ BK220.out)
            have n1_ := ak_ (bd_ HB.out)
            clear BK220
            clear HB
            have BK220 := n0_
            have HB := n1_
            clear n0_ n1_
            refine start_ (n := 14) (S := fun w' => w'.cell? ⟨gb220, 0, none⟩ = some (.int .i64 a0_0) ∧ w'.cell? ⟨gb220, 1, none⟩ = some (.int .i64 a0_1) ∧ w'.cell? ⟨gb220, 2, none⟩ = some (.int .i64 a0_2) ∧ w'.cell? ⟨gb220, 3, none⟩ = some (.slice A0_3 l0_3.length c0_3) ∧ w'.cell? ⟨gb220, 4, none⟩ = some (.bool a0_4) ∧ w'.cell? ⟨gb220, 5, none⟩ = some (.bool a0_5) ∧ w'.cell? ⟨gb220, 6, none⟩ = some (.int .u64 a0_6) ∧ w'.cell? ⟨gb220, 7, none⟩ = some (.int .u64 a0_7) ∧ w'.cell? ⟨gb220, 8, none⟩ = some (.int .u64 a0_8) ∧ w'.cell? ⟨gb220, 9, none⟩ = some (.int .u64 a0_9) ∧ w'.cell? ⟨gb220, 10, none⟩ = some (.int .u64 a0_10) ∧ w'.cell? ⟨gb220, 11, none⟩ = some (.int .u64 a0_11) ∧ w'.cell? ⟨gb220, 12, none⟩ = some (.int .i64 a0_12)) (ds := []) #[false, false, false, false, false, false, false, false, false, false, false, false, false, false] (by kernel_rfl) rfl rfl ⟨(kc_ BK220.out 0).trans rfl, (kc_ BK220.out 1).trans rfl, (kc_ BK220.out 2).trans rfl, (kc_ BK220.out 3).trans rfl, (kc_ BK220.out 4).trans rfl, (kc_ BK220.out 5).trans rfl, (kc_ BK220.out 6).trans rfl, (kc_ BK220.out 7).trans rfl, (kc_ BK220.out 8).trans rfl, (kc_ BK220.out 9).trans rfl, (kc_ BK220.out 10).trans rfl, (kc_ BK220.out 11).trans rfl, (kc_ BK220.out 12).trans rfl⟩ (fun hHeld => ?_); refine with_tabW medlarlaw16_HeadParts.tab4 medlarlaw16_HeadParts.bits4 (fun HT_ HW_ => ?_)
            generalize wc.drew = w30 at BK220 HB hHeld ⊢
            refine pure_ (i := 0) (N := some 32) (v := ?_) (a' := ?_) (bA5 1 14) rfl rfl (any_of HT_.out (by kernel_rfl)) (fun _ _ _ h => h) (Or.inl ⟨by rfl, ?_⟩) ?_ ?_; rotate_left; (intro w'; go_simp; with_reducible rfl); rotate_left; (simp only [Act.put, setIfInBounds_toArray, set_cons_zero, set_cons_succ, i64_w, i32_w]; rfl)
            refine pure_ (i := 1) (N := some 33) (v := ?_) (a' := ?_) (bA5 2 14) rfl rfl (any_of HT_.out (by kernel_rfl)) (fun _ _ _ h => h) (Or.inl ⟨by rfl, ?_⟩) ?_ ?_; rotate_left; (intro w'; go_simp; with_reducible rfl); rotate_left; (simp only [Act.put, setIfInBounds_toArray, set_cons_zero, set_cons_succ, i64_w, i32_w]; rfl)
            refine pure_ (i := 5) (N := some 37) (v := ?_) (a' := ?_) #[true, true, false, false, false, true, false, false, false, false, false, false, false, false] rfl rfl (any_of HT_.out (by kernel_rfl)) (fun _ _ _ h => h) (Or.inl ⟨by rfl, ?_⟩) ?_ ?_; rotate_left; (intro w'; go_simp; with_reducible rfl); rotate_left; (simp only [Act.put, setIfInBounds_toArray, set_cons_zero, set_cons_succ, i64_w, i32_w]; rfl)
            refine pure_ (i := 9) (N := some 41) (v := ?_) (a' := ?_) #[true, true, false, false, false, true, false, false, false, true, false, false, false, false] rfl rfl (any_of HT_.out (by kernel_rfl)) (fun _ _ _ h => h) (Or.inl ⟨by rfl, ?_⟩) ?_ ?_; rotate_left; (intro w'; go_simp; with_reducible rfl); rotate_left; (simp only [Act.put, setIfInBounds_toArray, set_cons_zero, set_cons_succ, i64_w, i32_w]; rfl)
            refine take_ (i := 2) (N := some 34) (v := ?_) (a' := ?_) #[true, true, true, false, false, true, false, false, false, true, false, false, false, false] rfl rfl (take_ofW HT_.out HW_.out (by kernel_rfl)) (fun _ _ _ h => h) (Or.inl ⟨by rfl, ?_⟩) hHeld ?_ ?_
            rotate_left
            ·rintro w' ⟨s0, s1, s2, s3, s4, s5, s6, s7, s8, s9, s10, s11, s12⟩
             go_simp
             with_reducible rfl
            rotate_left
            ·simp only [Act.put, setIfInBounds_toArray, set_cons_zero, set_cons_succ, i64_w, i32_w]
             rfl
            refine pure_ (i := 3) (N := some 35) (v := ?_) (a' := ?_) #[true, true, true, true, false, true, false, false, false, true, false, false, false, false] rfl rfl (any_of HT_.out (by kernel_rfl)) (fun _ _ _ h => h) (Or.inl ⟨by rfl, ?_⟩) ?_ ?_; rotate_left; (intro w'; go_simp; with_reducible rfl); rotate_left; (simp only [Act.put, setIfInBounds_toArray, set_cons_zero, set_cons_succ, i64_w, i32_w]; rfl)
            refine pure_ (i := 4) (N := some 36) (v := ?_) (a' := ?_) #[true, true, true, true, true, true, false, false, false, true, false, false, false, false] rfl rfl (any_of HT_.out (by kernel_rfl)) (fun _ _ _ h => h) (Or.inl ⟨by rfl, ?_⟩) ?_ ?_; rotate_left; (intro w'; go_simp; with_reducible rfl); rotate_left; (simp only [Act.put, setIfInBounds_toArray, set_cons_zero, set_cons_succ, i64_w, i32_w]; rfl)
            refine take_ (i := 6) (N := some 38) (v := ?_) (a' := ?_) #[true, true, true, true, true, true, true, false, false, true, false, false, false, false] rfl rfl (take_ofW HT_.out HW_.out (by kernel_rfl)) (fun _ _ _ h => h) (Or.inl ⟨by rfl, ?_⟩) hHeld ?_ ?_
            rotate_left
            ·rintro w' ⟨s0, s1, s2, s3, s4, s5, s6, s7, s8, s9, s10, s11, s12⟩
             go_simp
             with_reducible rfl
            rotate_left
            ·simp only [Act.put, setIfInBounds_toArray, set_cons_zero, set_cons_succ, i64_w, i32_w]
             rfl
            refine pure_ (i := 7) (N := some 39) (v := ?_) (a' := ?_) #[true, true, true, true, true, true, true, true, false, true, false, false, false, false] rfl rfl (any_of HT_.out (by kernel_rfl)) (fun _ _ _ h => h) (Or.inl ⟨by rfl, ?_⟩) ?_ ?_; rotate_left; (intro w'; go_simp; with_reducible rfl); rotate_left; (simp only [Act.put, setIfInBounds_toArray, set_cons_zero, set_cons_succ, i64_w, i32_w]; rfl)
            refine pure_ (i := 8) (N := some 40) (v := ?_) (a' := ?_) (bA5 10 14) rfl rfl (any_of HT_.out (by kernel_rfl)) (fun _ _ _ h => h) (Or.inl ⟨by rfl, ?_⟩) ?_ ?_; rotate_left; (intro w'; go_simp; with_reducible rfl); rotate_left; (simp only [Act.put, setIfInBounds_toArray, set_cons_zero, set_cons_succ, i64_w, i32_w]; rfl)
            refine take_ (i := 10) (N := some 42) (v := ?_) (a' := ?_) (bA5 11 14) rfl rfl (take_ofW HT_.out HW_.out (by kernel_rfl)) (fun _ _ _ h => h) (Or.inl ⟨by rfl, ?_⟩) hHeld ?_ ?_
            rotate_left
            ·rintro w' ⟨s0, s1, s2, s3, s4, s5, s6, s7, s8, s9, s10, s11, s12⟩
             go_simp
             with_reducible rfl
            rotate_left
            ·simp only [Act.put, setIfInBounds_toArray, set_cons_zero, set_cons_succ, i64_w, i32_w]
             rfl
            refine pure_ (i := 11) (N := some 43) (v := ?_) (a' := ?_) (bA5 12 14) rfl rfl (any_of HT_.out (by kernel_rfl)) (fun _ _ _ h => h) (Or.inl ⟨by rfl, ?_⟩) ?_ ?_; rotate_left; (intro w'; go_simp; with_reducible rfl); rotate_left; (simp only [Act.put, setIfInBounds_toArray, set_cons_zero, set_cons_succ, i64_w, i32_w]; rfl)
            refine pure_ (i := 12) (N := some 44) (v := ?_) (a' := ?_) (bA5 13 14) rfl rfl (any_of HT_.out (by kernel_rfl)) (fun _ _ _ h => h) (Or.inl ⟨by rfl, ?_⟩) ?_ ?_; rotate_left; (intro w'; go_simp; with_reducible rfl); rotate_left; (simp only [Act.put, setIfInBounds_toArray, set_cons_zero, set_cons_succ, i64_w, i32_w]; rfl)
            refine pure_ (i := 13) (N := some 1) (v := ?_) (a' := ?_) (bA5 14 14) rfl rfl (any_of HT_.out (by kernel_rfl)) (fun _ _ _ h => h) (Or.inl ⟨by rfl, ?_⟩) ?_ ?_; rotate_left; (intro w'; go_simp; with_reducible rfl); rotate_left; (simp only [Act.put, setIfInBounds_toArray, set_cons_zero, set_cons_succ, i64_w, i32_w]; rfl)
            refine done_ (done_of HT_.out (by kernel_rfl)) ?_
            have hcz31_0 : w30.cell? ⟨gb220, 0, none⟩ = some (.int .i64 a0_0) := (kc_ BK220.out 0).trans rfl
            have hcz31_1 : w30.cell? ⟨gb220, 1, none⟩ = some (.int .i64 a0_1) := (kc_ BK220.out 1).trans rfl
            have hcz31_2 : w30.cell? ⟨gb220, 2, none⟩ = some (.int .i64 a0_2) := (kc_ BK220.out 2).trans rfl
            have hcz31_3 : w30.cell? ⟨gb220, 3, none⟩ = some (.slice A0_3 l0_3.length c0_3) := (kc_ BK220.out 3).trans rfl
            have hcz31_4 : w30.cell? ⟨gb220, 4, none⟩ = some (.bool a0_4) := (kc_ BK220.out 4).trans rfl
            have hcz31_5 : w30.cell? ⟨gb220, 5, none⟩ = some (.bool a0_5) := (kc_ BK220.out 5).trans rfl
            have hcz31_6 : w30.cell? ⟨gb220, 6, none⟩ = some (.int .u64 a0_6) := (kc_ BK220.out 6).trans rfl
            have hcz31_7 : w30.cell? ⟨gb220, 7, none⟩ = some (.int .u64 a0_7) := (kc_ BK220.out 7).trans rfl
            have hcz31_8 : w30.cell? ⟨gb220, 8, none⟩ = some (.int .u64 a0_8) := (kc_ BK220.out 8).trans rfl
            have hcz31_9 : w30.cell? ⟨gb220, 9, none⟩ = some (.int .u64 a0_9) := (kc_ BK220.out 9).trans rfl
            have hcz31_10 : w30.cell? ⟨gb220, 10, none⟩ = some (.int .u64 a0_10) := (kc_ BK220.out 10).trans rfl
            have hcz31_11 : w30.cell? ⟨gb220, 11, none⟩ = some (.int .u64 a0_11) := (kc_ BK220.out 11).trans rfl
            have hcz31_12 : w30.cell? ⟨gb220, 12, none⟩ = some (.int .i64 a0_12) := (kc_ BK220.out 12).trans rfl
            have hfz31_0 := kf_ BK220.out 0
            have hfz31_1 := kf_ BK220.out 1
            have hfz31_2 := kf_ BK220.out 2
            have hfz31_3 := kf_ BK220.out 3
            have hfz31_4 := kf_ BK220.out 4
            have hfz31_5 := kf_ BK220.out 5
            have hfz31_6 := kf_ BK220.out 6
            have hfz31_7 := kf_ BK220.out 7
            have hfz31_8 := kf_ BK220.out 8
            have hfz31_9 := kf_ BK220.out 9
            have hfz31_10 := kf_ BK220.out 10
            have hfz31_11 := kf_ BK220.out 11
            have hfz31_12 := kf_ BK220.out 12
            try go_wp2_with (first | ((with_reducible refine gate_dst (N := 6) rfl ?_); (try (refine gate_guard (by rfl) ?_; dsimp only)); refine box_event ?hg (N := 6) ?hd (cs := #[.int .i64 0, .int .i64 0, .int .i64 0, .slice none 0 0, .bool false, .bool false, .int .u64 0, .int .u64 0, .int .u64 0, .int .u64 0, .int .u64 0, .int .u64 0, .int .i64 0]) (t := 31) ?hr ?_; (case hd => rfl); (case hg => rfl); (case hr => first | (go_simp; done) | (go_simp; rfl)); intro gb223 hg w32 hbox hb; have n0_ := ak_ (kb_ (g := gb220) (o := .cells #[.int .i64 a0_0, .int .i64 a0_1, .int .i64 a0_2, .slice A0_3 l0_3.length c0_3, .bool a0_4, .bool a0_5, .int .u64 a0_6, .int .u64 a0_7, .int .u64 a0_8, .int .u64 a0_9, .int .u64 a0_10, .int .u64 a0_11, .int .i64 a0_12] 31 (0, 0)) (by (with_reducible repeat (first | refine kn_ ?_ _ | refine kd_ ?_ | refine ka_ ?_ _)); exact BK220.out) hb); have n1_ := ak_ (bt_ (by repeat (first | (with_reducible first | exact HB.out | apply ba_ | apply bn_ | apply bd_ | refine below_set ?_ GE220.out) | exact HB.out)) hb); have n2_ := ak_ (hbox); have n3_ := ak_ ((by rw [hg]; exact (bz_ (by repeat (first | (with_reducible first | exact HB.out | apply ba_ | apply bn_ | apply bd_ | refine below_set ?_ GE220.out) | exact HB.out))) : w.heap.size ≤ gb223)); have n4_ := ak_ ((by rw [hg]; exact (bz_ (by repeat (first | (with_reducible first | exact HB.out | apply ba_ | apply bn_ | apply bd_ | refine below_set ?_ GE220.out) | exact HB.out))) : w.heap.size ≤ gb223)); have n5_ := ak_ ((by rw [hg]; exact Nat.ne_of_lt (blk_lt (g := gb220) (o := .cells #[.int .i64 a0_0, .int .i64 a0_1, .int .i64 a0_2, .slice A0_3 l0_3.length c0_3, .bool a0_4, .bool a0_5, .int .u64 a0_6, .int .u64 a0_7, .int .u64 a0_8, .int .u64 a0_9, .int .u64 a0_10, .int .u64 a0_11, .int .i64 a0_12] 31 (0, 0)) (by (with_reducible repeat (first | refine kn_ ?_ _ | refine kd_ ?_ | refine ka_ ?_ _)); exact BK220.out)) : gb220 ≠ gb223)); have n6_ := ak_ ((by rw [hg]; exact Nat.ne_of_gt (blk_lt (g := gb220) (o := .cells #[.int .i64 a0_0, .int .i64 a0_1, .int .i64 a0_2, .slice A0_3 l0_3.length c0_3, .bool a0_4, .bool a0_5, .int .u64 a0_6, .int .u64 a0_7, .int .u64 a0_8, .int .u64 a0_9, .int .u64 a0_10, .int .u64 a0_11, .int .i64 a0_12] 31 (0, 0)) (by (with_reducible repeat (first | refine kn_ ?_ _ | refine kd_ ?_ | refine ka_ ?_ _)); exact BK220.out)) : gb223 ≠ gb220)); clear BK220; clear HB; have BK220 := n0_; have HB := n1_; have BK223 := n2_; have GW223 := n3_; have GE223 := n4_; have NB220_223 := n5_; have NB223_220 := n6_; clear n0_ n1_ n2_ n3_ n4_ n5_ n6_; clear hb hbox hg; have hnb33 := NB223_220.out; have hnc33 := NB220_223.out; have hcz34_0 : w32.cell? ⟨gb223, 0, none⟩ = some (.int .i64 0) := (kc_ BK223.out 0).trans rfl; have hcz34_1 : w32.cell? ⟨gb223, 1, none⟩ = some (.int .i64 0) := (kc_ BK223.out 1).trans rfl; have hcz34_2 : w32.cell? ⟨gb223, 2, none⟩ = some (.int .i64 0) := (kc_ BK223.out 2).trans rfl; have hcz34_3 : w32.cell? ⟨gb223, 3, none⟩ = some (.slice none 0 0) := (kc_ BK223.out 3).trans rfl; have hcz34_4 : w32.cell? ⟨gb223, 4, none⟩ = some (.bool false) := (kc_ BK223.out 4).trans rfl; have hcz34_5 : w32.cell? ⟨gb223, 5, none⟩ = some (.bool false) := (kc_ BK223.out 5).trans rfl; have hcz34_6 : w32.cell? ⟨gb223, 6, none⟩ = some (.int .u64 0) := (kc_ BK223.out 6).trans rfl; have hcz34_7 : w32.cell? ⟨gb223, 7, none⟩ = some (.int .u64 0) := (kc_ BK223.out 7).trans rfl; have hcz34_8 : w32.cell? ⟨gb223, 8, none⟩ = some (.int .u64 0) := (kc_ BK223.out 8).trans rfl; have hcz34_9 : w32.cell? ⟨gb223, 9, none⟩ = some (.int .u64 0) := (kc_ BK223.out 9).trans rfl; have hcz34_10 : w32.cell? ⟨gb223, 10, none⟩ = some (.int .u64 0) := (kc_ BK223.out 10).trans rfl; have hcz34_11 : w32.cell? ⟨gb223, 11, none⟩ = some (.int .u64 0) := (kc_ BK223.out 11).trans rfl; have hcz34_12 : w32.cell? ⟨gb223, 12, none⟩ = some (.int .i64 0) := (kc_ BK223.out 12).trans rfl; have hfz34_0 := kf_ BK223.out 0; have hfz34_1 := kf_ BK223.out 1; have hfz34_2 := kf_ BK223.out 2; have hfz34_3 := kf_ BK223.out 3; have hfz34_4 := kf_ BK223.out 4; have hfz34_5 := kf_ BK223.out 5; have hfz34_6 := kf_ BK223.out 6; have hfz34_7 := kf_ BK223.out 7; have hfz34_8 := kf_ BK223.out 8; have hfz34_9 := kf_ BK223.out 9; have hfz34_10 := kf_ BK223.out 10; have hfz34_11 := kf_ BK223.out 11; have hfz34_12 := kf_ BK223.out 12))
            have n0_ : Aside0 ((((((((((((((w32.setCell ⟨gb223, 0, none⟩ (.int .i64 a0_0)).setCell ⟨gb223, 1, none⟩ (.int .i64 a0_1)).setCell ⟨gb223, 2, none⟩ (.int .i64 a0_2)).setCell ⟨gb223, 3, none⟩ (.slice A0_3 l0_3.length c0_3)).setCell ⟨gb223, 4, none⟩ (.bool a0_4)).setCell ⟨gb223, 5, none⟩ (.bool a0_5)).setCell ⟨gb223, 6, none⟩ (.int .u64 a0_6)).setCell ⟨gb223, 7, none⟩ (.int .u64 a0_7)).setCell ⟨gb223, 8, none⟩ (.int .u64 a0_8)).setCell ⟨gb223, 9, none⟩ (.int .u64 a0_9)).setCell ⟨gb223, 10, none⟩ (.int .u64 a0_10)).setCell ⟨gb223, 11, none⟩ (.int .u64 a0_11)).setCell ⟨gb223, 12, none⟩ (.int .i64 a0_12)).heap[gb220]? = some (.cells #[.int .i64 a0_0, .int .i64 a0_1, .int .i64 a0_2, .slice A0_3 l0_3.length c0_3, .bool a0_4, .bool a0_5, .int .u64 a0_6, .int .u64 a0_7, .int .u64 a0_8, .int .u64 a0_9, .int .u64 a0_10, .int .u64 a0_11, .int .i64 a0_12] 31 (0, 0))) := ⟨by (with_reducible repeat (first | refine kn_ ?_ _ | refine kd_ ?_ | refine ka_ ?_ _)); refine blk_far ?_ NB220_223.out _; (with_reducible repeat (first | refine kn_ ?_ _ | refine kd_ ?_ | refine ka_ ?_ _)); refine blk_far ?_ NB220_223.out _; (with_reducible repeat (first | refine kn_ ?_ _ | refine kd_ ?_ | refine ka_ ?_ _)); refine blk_far ?_ NB220_223.out _; (with_reducible repeat (first | refine kn_ ?_ _ | refine kd_ ?_ | refine ka_ ?_ _)); refine blk_far ?_ NB220_223.out _; (with_reducible repeat (first | refine kn_ ?_ _ | refine kd_ ?_ | refine ka_ ?_ _)); refine blk_far ?_ NB220_223.out _; (with_reducible repeat (first | refine kn_ ?_ _ | refine kd_ ?_ | refine ka_ ?_ _)); refine blk_far ?_ NB220_223.out _; (with_reducible repeat (first | refine kn_ ?_ _ | refine kd_ ?_ | refine ka_ ?_ _)); refine blk_far ?_ NB220_223.out _; (with_reducible repeat (first | refine kn_ ?_ _ | refine kd_ ?_ | refine ka_ ?_ _)); refine blk_far ?_ NB220_223.out _; (with_reducible repeat (first | refine kn_ ?_ _ | refine kd_ ?_ | refine ka_ ?_ _)); refine blk_far ?_ NB220_223.out _; (with_reducible repeat (first | refine kn_ ?_ _ | refine kd_ ?_ | refine ka_ ?_ _)); refine blk_far ?_ NB220_223.out _; (with_reducible repeat (first | refine kn_ ?_ _ | refine kd_ ?_ | refine ka_ ?_ _)); refine blk_far ?_ NB220_223.out _; (with_reducible repeat (first | refine kn_ ?_ _ | refine kd_ ?_ | refine ka_ ?_ _)); refine blk_far ?_ NB220_223.out _; (with_reducible repeat (first | refine kn_ ?_ _ | refine kd_ ?_ | refine ka_ ?_ _)); refine blk_far ?_ NB220_223.out _; (with_reducible repeat (first | refine kn_ ?_ _ | refine kd_ ?_ | refine ka_ ?_ _)); exact BK220.out⟩
            have n1_ : Aside0 ((((((((((((((w32.setCell ⟨gb223, 0, none⟩ (.int .i64 a0_0)).setCell ⟨gb223, 1, none⟩ (.int .i64 a0_1)).setCell ⟨gb223, 2, none⟩ (.int .i64 a0_2)).setCell ⟨gb223, 3, none⟩ (.slice A0_3 l0_3.length c0_3)).setCell ⟨gb223, 4, none⟩ (.bool a0_4)).setCell ⟨gb223, 5, none⟩ (.bool a0_5)).setCell ⟨gb223, 6, none⟩ (.int .u64 a0_6)).setCell ⟨gb223, 7, none⟩ (.int .u64 a0_7)).setCell ⟨gb223, 8, none⟩ (.int .u64 a0_8)).setCell ⟨gb223, 9, none⟩ (.int .u64 a0_9)).setCell ⟨gb223, 10, none⟩ (.int .u64 a0_10)).setCell ⟨gb223, 11, none⟩ (.int .u64 a0_11)).setCell ⟨gb223, 12, none⟩ (.int .i64 a0_12)).heap[gb223]? = some (.cells #[.int .i64 a0_0, .int .i64 a0_1, .int .i64 a0_2, .slice A0_3 l0_3.length c0_3, .bool a0_4, .bool a0_5, .int .u64 a0_6, .int .u64 a0_7, .int .u64 a0_8, .int .u64 a0_9, .int .u64 a0_10, .int .u64 a0_11, .int .i64 a0_12] 31 (0, 0))) := ⟨by (with_reducible repeat (first | refine kn_ ?_ _ | refine kd_ ?_ | refine ka_ ?_ _)); refine blk_put (cs := #[.int .i64 a0_0, .int .i64 a0_1, .int .i64 a0_2, .slice A0_3 l0_3.length c0_3, .bool a0_4, .bool a0_5, .int .u64 a0_6, .int .u64 a0_7, .int .u64 a0_8, .int .u64 a0_9, .int .u64 a0_10, .int .u64 a0_11, .int .i64 0]) ?_ 12 _ rfl; (with_reducible repeat (first | refine kn_ ?_ _ | refine kd_ ?_ | refine ka_ ?_ _)); refine blk_put (cs := #[.int .i64 a0_0, .int .i64 a0_1, .int .i64 a0_2, .slice A0_3 l0_3.length c0_3, .bool a0_4, .bool a0_5, .int .u64 a0_6, .int .u64 a0_7, .int .u64 a0_8, .int .u64 a0_9, .int .u64 a0_10, .int .u64 0, .int .i64 0]) ?_ 11 _ rfl; (with_reducible repeat (first | refine kn_ ?_ _ | refine kd_ ?_ | refine ka_ ?_ _)); refine blk_put (cs := #[.int .i64 a0_0, .int .i64 a0_1, .int .i64 a0_2, .slice A0_3 l0_3.length c0_3, .bool a0_4, .bool a0_5, .int .u64 a0_6, .int .u64 a0_7, .int .u64 a0_8, .int .u64 a0_9, .int .u64 0, .int .u64 0, .int .i64 0]) ?_ 10 _ rfl; (with_reducible repeat (first | refine kn_ ?_ _ | refine kd_ ?_ | refine ka_ ?_ _)); refine blk_put (cs := #[.int .i64 a0_0, .int .i64 a0_1, .int .i64 a0_2, .slice A0_3 l0_3.length c0_3, .bool a0_4, .bool a0_5, .int .u64 a0_6, .int .u64 a0_7, .int .u64 a0_8, .int .u64 0, .int .u64 0, .int .u64 0, .int .i64 0]) ?_ 9 _ rfl; (with_reducible repeat (first | refine kn_ ?_ _ | refine kd_ ?_ | refine ka_ ?_ _)); refine blk_put (cs := #[.int .i64 a0_0, .int .i64 a0_1, .int .i64 a0_2, .slice A0_3 l0_3.length c0_3, .bool a0_4, .bool a0_5, .int .u64 a0_6, .int .u64 a0_7, .int .u64 0, .int .u64 0, .int .u64 0, .int .u64 0, .int .i64 0]) ?_ 8 _ rfl; (with_reducible repeat (first | refine kn_ ?_ _ | refine kd_ ?_ | refine ka_ ?_ _)); refine blk_put (cs := #[.int .i64 a0_0, .int .i64 a0_1, .int .i64 a0_2, .slice A0_3 l0_3.length c0_3, .bool a0_4, .bool a0_5, .int .u64 a0_6, .int .u64 0, .int .u64 0, .int .u64 0, .int .u64 0, .int .u64 0, .int .i64 0]) ?_ 7 _ rfl; (with_reducible repeat (first | refine kn_ ?_ _ | refine kd_ ?_ | refine ka_ ?_ _)); refine blk_put (cs := #[.int .i64 a0_0, .int .i64 a0_1, .int .i64 a0_2, .slice A0_3 l0_3.length c0_3, .bool a0_4, .bool a0_5, .int .u64 0, .int .u64 0, .int .u64 0, .int .u64 0, .int .u64 0, .int .u64 0, .int .i64 0]) ?_ 6 _ rfl; (with_reducible repeat (first | refine kn_ ?_ _ | refine kd_ ?_ | refine ka_ ?_ _)); refine blk_put (cs := #[.int .i64 a0_0, .int .i64 a0_1, .int .i64 a0_2, .slice A0_3 l0_3.length c0_3, .bool a0_4, .bool false, .int .u64 0, .int .u64 0, .int .u64 0, .int .u64 0, .int .u64 0, .int .u64 0, .int .i64 0]) ?_ 5 _ rfl; (with_reducible repeat (first | refine kn_ ?_ _ | refine kd_ ?_ | refine ka_ ?_ _)); refine blk_put (cs := #[.int .i64 a0_0, .int .i64 a0_1, .int .i64 a0_2, .slice A0_3 l0_3.length c0_3, .bool false, .bool false, .int .u64 0, .int .u64 0, .int .u64 0, .int .u64 0, .int .u64 0, .int .u64 0, .int .i64 0]) ?_ 4 _ rfl; (with_reducible repeat (first | refine kn_ ?_ _ | refine kd_ ?_ | refine ka_ ?_ _)); refine blk_put (cs := #[.int .i64 a0_0, .int .i64 a0_1, .int .i64 a0_2, .slice none 0 0, .bool false, .bool false, .int .u64 0, .int .u64 0, .int .u64 0, .int .u64 0, .int .u64 0, .int .u64 0, .int .i64 0]) ?_ 3 _ rfl; (with_reducible repeat (first | refine kn_ ?_ _ | refine kd_ ?_ | refine ka_ ?_ _)); refine blk_put (cs := #[.int .i64 a0_0, .int .i64 a0_1, .int .i64 0, .slice none 0 0, .bool false, .bool false, .int .u64 0, .int .u64 0, .int .u64 0, .int .u64 0, .int .u64 0, .int .u64 0, .int .i64 0]) ?_ 2 _ rfl; (with_reducible repeat (first | refine kn_ ?_ _ | refine kd_ ?_ | refine ka_ ?_ _)); refine blk_put (cs := #[.int .i64 a0_0, .int .i64 0, .int .i64 0, .slice none 0 0, .bool false, .bool false, .int .u64 0, .int .u64 0, .int .u64 0, .int .u64 0, .int .u64 0, .int .u64 0, .int .i64 0]) ?_ 1 _ rfl; (with_reducible repeat (first | refine kn_ ?_ _ | refine kd_ ?_ | refine ka_ ?_ _)); refine blk_put (cs := #[.int .i64 0, .int .i64 0, .int .i64 0, .slice none 0 0, .bool false, .bool false, .int .u64 0, .int .u64 0, .int .u64 0, .int .u64 0, .int .u64 0, .int .u64 0, .int .i64 0]) ?_ 0 _ rfl; (with_reducible repeat (first | refine kn_ ?_ _ | refine kd_ ?_ | refine ka_ ?_ _)); exact BK223.out⟩
            have n2_ : Aside0 (Below w.heap.size w (((((((((((((w32.setCell ⟨gb223, 0, none⟩ (.int .i64 a0_0)).setCell ⟨gb223, 1, none⟩ (.int .i64 a0_1)).setCell ⟨gb223, 2, none⟩ (.int .i64 a0_2)).setCell ⟨gb223, 3, none⟩ (.slice A0_3 l0_3.length c0_3)).setCell ⟨gb223, 4, none⟩ (.bool a0_4)).setCell ⟨gb223, 5, none⟩ (.bool a0_5)).setCell ⟨gb223, 6, none⟩ (.int .u64 a0_6)).setCell ⟨gb223, 7, none⟩ (.int .u64 a0_7)).setCell ⟨gb223, 8, none⟩ (.int .u64 a0_8)).setCell ⟨gb223, 9, none⟩ (.int .u64 a0_9)).setCell ⟨gb223, 10, none⟩ (.int .u64 a0_10)).setCell ⟨gb223, 11, none⟩ (.int .u64 a0_11)).setCell ⟨gb223, 12, none⟩ (.int .i64 a0_12))) := ⟨by repeat (first | (with_reducible first | exact HB.out | apply ba_ | apply bn_ | apply bd_ | refine below_set ?_ GE220.out | refine below_set ?_ GE223.out) | exact HB.out)⟩
            (try clear BK220)
            (try clear BK223)
            (try clear HB)
            generalize (((((((((((((w32.setCell ⟨gb223, 0, none⟩ (.int .i64 a0_0)).setCell ⟨gb223, 1, none⟩ (.int .i64 a0_1)).setCell ⟨gb223, 2, none⟩ (.int .i64 a0_2)).setCell ⟨gb223, 3, none⟩ (.slice A0_3 l0_3.length c0_3)).setCell ⟨gb223, 4, none⟩ (.bool a0_4)).setCell ⟨gb223, 5, none⟩ (.bool a0_5)).setCell ⟨gb223, 6, none⟩ (.int .u64 a0_6)).setCell ⟨gb223, 7, none⟩ (.int .u64 a0_7)).setCell ⟨gb223, 8, none⟩ (.int .u64 a0_8)).setCell ⟨gb223, 9, none⟩ (.int .u64 a0_9)).setCell ⟨gb223, 10, none⟩ (.int .u64 a0_10)).setCell ⟨gb223, 11, none⟩ (.int .u64 a0_11)).setCell ⟨gb223, 12, none⟩ (.int .i64 a0_12)) = w35 at n0_ n1_ n2_ ⊢
            have BK220 := n0_
            have BK223 := n1_
            have HB := n2_
            clear n0_ n1_ n2_
            have n0_ := ak_ (kd_ BK220.out)
            have n1_ := ak_ (kd_ BK223.out)
            have n2_ := ak_ (bd_ HB.out)
            clear BK220
            clear BK223
            clear HB
            have BK220 := n0_
            have BK223 := n1_
            have HB := n2_
            clear n0_ n1_ n2_
            have q37 : ((ji18) : Int) ≤ ((l0_3.length : Int) : Int) := od_ (by first | (with_reducible assumption) | assumption)
            obtain ⟨i037, hi037, _, hsz37, _⟩ := info_parts info41
            have hroom37 : l0_3.length ≤ c0_3 := HC0_3.out
            have hC37 : Kd.C k41 _ A0_3 l0_3.length l0_3 := HR0_3.out
            have hcut37 := cut_to (P := Try.prog) 22 41 .i64 Try.underlying22 hi037 A0_3 l0_3.length c0_3 (ji18) (od_ (by first | (with_reducible assumption) | assumption)) q37 hroom37
            have hr37 := Kd.C_take (m := ((ji18) : Int).toNat) hC37 (by omega)
            have hy37 : y224.length = ((ji18) : Int).toNat := (by rw [Ny224.out, List.length_take]; omega)
            rw [← Ny224.out] at hr37
            rw [← hy37] at hcut37
            have HR227 := ak_ hr37
            have HC227 := ak_ (show y224.length ≤ c0_3 from by omega)
            clear hr37 hC37 hroom37 hi037 hsz37
            have KY37 := ak_ hy37
            clear hy37
            replace q37 := eq_true q37
            have q38 : ((ji22) : Int) ≤ ((l0_3.length : Int) : Int) := od_ (by first | (with_reducible assumption) | assumption)
            obtain ⟨i038, hi038, _, hsz38, _⟩ := info_parts info41
            have hroom38 : l0_3.length ≤ c0_3 := HC0_3.out
            have hC38 : Kd.C k41 _ A0_3 l0_3.length l0_3 := HR0_3.out
            have q038 : (0 : Int) ≤ ((ji22) : Int) := od_ (by first | (with_reducible assumption) | assumption)
            have hcut38 := cut_from (P := Try.prog) 22 41 .i64 Try.underlying22 hi038 11 hsz38 A0_3 l0_3.length c0_3 (ji22) q038 q38
            have hr38 := Kd.C_drop (m := ((ji22) : Int).toNat) (c := c0_3) hC38 (by omega) hroom38
            obtain ⟨A38, hA38⟩ : ∃ A1, A1 = (if c0_3 = ((ji22) : Int).toNat then A0_3 else (A0_3 : Option Addr).map (·.add (((ji22) : Int).toNat * 11))) := ⟨_, rfl⟩
            obtain ⟨c38, hc38⟩ : ∃ c1, c1 = c0_3 - ((ji22) : Int).toNat := ⟨_, rfl⟩
            have hy38 : y231.length = l0_3.length - ((ji22) : Int).toNat := (by rw [Ny231.out, List.length_drop] <;> omega)
            rw [show (l0_3).drop ((ji22) : Int).toNat = y231 from Ny231.out.symm] at hr38
            replace hr38 : Kd.C k41 _ A38 y231.length y231 := (by rw [hA38]; exact hr38)
            rw [← hy38, ← hA38, ← hc38] at hcut38
            have HR234 := ak_ hr38
            have HC234 := ak_ (show y231.length ≤ c38 from by rw [hy38, hc38]; exact Nat.sub_le_sub_right hroom38 _)
            clear hr38 hC38 hroom38 hi038 hsz38 hc38
            have KY38 := ak_ hy38
            have KA38 := ak_ hA38
            clear hy38 hA38
            replace q38 := eq_true q38
            refine start_ (n := 13) (S := fun w' => w'.cell? ⟨gb220, 0, none⟩ = some (.int .i64 a0_0) ∧ w'.cell? ⟨gb220, 1, none⟩ = some (.int .i64 a0_1) ∧ w'.cell? ⟨gb220, 2, none⟩ = some (.int .i64 a0_2) ∧ w'.cell? ⟨gb220, 3, none⟩ = some (.slice A0_3 l0_3.length c0_3) ∧ w'.cell? ⟨gb220, 4, none⟩ = some (.bool a0_4) ∧ w'.cell? ⟨gb220, 5, none⟩ = some (.bool a0_5) ∧ w'.cell? ⟨gb220, 6, none⟩ = some (.int .u64 a0_6) ∧ w'.cell? ⟨gb220, 7, none⟩ = some (.int .u64 a0_7) ∧ w'.cell? ⟨gb220, 8, none⟩ = some (.int .u64 a0_8) ∧ w'.cell? ⟨gb220, 9, none⟩ = some (.int .u64 a0_9) ∧ w'.cell? ⟨gb220, 10, none⟩ = some (.int .u64 a0_10) ∧ w'.cell? ⟨gb220, 11, none⟩ = some (.int .u64 a0_11) ∧ w'.cell? ⟨gb220, 12, none⟩ = some (.int .i64 a0_12)) (ds := []) #[false, false, false, false, false, false, false, false, false, false, false, false, false] (by kernel_rfl) rfl rfl ⟨(kc_ BK220.out 0).trans rfl, (kc_ BK220.out 1).trans rfl, (kc_ BK220.out 2).trans rfl, (kc_ BK220.out 3).trans rfl, (kc_ BK220.out 4).trans rfl, (kc_ BK220.out 5).trans rfl, (kc_ BK220.out 6).trans rfl, (kc_ BK220.out 7).trans rfl, (kc_ BK220.out 8).trans rfl, (kc_ BK220.out 9).trans rfl, (kc_ BK220.out 10).trans rfl, (kc_ BK220.out 11).trans rfl, (kc_ BK220.out 12).trans rfl⟩ (fun hHeld => ?_); refine with_tabW medlarlaw16_HeadParts.tab6 medlarlaw16_HeadParts.bits6 (fun HT_ HW_ => ?_)
            generalize w35.drew = w36 at BK220 BK223 HB HR227 HR234 hHeld ⊢
            refine pure_ (i := 0) (N := some 46) (v := ?_) (a' := ?_) (bA5 1 13) rfl rfl (any_of HT_.out (by kernel_rfl)) (fun _ _ _ h => h) (Or.inl ⟨by rfl, ?_⟩) ?_ ?_; rotate_left; (intro w'; go_simp; with_reducible rfl); rotate_left; (simp only [Act.put, setIfInBounds_toArray, set_cons_zero, set_cons_succ, i64_w, i32_w]; rfl)
            refine pure_ (i := 2) (N := some 48) (v := ?_) (a' := ?_) #[true, false, true, false, false, false, false, false, false, false, false, false, false] rfl rfl (any_of HT_.out (by kernel_rfl)) (fun _ _ _ h => h) (Or.inl ⟨by rfl, ?_⟩) ?_ ?_; rotate_left; (intro w'; go_simp; with_reducible rfl); rotate_left; (simp only [Act.put, setIfInBounds_toArray, set_cons_zero, set_cons_succ, i64_w, i32_w]; rfl)
            refine pure_ (i := 5) (N := some 51) (v := ?_) (a' := ?_) #[true, false, true, false, false, true, false, false, false, false, false, false, false] rfl rfl (any_of HT_.out (by kernel_rfl)) (fun _ _ _ h => h) (Or.inl ⟨by rfl, ?_⟩) ?_ ?_; rotate_left; (intro w'; go_simp; with_reducible rfl); rotate_left; (simp only [Act.put, setIfInBounds_toArray, set_cons_zero, set_cons_succ, i64_w, i32_w]; rfl)
            refine pure_ (i := 7) (N := some 53) (v := ?_) (a' := ?_) #[true, false, true, false, false, true, false, true, false, false, false, false, false] rfl rfl (any_of HT_.out (by kernel_rfl)) (fun _ _ _ h => h) (Or.inl ⟨by rfl, ?_⟩) ?_ ?_; rotate_left; (intro w'; go_simp; with_reducible rfl); rotate_left; (simp only [Act.put, setIfInBounds_toArray, set_cons_zero, set_cons_succ, i64_w, i32_w]; rfl)
            refine pure_ (i := 8) (N := some 54) (v := ?_) (a' := ?_) #[true, false, true, false, false, true, false, true, true, false, false, false, false] rfl rfl (any_of HT_.out (by kernel_rfl)) (fun _ _ _ h => h) (Or.inl ⟨by rfl, ?_⟩) ?_ ?_; rotate_left; (intro w'; go_simp; with_reducible rfl); rotate_left; (simp only [Act.put, setIfInBounds_toArray, set_cons_zero, set_cons_succ, i64_w, i32_w]; rfl)
            refine take_ (i := 1) (N := some 47) (v := ?_) (a' := ?_) #[true, true, true, false, false, true, false, true, true, false, false, false, false] rfl rfl (take_ofW HT_.out HW_.out (by kernel_rfl)) (fun _ _ _ h => h) (Or.inl ⟨by rfl, ?_⟩) hHeld ?_ ?_
            rotate_left
            ·rintro w' ⟨s0, s1, s2, s3, s4, s5, s6, s7, s8, s9, s10, s11, s12⟩
             go_simp
             with_reducible rfl
            rotate_left
            ·simp only [Act.put, setIfInBounds_toArray, set_cons_zero, set_cons_succ, i64_w, i32_w]
             rfl
            refine pure_ (i := 3) (N := some 49) (v := ?_) (a' := ?_) #[true, true, true, true, false, true, false, true, true, false, false, false, false] rfl rfl (any_of HT_.out (by kernel_rfl)) (fun _ _ _ h => h) (Or.inl ⟨by rfl, ?_⟩) ?_ ?_; rotate_left; (intro w'; go_simp; with_reducible rfl); rotate_left; (simp only [Act.put, setIfInBounds_toArray, set_cons_zero, set_cons_succ, i64_w, i32_w]; rfl)
            refine take_ (i := 6) (N := some 52) (v := ?_) (a' := ?_) #[true, true, true, true, false, true, true, true, true, false, false, false, false] rfl rfl (take_ofW HT_.out HW_.out (by kernel_rfl)) (fun _ _ _ h => h) (Or.inl ⟨by rfl, ?_⟩) hHeld ?_ ?_
            rotate_left
            ·rintro w' ⟨s0, s1, s2, s3, s4, s5, s6, s7, s8, s9, s10, s11, s12⟩
             go_simp
             with_reducible rfl
            rotate_left
            ·simp only [Act.put, setIfInBounds_toArray, set_cons_zero, set_cons_succ, i64_w, i32_w]
             rfl
            refine pure_ (i := 9) (N := some 55) (v := ?_) (a' := ?_) #[true, true, true, true, false, true, true, true, true, true, false, false, false] rfl rfl (any_of HT_.out (by kernel_rfl)) (fun _ _ _ h => h) (Or.inl ⟨by rfl, ?_⟩) ?_ ?_; rotate_left; (intro w'; go_simp; with_reducible rfl); rotate_left; (simp only [Act.put, setIfInBounds_toArray, set_cons_zero, set_cons_succ, i64_w, i32_w]; rfl)
            refine one_ (i := 4) (N := some 50) (bA5 10 13) rfl rfl (one_of HT_.out (by kernel_rfl)) (by decide) (fun K hK => ?_)
            refine Kd.R_append_rows_step k41 (w0 := w) w.heap.size (by rfl) (.const (.slice none 0 0)) (.tmp 49) 22 41 (.agg #[(.int .u64 0), (.int .u64 0), (.bool false), (.bool false), (.int .u64 0), (.int .u64 0), (.int .u64 0), (.int .u64 0), (.int .u64 0), (.int .u64 0), (.int .i64 0)]) 80 rfl Try.underlying22 info41 rfl (by decide) (by omega) (.slice none 0 0) ([] : List (S41)) y224 _ _ _ (fun _ => True) (fun _ => False) rfl rfl ?aO ?aR (fun _ _ h => h) (fun _ h => h.elim) ?aF ?aB ?aS ?aL ?_
            (case aR => repeat (first | exact (Kd.C_below HR227.out HB.out) | (with_reducible refine Kd.C_alloc ?_ _) | (with_reducible refine Kd.C_drewN ?_ _) | (with_reducible refine Kd.C_drew ?_)))
            (case aB => exact (by repeat (first | (with_reducible first | exact HB.out | apply ba_ | apply bn_ | apply bd_ | refine below_set ?_ GE220.out | refine below_set ?_ GE223.out) | exact HB.out)))
            (case aF => exact (fun _ _ => trivial))
            (case aO => exact ((Kd.R_nil _ _ _ _ (fun _ => True))))
            (case aS => exact (bz_ (by repeat (first | (with_reducible first | exact HB.out | apply ba_ | apply bn_ | apply bd_ | refine below_set ?_ GE220.out | refine below_set ?_ GE223.out) | exact HB.out))))
            (case aL => have := LMc21.out; omega)
            intro v229 w39 ho hb hg hat
            rw [← Ny228.out] at ho
            have n0_ := ak_ (blk_grown (g := gb220) (o := .cells #[.int .i64 a0_0, .int .i64 a0_1, .int .i64 a0_2, .slice A0_3 l0_3.length c0_3, .bool a0_4, .bool a0_5, .int .u64 a0_6, .int .u64 a0_7, .int .u64 a0_8, .int .u64 a0_9, .int .u64 a0_10, .int .u64 a0_11, .int .i64 a0_12] 31 (0, 0)) (by (with_reducible repeat (first | refine kn_ ?_ _ | refine kd_ ?_ | refine ka_ ?_ _)); exact BK220.out) hg (by simp [Value.ownBlock]))
            have n1_ := ak_ (blk_grown (g := gb223) (o := .cells #[.int .i64 a0_0, .int .i64 a0_1, .int .i64 a0_2, .slice A0_3 l0_3.length c0_3, .bool a0_4, .bool a0_5, .int .u64 a0_6, .int .u64 a0_7, .int .u64 a0_8, .int .u64 a0_9, .int .u64 a0_10, .int .u64 a0_11, .int .i64 a0_12] 31 (0, 0)) (by (with_reducible repeat (first | refine kn_ ?_ _ | refine kd_ ?_ | refine ka_ ?_ _)); exact BK223.out) hg (by simp [Value.ownBlock]))
            have n2_ := ak_ (hb)
            have n3_ := ak_ (ho)
            clear BK220
            clear BK223
            clear HB
            have BK220 := n0_
            have BK223 := n1_
            have HB := n2_
            have HO230 := n3_
            clear n0_ n1_ n2_ n3_
            clear ho hb hg hat
            refine hK.out _ _ ⟨(kc_ BK220.out 0).trans rfl, (kc_ BK220.out 1).trans rfl, (kc_ BK220.out 2).trans rfl, (kc_ BK220.out 3).trans rfl, (kc_ BK220.out 4).trans rfl, (kc_ BK220.out 5).trans rfl, (kc_ BK220.out 6).trans rfl, (kc_ BK220.out 7).trans rfl, (kc_ BK220.out 8).trans rfl, (kc_ BK220.out 9).trans rfl, (kc_ BK220.out 10).trans rfl, (kc_ BK220.out 11).trans rfl, (kc_ BK220.out 12).trans rfl⟩ (fun hHeld => ?_)
            clear hK K
            refine norm_ (a' := ?_) ?_ ?_
            rotate_left
            ·show Act.put _ (some 50) _ = _
             simp only [Act.put, setIfInBounds_toArray, set_cons_zero, set_cons_succ, i64_w, i32_w]
             rfl
            refine one_ (i := 10) (N := some 56) (bA5 11 13) rfl rfl (one_of HT_.out (by kernel_rfl)) (by decide) (fun K hK => ?_)
            refine Kd.R_append_rows_step k41 (w0 := w) w.heap.size (by rfl) (.tmp 50) (.tmp 55) 22 41 (.agg #[(.int .u64 0), (.int .u64 0), (.bool false), (.bool false), (.int .u64 0), (.int .u64 0), (.int .u64 0), (.int .u64 0), (.int .u64 0), (.int .u64 0), (.int .i64 0)]) 80 rfl Try.underlying22 info41 rfl (by decide) (by omega) v229 y228 y231 _ _ _ (fun _ => True) (fun _ => False) rfl rfl ?aO ?aR (fun _ _ h => h) (fun _ h => h.elim) ?aF ?aB ?aS ?aL ?_
            (case aR => repeat (first | exact (Kd.C_below HR234.out HB.out) | (with_reducible refine Kd.C_alloc ?_ _) | (with_reducible refine Kd.C_drewN ?_ _) | (with_reducible refine Kd.C_drew ?_)))
            (case aB => exact (by repeat (first | (with_reducible first | exact HB.out | apply ba_ | apply bn_ | apply bd_ | refine below_set ?_ GE220.out | refine below_set ?_ GE223.out) | exact HB.out)))
            (case aF => exact (fun _ _ => trivial))
            (case aO => exact (by (with_reducible repeat (first | apply Kd.R_alloc | apply Kd.R_drewN | apply Kd.R_drew)); exact HO230.out))
            (case aS => exact (bz_ (by repeat (first | (with_reducible first | exact HB.out | apply ba_ | apply bn_ | apply bd_ | refine below_set ?_ GE220.out | refine below_set ?_ GE223.out) | exact HB.out))))
            (case aL => have := LMc25.out; omega)
            intro v236 w40 ho hb hg hat
            rw [← Ny235.out] at ho
            have n0_ := ak_ (blk_grown (g := gb220) (o := .cells #[.int .i64 a0_0, .int .i64 a0_1, .int .i64 a0_2, .slice A0_3 l0_3.length c0_3, .bool a0_4, .bool a0_5, .int .u64 a0_6, .int .u64 a0_7, .int .u64 a0_8, .int .u64 a0_9, .int .u64 a0_10, .int .u64 a0_11, .int .i64 a0_12] 31 (0, 0)) (by (with_reducible repeat (first | refine kn_ ?_ _ | refine kd_ ?_ | refine ka_ ?_ _)); exact BK220.out) hg (Kd.R_ne HO230.out BK220.out (by decide)))
            have n1_ := ak_ (blk_grown (g := gb223) (o := .cells #[.int .i64 a0_0, .int .i64 a0_1, .int .i64 a0_2, .slice A0_3 l0_3.length c0_3, .bool a0_4, .bool a0_5, .int .u64 a0_6, .int .u64 a0_7, .int .u64 a0_8, .int .u64 a0_9, .int .u64 a0_10, .int .u64 a0_11, .int .i64 a0_12] 31 (0, 0)) (by (with_reducible repeat (first | refine kn_ ?_ _ | refine kd_ ?_ | refine ka_ ?_ _)); exact BK223.out) hg (Kd.R_ne HO230.out BK223.out (by decide)))
            have n2_ := ak_ (hb)
            have n3_ := ak_ (ho)
            clear BK220
            clear BK223
            clear HB
            clear HO230
            have BK220 := n0_
            have BK223 := n1_
            have HB := n2_
            have HO237 := n3_
            clear n0_ n1_ n2_ n3_
            clear ho hb hg hat
            obtain ⟨Ao41, co41, eo41⟩ := Kd.R_slice HO237.out
            (first | subst eo41 | (injection eo41 with f1_ f2_ f3_; have f4_ := f1_.symm; have f5_ := f3_.symm; clear f1_ f2_ f3_; subst f4_; subst f5_))
            refine hK.out _ _ ⟨(kc_ BK220.out 0).trans rfl, (kc_ BK220.out 1).trans rfl, (kc_ BK220.out 2).trans rfl, (kc_ BK220.out 3).trans rfl, (kc_ BK220.out 4).trans rfl, (kc_ BK220.out 5).trans rfl, (kc_ BK220.out 6).trans rfl, (kc_ BK220.out 7).trans rfl, (kc_ BK220.out 8).trans rfl, (kc_ BK220.out 9).trans rfl, (kc_ BK220.out 10).trans rfl, (kc_ BK220.out 11).trans rfl, (kc_ BK220.out 12).trans rfl⟩ (fun hHeld => ?_)
            clear hK K
            refine norm_ (a' := ?_) ?_ ?_
            rotate_left
            ·show Act.put _ (some 56) _ = _
             simp only [Act.put, setIfInBounds_toArray, set_cons_zero, set_cons_succ, i64_w, i32_w]
             rfl
            refine pure_ (i := 11) (N := some 57) (v := ?_) (a' := ?_) (bA5 12 13) rfl rfl (any_of HT_.out (by kernel_rfl)) (fun _ _ _ h => h) (Or.inl ⟨by rfl, ?_⟩) ?_ ?_; rotate_left; (intro w'; go_simp; with_reducible rfl); rotate_left; (simp only [Act.put, setIfInBounds_toArray, set_cons_zero, set_cons_succ, i64_w, i32_w]; rfl)
            refine one_ (i := 12) (N := none) (bA5 13 13) rfl rfl (one_of HT_.out (by kernel_rfl)) (by decide) (fun K hK => ?_)
            have hs42 : w40.cell? ⟨gb223, 3, none⟩ = some (.slice A0_3 l0_3.length c0_3) := (kc_ BK223.out 3).trans rfl
            have hfs42 := kf_ BK223.out 3
            have hns42_0 := NB220_223.out
            have hms42_0 := NB223_220.out
            refine skip_ (w1 := ?_) (by rfl) rfl ?_ ?_
            rotate_left
            ·go_simp
             rfl
            refine hK.out _ _ ⟨((cell_far (p := ⟨gb223, _, none⟩) NB220_223.out _).trans (hHeld.1)), ((cell_far (p := ⟨gb223, _, none⟩) NB220_223.out _).trans (hHeld.2.1)), ((cell_far (p := ⟨gb223, _, none⟩) NB220_223.out _).trans (hHeld.2.2.1)), ((cell_far (p := ⟨gb223, _, none⟩) NB220_223.out _).trans (hHeld.2.2.2.1)), ((cell_far (p := ⟨gb223, _, none⟩) NB220_223.out _).trans (hHeld.2.2.2.2.1)), ((cell_far (p := ⟨gb223, _, none⟩) NB220_223.out _).trans (hHeld.2.2.2.2.2.1)), ((cell_far (p := ⟨gb223, _, none⟩) NB220_223.out _).trans (hHeld.2.2.2.2.2.2.1)), ((cell_far (p := ⟨gb223, _, none⟩) NB220_223.out _).trans (hHeld.2.2.2.2.2.2.2.1)), ((cell_far (p := ⟨gb223, _, none⟩) NB220_223.out _).trans (hHeld.2.2.2.2.2.2.2.2.1)), ((cell_far (p := ⟨gb223, _, none⟩) NB220_223.out _).trans (hHeld.2.2.2.2.2.2.2.2.2.1)), ((cell_far (p := ⟨gb223, _, none⟩) NB220_223.out _).trans (hHeld.2.2.2.2.2.2.2.2.2.2.1)), ((cell_far (p := ⟨gb223, _, none⟩) NB220_223.out _).trans (hHeld.2.2.2.2.2.2.2.2.2.2.2.1)), ((cell_far (p := ⟨gb223, _, none⟩) NB220_223.out _).trans (hHeld.2.2.2.2.2.2.2.2.2.2.2.2))⟩ (fun hHeld => ?_)
            clear hK K
            refine done_ (done_of HT_.out (by kernel_rfl)) ?_
            have hcz43_0 : w40.cell? ⟨gb220, 0, none⟩ = some (.int .i64 a0_0) := (kc_ BK220.out 0).trans rfl
            have hcz43_1 : w40.cell? ⟨gb220, 1, none⟩ = some (.int .i64 a0_1) := (kc_ BK220.out 1).trans rfl
            have hcz43_2 : w40.cell? ⟨gb220, 2, none⟩ = some (.int .i64 a0_2) := (kc_ BK220.out 2).trans rfl
            have hcz43_3 : w40.cell? ⟨gb220, 3, none⟩ = some (.slice A0_3 l0_3.length c0_3) := (kc_ BK220.out 3).trans rfl
            have hcz43_4 : w40.cell? ⟨gb220, 4, none⟩ = some (.bool a0_4) := (kc_ BK220.out 4).trans rfl
            have hcz43_5 : w40.cell? ⟨gb220, 5, none⟩ = some (.bool a0_5) := (kc_ BK220.out 5).trans rfl
            have hcz43_6 : w40.cell? ⟨gb220, 6, none⟩ = some (.int .u64 a0_6) := (kc_ BK220.out 6).trans rfl
            have hcz43_7 : w40.cell? ⟨gb220, 7, none⟩ = some (.int .u64 a0_7) := (kc_ BK220.out 7).trans rfl
            have hcz43_8 : w40.cell? ⟨gb220, 8, none⟩ = some (.int .u64 a0_8) := (kc_ BK220.out 8).trans rfl
            have hcz43_9 : w40.cell? ⟨gb220, 9, none⟩ = some (.int .u64 a0_9) := (kc_ BK220.out 9).trans rfl
            have hcz43_10 : w40.cell? ⟨gb220, 10, none⟩ = some (.int .u64 a0_10) := (kc_ BK220.out 10).trans rfl
            have hcz43_11 : w40.cell? ⟨gb220, 11, none⟩ = some (.int .u64 a0_11) := (kc_ BK220.out 11).trans rfl
            have hcz43_12 : w40.cell? ⟨gb220, 12, none⟩ = some (.int .i64 a0_12) := (kc_ BK220.out 12).trans rfl
            have hfz43_0 := kf_ BK220.out 0
            have hfz43_1 := kf_ BK220.out 1
            have hfz43_2 := kf_ BK220.out 2
            have hfz43_3 := kf_ BK220.out 3
            have hfz43_4 := kf_ BK220.out 4
            have hfz43_5 := kf_ BK220.out 5
            have hfz43_6 := kf_ BK220.out 6
            have hfz43_7 := kf_ BK220.out 7
            have hfz43_8 := kf_ BK220.out 8
            have hfz43_9 := kf_ BK220.out 9
            have hfz43_10 := kf_ BK220.out 10
            have hfz43_11 := kf_ BK220.out 11
            have hfz43_12 := kf_ BK220.out 12
            go_upto_region 12 with (first | ((with_reducible refine gate_dst (N := 7) rfl ?_); (try (refine gate_guard (by rfl) ?_; dsimp only)); refine box_event ?hg (N := 7) ?hd (cs := #[.int .i64 0, .int .i64 0, .int .i64 0, .slice none 0 0, .bool false, .bool false, .int .u64 0, .int .u64 0, .int .u64 0, .int .u64 0, .int .u64 0, .int .u64 0, .int .i64 0]) (t := 31) ?hr ?_; (case hd => rfl); (case hg => rfl); (case hr => first | (go_simp; done) | (go_simp; rfl)); intro gb238 hg w44 hbox hb; have n0_ := ak_ (Kd.R_below (by (with_reducible repeat (first | apply Kd.R_alloc | apply Kd.R_drewN | apply Kd.R_drew)); exact (Kd.R_mono (Kd.R_far (p := ⟨gb223, 3, none⟩) (Kd.R_types HO237.out BK223.out (by decide)) (fun _ hk => hk.2) (.slice Ao41 y235.length co41)) (fun _ h_ => h_.1))) hb); have n1_ := ak_ (kb_ (g := gb220) (o := .cells #[.int .i64 a0_0, .int .i64 a0_1, .int .i64 a0_2, .slice A0_3 l0_3.length c0_3, .bool a0_4, .bool a0_5, .int .u64 a0_6, .int .u64 a0_7, .int .u64 a0_8, .int .u64 a0_9, .int .u64 a0_10, .int .u64 a0_11, .int .i64 a0_12] 31 (0, 0)) (by (with_reducible repeat (first | refine kn_ ?_ _ | refine kd_ ?_ | refine ka_ ?_ _)); refine blk_far ?_ NB220_223.out _; (with_reducible repeat (first | refine kn_ ?_ _ | refine kd_ ?_ | refine ka_ ?_ _)); exact BK220.out) hb); have n2_ := ak_ (kb_ (g := gb223) (o := .cells #[.int .i64 a0_0, .int .i64 a0_1, .int .i64 a0_2, .slice Ao41 y235.length co41, .bool a0_4, .bool a0_5, .int .u64 a0_6, .int .u64 a0_7, .int .u64 a0_8, .int .u64 a0_9, .int .u64 a0_10, .int .u64 a0_11, .int .i64 a0_12] 31 (0, 0)) (by (with_reducible repeat (first | refine kn_ ?_ _ | refine kd_ ?_ | refine ka_ ?_ _)); refine blk_put (cs := #[.int .i64 a0_0, .int .i64 a0_1, .int .i64 a0_2, .slice A0_3 l0_3.length c0_3, .bool a0_4, .bool a0_5, .int .u64 a0_6, .int .u64 a0_7, .int .u64 a0_8, .int .u64 a0_9, .int .u64 a0_10, .int .u64 a0_11, .int .i64 a0_12]) ?_ 3 _ rfl; (with_reducible repeat (first | refine kn_ ?_ _ | refine kd_ ?_ | refine ka_ ?_ _)); exact BK223.out) hb); have n3_ := ak_ (bt_ (by repeat (first | (with_reducible first | exact HB.out | apply ba_ | apply bn_ | apply bd_ | refine below_set ?_ GE220.out | refine below_set ?_ GE223.out) | exact HB.out)) hb); have n4_ := ak_ (hbox); have n5_ := ak_ ((by rw [hg]; exact (bz_ (by repeat (first | (with_reducible first | exact HB.out | apply ba_ | apply bn_ | apply bd_ | refine below_set ?_ GE220.out | refine below_set ?_ GE223.out) | exact HB.out))) : w.heap.size ≤ gb238)); have n6_ := ak_ ((by rw [hg]; exact (bz_ (by repeat (first | (with_reducible first | exact HB.out | apply ba_ | apply bn_ | apply bd_ | refine below_set ?_ GE220.out | refine below_set ?_ GE223.out) | exact HB.out))) : w.heap.size ≤ gb238)); have n7_ := ak_ ((by rw [hg]; exact Nat.ne_of_lt (blk_lt (g := gb220) (o := .cells #[.int .i64 a0_0, .int .i64 a0_1, .int .i64 a0_2, .slice A0_3 l0_3.length c0_3, .bool a0_4, .bool a0_5, .int .u64 a0_6, .int .u64 a0_7, .int .u64 a0_8, .int .u64 a0_9, .int .u64 a0_10, .int .u64 a0_11, .int .i64 a0_12] 31 (0, 0)) (by (with_reducible repeat (first | refine kn_ ?_ _ | refine kd_ ?_ | refine ka_ ?_ _)); refine blk_far ?_ NB220_223.out _; (with_reducible repeat (first | refine kn_ ?_ _ | refine kd_ ?_ | refine ka_ ?_ _)); exact BK220.out)) : gb220 ≠ gb238)); have n8_ := ak_ ((by rw [hg]; exact Nat.ne_of_gt (blk_lt (g := gb220) (o := .cells #[.int .i64 a0_0, .int .i64 a0_1, .int .i64 a0_2, .slice A0_3 l0_3.length c0_3, .bool a0_4, .bool a0_5, .int .u64 a0_6, .int .u64 a0_7, .int .u64 a0_8, .int .u64 a0_9, .int .u64 a0_10, .int .u64 a0_11, .int .i64 a0_12] 31 (0, 0)) (by (with_reducible repeat (first | refine kn_ ?_ _ | refine kd_ ?_ | refine ka_ ?_ _)); refine blk_far ?_ NB220_223.out _; (with_reducible repeat (first | refine kn_ ?_ _ | refine kd_ ?_ | refine ka_ ?_ _)); exact BK220.out)) : gb238 ≠ gb220)); have n9_ := ak_ ((by rw [hg]; exact Nat.ne_of_lt (blk_lt (g := gb223) (o := .cells #[.int .i64 a0_0, .int .i64 a0_1, .int .i64 a0_2, .slice Ao41 y235.length co41, .bool a0_4, .bool a0_5, .int .u64 a0_6, .int .u64 a0_7, .int .u64 a0_8, .int .u64 a0_9, .int .u64 a0_10, .int .u64 a0_11, .int .i64 a0_12] 31 (0, 0)) (by (with_reducible repeat (first | refine kn_ ?_ _ | refine kd_ ?_ | refine ka_ ?_ _)); refine blk_put (cs := #[.int .i64 a0_0, .int .i64 a0_1, .int .i64 a0_2, .slice A0_3 l0_3.length c0_3, .bool a0_4, .bool a0_5, .int .u64 a0_6, .int .u64 a0_7, .int .u64 a0_8, .int .u64 a0_9, .int .u64 a0_10, .int .u64 a0_11, .int .i64 a0_12]) ?_ 3 _ rfl; (with_reducible repeat (first | refine kn_ ?_ _ | refine kd_ ?_ | refine ka_ ?_ _)); exact BK223.out)) : gb223 ≠ gb238)); have n10_ := ak_ ((by rw [hg]; exact Nat.ne_of_gt (blk_lt (g := gb223) (o := .cells #[.int .i64 a0_0, .int .i64 a0_1, .int .i64 a0_2, .slice Ao41 y235.length co41, .bool a0_4, .bool a0_5, .int .u64 a0_6, .int .u64 a0_7, .int .u64 a0_8, .int .u64 a0_9, .int .u64 a0_10, .int .u64 a0_11, .int .i64 a0_12] 31 (0, 0)) (by (with_reducible repeat (first | refine kn_ ?_ _ | refine kd_ ?_ | refine ka_ ?_ _)); refine blk_put (cs := #[.int .i64 a0_0, .int .i64 a0_1, .int .i64 a0_2, .slice A0_3 l0_3.length c0_3, .bool a0_4, .bool a0_5, .int .u64 a0_6, .int .u64 a0_7, .int .u64 a0_8, .int .u64 a0_9, .int .u64 a0_10, .int .u64 a0_11, .int .i64 a0_12]) ?_ 3 _ rfl; (with_reducible repeat (first | refine kn_ ?_ _ | refine kd_ ?_ | refine ka_ ?_ _)); exact BK223.out)) : gb238 ≠ gb223)); clear HO237; clear BK220; clear BK223; clear HB; have HO237 := n0_; have BK220 := n1_; have BK223 := n2_; have HB := n3_; have BK238 := n4_; have GW238 := n5_; have GE238 := n6_; have NB220_238 := n7_; have NB238_220 := n8_; have NB223_238 := n9_; have NB238_223 := n10_; clear n0_ n1_ n2_ n3_ n4_ n5_ n6_ n7_ n8_ n9_ n10_; clear hb hbox hg; have hnb45 := NB238_220.out; have hnc45 := NB220_238.out; have hnb46 := NB238_223.out; have hnc46 := NB223_238.out; have hcz47_0 : w44.cell? ⟨gb238, 0, none⟩ = some (.int .i64 0) := (kc_ BK238.out 0).trans rfl; have hcz47_1 : w44.cell? ⟨gb238, 1, none⟩ = some (.int .i64 0) := (kc_ BK238.out 1).trans rfl; have hcz47_2 : w44.cell? ⟨gb238, 2, none⟩ = some (.int .i64 0) := (kc_ BK238.out 2).trans rfl; have hcz47_3 : w44.cell? ⟨gb238, 3, none⟩ = some (.slice none 0 0) := (kc_ BK238.out 3).trans rfl; have hcz47_4 : w44.cell? ⟨gb238, 4, none⟩ = some (.bool false) := (kc_ BK238.out 4).trans rfl; have hcz47_5 : w44.cell? ⟨gb238, 5, none⟩ = some (.bool false) := (kc_ BK238.out 5).trans rfl; have hcz47_6 : w44.cell? ⟨gb238, 6, none⟩ = some (.int .u64 0) := (kc_ BK238.out 6).trans rfl; have hcz47_7 : w44.cell? ⟨gb238, 7, none⟩ = some (.int .u64 0) := (kc_ BK238.out 7).trans rfl; have hcz47_8 : w44.cell? ⟨gb238, 8, none⟩ = some (.int .u64 0) := (kc_ BK238.out 8).trans rfl; have hcz47_9 : w44.cell? ⟨gb238, 9, none⟩ = some (.int .u64 0) := (kc_ BK238.out 9).trans rfl; have hcz47_10 : w44.cell? ⟨gb238, 10, none⟩ = some (.int .u64 0) := (kc_ BK238.out 10).trans rfl; have hcz47_11 : w44.cell? ⟨gb238, 11, none⟩ = some (.int .u64 0) := (kc_ BK238.out 11).trans rfl; have hcz47_12 : w44.cell? ⟨gb238, 12, none⟩ = some (.int .i64 0) := (kc_ BK238.out 12).trans rfl; have hfz47_0 := kf_ BK238.out 0; have hfz47_1 := kf_ BK238.out 1; have hfz47_2 := kf_ BK238.out 2; have hfz47_3 := kf_ BK238.out 3; have hfz47_4 := kf_ BK238.out 4; have hfz47_5 := kf_ BK238.out 5; have hfz47_6 := kf_ BK238.out 6; have hfz47_7 := kf_ BK238.out 7; have hfz47_8 := kf_ BK238.out 8; have hfz47_9 := kf_ BK238.out 9; have hfz47_10 := kf_ BK238.out 10; have hfz47_11 := kf_ BK238.out 11; have hfz47_12 := kf_ BK238.out 12; have hcz48_0 : w44.cell? ⟨gb220, 0, none⟩ = some (.int .i64 a0_0) := (kc_ BK220.out 0).trans rfl; have hcz48_1 : w44.cell? ⟨gb220, 1, none⟩ = some (.int .i64 a0_1) := (kc_ BK220.out 1).trans rfl; have hcz48_2 : w44.cell? ⟨gb220, 2, none⟩ = some (.int .i64 a0_2) := (kc_ BK220.out 2).trans rfl; have hcz48_3 : w44.cell? ⟨gb220, 3, none⟩ = some (.slice A0_3 l0_3.length c0_3) := (kc_ BK220.out 3).trans rfl; have hcz48_4 : w44.cell? ⟨gb220, 4, none⟩ = some (.bool a0_4) := (kc_ BK220.out 4).trans rfl; have hcz48_5 : w44.cell? ⟨gb220, 5, none⟩ = some (.bool a0_5) := (kc_ BK220.out 5).trans rfl; have hcz48_6 : w44.cell? ⟨gb220, 6, none⟩ = some (.int .u64 a0_6) := (kc_ BK220.out 6).trans rfl; have hcz48_7 : w44.cell? ⟨gb220, 7, none⟩ = some (.int .u64 a0_7) := (kc_ BK220.out 7).trans rfl; have hcz48_8 : w44.cell? ⟨gb220, 8, none⟩ = some (.int .u64 a0_8) := (kc_ BK220.out 8).trans rfl; have hcz48_9 : w44.cell? ⟨gb220, 9, none⟩ = some (.int .u64 a0_9) := (kc_ BK220.out 9).trans rfl; have hcz48_10 : w44.cell? ⟨gb220, 10, none⟩ = some (.int .u64 a0_10) := (kc_ BK220.out 10).trans rfl; have hcz48_11 : w44.cell? ⟨gb220, 11, none⟩ = some (.int .u64 a0_11) := (kc_ BK220.out 11).trans rfl; have hcz48_12 : w44.cell? ⟨gb220, 12, none⟩ = some (.int .i64 a0_12) := (kc_ BK220.out 12).trans rfl; have hfz48_0 := kf_ BK220.out 0; have hfz48_1 := kf_ BK220.out 1; have hfz48_2 := kf_ BK220.out 2; have hfz48_3 := kf_ BK220.out 3; have hfz48_4 := kf_ BK220.out 4; have hfz48_5 := kf_ BK220.out 5; have hfz48_6 := kf_ BK220.out 6; have hfz48_7 := kf_ BK220.out 7; have hfz48_8 := kf_ BK220.out 8; have hfz48_9 := kf_ BK220.out 9; have hfz48_10 := kf_ BK220.out 10; have hfz48_11 := kf_ BK220.out 11; have hfz48_12 := kf_ BK220.out 12) | ((with_reducible refine gate_callee (f := 17) rfl ?_); refine goesL_ (some 71) rfl rfl Try.func17 (by kernel_rfl) rfl #[.agg #[.int .i64 a0_0, .int .i64 a0_1, .int .i64 a0_2, .slice A0_3 l0_3.length c0_3, .bool a0_4, .bool a0_5, .int .u64 a0_6, .int .u64 a0_7, .int .u64 a0_8, .int .u64 a0_9, .int .u64 a0_10, .int .u64 a0_11, .int .i64 a0_12]] rfl (by (try simp only [map_toArray, map_cons, map_nil]); first | done | rfl | (simp only [length_drop, length_take]; rfl)) ?_; (with_reducible refine (head_Bytes.calls kj3 a0_0 a0_1 a0_2 _ _ l0_3 a0_4 a0_5 a0_6 a0_7 a0_8 a0_9 a0_10 a0_11 a0_12 t239 t242 _ ?side1 ?side2 A26.out).mono ?_); (case side1 => exact Kd.C_below HR0_3.out (by repeat (first | (with_reducible first | exact HB.out | apply ba_ | apply bn_ | apply bd_ | refine below_set ?_ GE220.out | refine below_set ?_ GE223.out | refine below_set ?_ GE238.out) | exact HB.out))); (case side2 => exact HC0_3.out); rintro e w49 ⟨v240, rfl, ho0, hb⟩; refine ⟨_, rfl, ?_⟩; have n0_ := ak_ (Kd.R_below (by (with_reducible repeat (first | apply Kd.R_alloc | apply Kd.R_drewN | apply Kd.R_drew)); exact (Kd.R_mono (Kd.R_far (p := ⟨gb238, 10, none⟩) (Kd.R_far (p := ⟨gb238, 12, none⟩) (Kd.R_far (p := ⟨gb238, 11, none⟩) (Kd.R_far (p := ⟨gb238, 10, none⟩) (Kd.R_far (p := ⟨gb238, 9, none⟩) (Kd.R_far (p := ⟨gb238, 8, none⟩) (Kd.R_far (p := ⟨gb238, 7, none⟩) (Kd.R_far (p := ⟨gb238, 6, none⟩) (Kd.R_far (p := ⟨gb238, 5, none⟩) (Kd.R_far (p := ⟨gb238, 4, none⟩) (Kd.R_far (p := ⟨gb238, 3, none⟩) (Kd.R_far (p := ⟨gb238, 2, none⟩) (Kd.R_far (p := ⟨gb238, 1, none⟩) (Kd.R_far (p := ⟨gb238, 0, none⟩) (Kd.R_types HO237.out BK238.out (by decide)) (fun _ hk => hk.2) (.int .i64 a0_0)) (fun _ hk => hk.2) (.int .i64 a0_1)) (fun _ hk => hk.2) (.int .i64 a0_2)) (fun _ hk => hk.2) (.slice A0_3 l0_3.length c0_3)) (fun _ hk => hk.2) (.bool a0_4)) (fun _ hk => hk.2) (.bool a0_5)) (fun _ hk => hk.2) (.int .u64 a0_6)) (fun _ hk => hk.2) (.int .u64 a0_7)) (fun _ hk => hk.2) (.int .u64 a0_8)) (fun _ hk => hk.2) (.int .u64 a0_9)) (fun _ hk => hk.2) (.int .u64 a0_10)) (fun _ hk => hk.2) (.int .u64 a0_11)) (fun _ hk => hk.2) (.int .i64 a0_12)) (fun _ hk => hk.2) (.int .u64 (Go.bits .xor .u64 a0_10 1))) (fun _ h_ => h_.1))) hb); have n1_ := ak_ (Kd.R_lower ho0 (bz_ (by repeat (first | (with_reducible first | exact HB.out | apply ba_ | apply bn_ | apply bd_ | refine below_set ?_ GE220.out | refine below_set ?_ GE223.out | refine below_set ?_ GE238.out) | exact HB.out)))); have n2_ := ak_ (kb_ (g := gb220) (o := .cells #[.int .i64 a0_0, .int .i64 a0_1, .int .i64 a0_2, .slice A0_3 l0_3.length c0_3, .bool a0_4, .bool a0_5, .int .u64 a0_6, .int .u64 a0_7, .int .u64 a0_8, .int .u64 a0_9, .int .u64 a0_10, .int .u64 a0_11, .int .i64 a0_12] 31 (0, 0)) (by (with_reducible repeat (first | refine kn_ ?_ _ | refine kd_ ?_ | refine ka_ ?_ _)); refine blk_far ?_ NB220_238.out _; (with_reducible repeat (first | refine kn_ ?_ _ | refine kd_ ?_ | refine ka_ ?_ _)); refine blk_far ?_ NB220_238.out _; (with_reducible repeat (first | refine kn_ ?_ _ | refine kd_ ?_ | refine ka_ ?_ _)); refine blk_far ?_ NB220_238.out _; (with_reducible repeat (first | refine kn_ ?_ _ | refine kd_ ?_ | refine ka_ ?_ _)); refine blk_far ?_ NB220_238.out _; (with_reducible repeat (first | refine kn_ ?_ _ | refine kd_ ?_ | refine ka_ ?_ _)); refine blk_far ?_ NB220_238.out _; (with_reducible repeat (first | refine kn_ ?_ _ | refine kd_ ?_ | refine ka_ ?_ _)); refine blk_far ?_ NB220_238.out _; (with_reducible repeat (first | refine kn_ ?_ _ | refine kd_ ?_ | refine ka_ ?_ _)); refine blk_far ?_ NB220_238.out _; (with_reducible repeat (first | refine kn_ ?_ _ | refine kd_ ?_ | refine ka_ ?_ _)); refine blk_far ?_ NB220_238.out _; (with_reducible repeat (first | refine kn_ ?_ _ | refine kd_ ?_ | refine ka_ ?_ _)); refine blk_far ?_ NB220_238.out _; (with_reducible repeat (first | refine kn_ ?_ _ | refine kd_ ?_ | refine ka_ ?_ _)); refine blk_far ?_ NB220_238.out _; (with_reducible repeat (first | refine kn_ ?_ _ | refine kd_ ?_ | refine ka_ ?_ _)); refine blk_far ?_ NB220_238.out _; (with_reducible repeat (first | refine kn_ ?_ _ | refine kd_ ?_ | refine ka_ ?_ _)); refine blk_far ?_ NB220_238.out _; (with_reducible repeat (first | refine kn_ ?_ _ | refine kd_ ?_ | refine ka_ ?_ _)); refine blk_far ?_ NB220_238.out _; (with_reducible repeat (first | refine kn_ ?_ _ | refine kd_ ?_ | refine ka_ ?_ _)); refine blk_far ?_ NB220_238.out _; (with_reducible repeat (first | refine kn_ ?_ _ | refine kd_ ?_ | refine ka_ ?_ _)); exact BK220.out) hb); have n3_ := ak_ (kb_ (g := gb223) (o := .cells #[.int .i64 a0_0, .int .i64 a0_1, .int .i64 a0_2, .slice Ao41 y235.length co41, .bool a0_4, .bool a0_5, .int .u64 a0_6, .int .u64 a0_7, .int .u64 a0_8, .int .u64 a0_9, .int .u64 a0_10, .int .u64 a0_11, .int .i64 a0_12] 31 (0, 0)) (by (with_reducible repeat (first | refine kn_ ?_ _ | refine kd_ ?_ | refine ka_ ?_ _)); refine blk_far ?_ NB223_238.out _; (with_reducible repeat (first | refine kn_ ?_ _ | refine kd_ ?_ | refine ka_ ?_ _)); refine blk_far ?_ NB223_238.out _; (with_reducible repeat (first | refine kn_ ?_ _ | refine kd_ ?_ | refine ka_ ?_ _)); refine blk_far ?_ NB223_238.out _; (with_reducible repeat (first | refine kn_ ?_ _ | refine kd_ ?_ | refine ka_ ?_ _)); refine blk_far ?_ NB223_238.out _; (with_reducible repeat (first | refine kn_ ?_ _ | refine kd_ ?_ | refine ka_ ?_ _)); refine blk_far ?_ NB223_238.out _; (with_reducible repeat (first | refine kn_ ?_ _ | refine kd_ ?_ | refine ka_ ?_ _)); refine blk_far ?_ NB223_238.out _; (with_reducible repeat (first | refine kn_ ?_ _ | refine kd_ ?_ | refine ka_ ?_ _)); refine blk_far ?_ NB223_238.out _; (with_reducible repeat (first | refine kn_ ?_ _ | refine kd_ ?_ | refine ka_ ?_ _)); refine blk_far ?_ NB223_238.out _; (with_reducible repeat (first | refine kn_ ?_ _ | refine kd_ ?_ | refine ka_ ?_ _)); refine blk_far ?_ NB223_238.out _; (with_reducible repeat (first | refine kn_ ?_ _ | refine kd_ ?_ | refine ka_ ?_ _)); refine blk_far ?_ NB223_238.out _; (with_reducible repeat (first | refine kn_ ?_ _ | refine kd_ ?_ | refine ka_ ?_ _)); refine blk_far ?_ NB223_238.out _; (with_reducible repeat (first | refine kn_ ?_ _ | refine kd_ ?_ | refine ka_ ?_ _)); refine blk_far ?_ NB223_238.out _; (with_reducible repeat (first | refine kn_ ?_ _ | refine kd_ ?_ | refine ka_ ?_ _)); refine blk_far ?_ NB223_238.out _; (with_reducible repeat (first | refine kn_ ?_ _ | refine kd_ ?_ | refine ka_ ?_ _)); refine blk_far ?_ NB223_238.out _; (with_reducible repeat (first | refine kn_ ?_ _ | refine kd_ ?_ | refine ka_ ?_ _)); exact BK223.out) hb); have n4_ := ak_ (kb_ (g := gb238) (o := .cells #[.int .i64 a0_0, .int .i64 a0_1, .int .i64 a0_2, .slice A0_3 l0_3.length c0_3, .bool a0_4, .bool a0_5, .int .u64 a0_6, .int .u64 a0_7, .int .u64 a0_8, .int .u64 a0_9, .int .u64 (Go.bits .xor .u64 a0_10 1), .int .u64 a0_11, .int .i64 a0_12] 31 (0, 0)) (by (with_reducible repeat (first | refine kn_ ?_ _ | refine kd_ ?_ | refine ka_ ?_ _)); refine blk_put (cs := #[.int .i64 a0_0, .int .i64 a0_1, .int .i64 a0_2, .slice A0_3 l0_3.length c0_3, .bool a0_4, .bool a0_5, .int .u64 a0_6, .int .u64 a0_7, .int .u64 a0_8, .int .u64 a0_9, .int .u64 a0_10, .int .u64 a0_11, .int .i64 a0_12]) ?_ 10 _ rfl; (with_reducible repeat (first | refine kn_ ?_ _ | refine kd_ ?_ | refine ka_ ?_ _)); refine blk_put (cs := #[.int .i64 a0_0, .int .i64 a0_1, .int .i64 a0_2, .slice A0_3 l0_3.length c0_3, .bool a0_4, .bool a0_5, .int .u64 a0_6, .int .u64 a0_7, .int .u64 a0_8, .int .u64 a0_9, .int .u64 a0_10, .int .u64 a0_11, .int .i64 0]) ?_ 12 _ rfl; (with_reducible repeat (first | refine kn_ ?_ _ | refine kd_ ?_ | refine ka_ ?_ _)); refine blk_put (cs := #[.int .i64 a0_0, .int .i64 a0_1, .int .i64 a0_2, .slice A0_3 l0_3.length c0_3, .bool a0_4, .bool a0_5, .int .u64 a0_6, .int .u64 a0_7, .int .u64 a0_8, .int .u64 a0_9, .int .u64 a0_10, .int .u64 0, .int .i64 0]) ?_ 11 _ rfl; (with_reducible repeat (first | refine kn_ ?_ _ | refine kd_ ?_ | refine ka_ ?_ _)); refine blk_put (cs := #[.int .i64 a0_0, .int .i64 a0_1, .int .i64 a0_2, .slice A0_3 l0_3.length c0_3, .bool a0_4, .bool a0_5, .int .u64 a0_6, .int .u64 a0_7, .int .u64 a0_8, .int .u64 a0_9, .int .u64 0, .int .u64 0, .int .i64 0]) ?_ 10 _ rfl; (with_reducible repeat (first | refine kn_ ?_ _ | refine kd_ ?_ | refine ka_ ?_ _)); refine blk_put (cs := #[.int .i64 a0_0, .int .i64 a0_1, .int .i64 a0_2, .slice A0_3 l0_3.length c0_3, .bool a0_4, .bool a0_5, .int .u64 a0_6, .int .u64 a0_7, .int .u64 a0_8, .int .u64 0, .int .u64 0, .int .u64 0, .int .i64 0]) ?_ 9 _ rfl; (with_reducible repeat (first | refine kn_ ?_ _ | refine kd_ ?_ | refine ka_ ?_ _)); refine blk_put (cs := #[.int .i64 a0_0, .int .i64 a0_1, .int .i64 a0_2, .slice A0_3 l0_3.length c0_3, .bool a0_4, .bool a0_5, .int .u64 a0_6, .int .u64 a0_7, .int .u64 0, .int .u64 0, .int .u64 0, .int .u64 0, .int .i64 0]) ?_ 8 _ rfl; (with_reducible repeat (first | refine kn_ ?_ _ | refine kd_ ?_ | refine ka_ ?_ _)); refine blk_put (cs := #[.int .i64 a0_0, .int .i64 a0_1, .int .i64 a0_2, .slice A0_3 l0_3.length c0_3, .bool a0_4, .bool a0_5, .int .u64 a0_6, .int .u64 0, .int .u64 0, .int .u64 0, .int .u64 0, .int .u64 0, .int .i64 0]) ?_ 7 _ rfl; (with_reducible repeat (first | refine kn_ ?_ _ | refine kd_ ?_ | refine ka_ ?_ _)); refine blk_put (cs := #[.int .i64 a0_0, .int .i64 a0_1, .int .i64 a0_2, .slice A0_3 l0_3.length c0_3, .bool a0_4, .bool a0_5, .int .u64 0, .int .u64 0, .int .u64 0, .int .u64 0, .int .u64 0, .int .u64 0, .int .i64 0]) ?_ 6 _ rfl; (with_reducible repeat (first | refine kn_ ?_ _ | refine kd_ ?_ | refine ka_ ?_ _)); refine blk_put (cs := #[.int .i64 a0_0, .int .i64 a0_1, .int .i64 a0_2, .slice A0_3 l0_3.length c0_3, .bool a0_4, .bool false, .int .u64 0, .int .u64 0, .int .u64 0, .int .u64 0, .int .u64 0, .int .u64 0, .int .i64 0]) ?_ 5 _ rfl; (with_reducible repeat (first | refine kn_ ?_ _ | refine kd_ ?_ | refine ka_ ?_ _)); refine blk_put (cs := #[.int .i64 a0_0, .int .i64 a0_1, .int .i64 a0_2, .slice A0_3 l0_3.length c0_3, .bool false, .bool false, .int .u64 0, .int .u64 0, .int .u64 0, .int .u64 0, .int .u64 0, .int .u64 0, .int .i64 0]) ?_ 4 _ rfl; (with_reducible repeat (first | refine kn_ ?_ _ | refine kd_ ?_ | refine ka_ ?_ _)); refine blk_put (cs := #[.int .i64 a0_0, .int .i64 a0_1, .int .i64 a0_2, .slice none 0 0, .bool false, .bool false, .int .u64 0, .int .u64 0, .int .u64 0, .int .u64 0, .int .u64 0, .int .u64 0, .int .i64 0]) ?_ 3 _ rfl; (with_reducible repeat (first | refine kn_ ?_ _ | refine kd_ ?_ | refine ka_ ?_ _)); refine blk_put (cs := #[.int .i64 a0_0, .int .i64 a0_1, .int .i64 0, .slice none 0 0, .bool false, .bool false, .int .u64 0, .int .u64 0, .int .u64 0, .int .u64 0, .int .u64 0, .int .u64 0, .int .i64 0]) ?_ 2 _ rfl; (with_reducible repeat (first | refine kn_ ?_ _ | refine kd_ ?_ | refine ka_ ?_ _)); refine blk_put (cs := #[.int .i64 a0_0, .int .i64 0, .int .i64 0, .slice none 0 0, .bool false, .bool false, .int .u64 0, .int .u64 0, .int .u64 0, .int .u64 0, .int .u64 0, .int .u64 0, .int .i64 0]) ?_ 1 _ rfl; (with_reducible repeat (first | refine kn_ ?_ _ | refine kd_ ?_ | refine ka_ ?_ _)); refine blk_put (cs := #[.int .i64 0, .int .i64 0, .int .i64 0, .slice none 0 0, .bool false, .bool false, .int .u64 0, .int .u64 0, .int .u64 0, .int .u64 0, .int .u64 0, .int .u64 0, .int .i64 0]) ?_ 0 _ rfl; (with_reducible repeat (first | refine kn_ ?_ _ | refine kd_ ?_ | refine ka_ ?_ _)); exact BK238.out) hb); have n5_ := ak_ (bt_ (by repeat (first | (with_reducible first | exact HB.out | apply ba_ | apply bn_ | apply bd_ | refine below_set ?_ GE220.out | refine below_set ?_ GE223.out | refine below_set ?_ GE238.out) | exact HB.out)) hb); clear HO237; clear BK220; clear BK223; clear BK238; clear HB; have HO237 := n0_; have HO241 := n1_; have BK220 := n2_; have BK223 := n3_; have BK238 := n4_; have HB := n5_; clear n0_ n1_ n2_ n3_ n4_ n5_; (try clear hb); (try clear hb2); (try clear hk); (try clear hi); (try clear ho0); have hcz50_0 : w49.cell? ⟨gb223, 0, none⟩ = some (.int .i64 a0_0) := (kc_ BK223.out 0).trans rfl; have hcz50_1 : w49.cell? ⟨gb223, 1, none⟩ = some (.int .i64 a0_1) := (kc_ BK223.out 1).trans rfl; have hcz50_2 : w49.cell? ⟨gb223, 2, none⟩ = some (.int .i64 a0_2) := (kc_ BK223.out 2).trans rfl; have hcz50_3 : w49.cell? ⟨gb223, 3, none⟩ = some (.slice Ao41 y235.length co41) := (kc_ BK223.out 3).trans rfl; have hcz50_4 : w49.cell? ⟨gb223, 4, none⟩ = some (.bool a0_4) := (kc_ BK223.out 4).trans rfl; have hcz50_5 : w49.cell? ⟨gb223, 5, none⟩ = some (.bool a0_5) := (kc_ BK223.out 5).trans rfl; have hcz50_6 : w49.cell? ⟨gb223, 6, none⟩ = some (.int .u64 a0_6) := (kc_ BK223.out 6).trans rfl; have hcz50_7 : w49.cell? ⟨gb223, 7, none⟩ = some (.int .u64 a0_7) := (kc_ BK223.out 7).trans rfl; have hcz50_8 : w49.cell? ⟨gb223, 8, none⟩ = some (.int .u64 a0_8) := (kc_ BK223.out 8).trans rfl; have hcz50_9 : w49.cell? ⟨gb223, 9, none⟩ = some (.int .u64 a0_9) := (kc_ BK223.out 9).trans rfl; have hcz50_10 : w49.cell? ⟨gb223, 10, none⟩ = some (.int .u64 a0_10) := (kc_ BK223.out 10).trans rfl; have hcz50_11 : w49.cell? ⟨gb223, 11, none⟩ = some (.int .u64 a0_11) := (kc_ BK223.out 11).trans rfl; have hcz50_12 : w49.cell? ⟨gb223, 12, none⟩ = some (.int .i64 a0_12) := (kc_ BK223.out 12).trans rfl; have hfz50_0 := kf_ BK223.out 0; have hfz50_1 := kf_ BK223.out 1; have hfz50_2 := kf_ BK223.out 2; have hfz50_3 := kf_ BK223.out 3; have hfz50_4 := kf_ BK223.out 4; have hfz50_5 := kf_ BK223.out 5; have hfz50_6 := kf_ BK223.out 6; have hfz50_7 := kf_ BK223.out 7; have hfz50_8 := kf_ BK223.out 8; have hfz50_9 := kf_ BK223.out 9; have hfz50_10 := kf_ BK223.out 10; have hfz50_11 := kf_ BK223.out 11; have hfz50_12 := kf_ BK223.out 12) | ((with_reducible refine gate_callee (f := 17) rfl ?_); refine goesL_ (some 76) rfl rfl Try.func17 (by kernel_rfl) rfl #[.agg #[.int .i64 a0_0, .int .i64 a0_1, .int .i64 a0_2, .slice Ao41 y235.length co41, .bool a0_4, .bool a0_5, .int .u64 a0_6, .int .u64 a0_7, .int .u64 a0_8, .int .u64 a0_9, .int .u64 a0_10, .int .u64 a0_11, .int .i64 a0_12]] rfl (by (try simp only [map_toArray, map_cons, map_nil]); first | done | rfl | (simp only [length_drop, length_take]; rfl)) ?_; (with_reducible refine (head_Bytes.calls kj3 a0_0 a0_1 a0_2 _ _ y235 a0_4 a0_5 a0_6 a0_7 a0_8 a0_9 a0_10 a0_11 a0_12 t243 t246 _ ?side1 ?side2 A27.out).mono ?_); (case side1 => repeat (first | exact (Kd.R_reads' HO237.out).2.2 | (with_reducible refine Kd.C_alloc ?_ _) | (with_reducible refine Kd.C_drewN ?_ _) | (with_reducible refine Kd.C_drew ?_))); (case side2 => exact (Kd.R_reads' HO237.out).2.1); rintro e w51 ⟨v244, rfl, ho0, hb⟩; refine ⟨_, rfl, ?_⟩; have n0_ := ak_ (Kd.R_below (by (with_reducible repeat (first | apply Kd.R_alloc | apply Kd.R_drewN | apply Kd.R_drew)); exact HO237.out) hb); have n1_ := ak_ (Kd.R_elder' (by (with_reducible repeat (first | apply Kd.R_alloc | apply Kd.R_drewN | apply Kd.R_drew)); exact HO241.out) (Kd.R_base ho0) hb); have n2_ := ak_ (Kd.R_lower (Kd.R_new' ho0 (Kd.R_lt (by (with_reducible repeat (first | apply Kd.R_alloc | apply Kd.R_drewN | apply Kd.R_drew)); exact HO241.out))) (bz_ (by repeat (first | (with_reducible first | exact HB.out | apply ba_ | apply bn_ | apply bd_ | refine below_set ?_ GE220.out | refine below_set ?_ GE223.out | refine below_set ?_ GE238.out) | exact HB.out)))); have n3_ := ak_ (kb_ (g := gb220) (o := .cells #[.int .i64 a0_0, .int .i64 a0_1, .int .i64 a0_2, .slice A0_3 l0_3.length c0_3, .bool a0_4, .bool a0_5, .int .u64 a0_6, .int .u64 a0_7, .int .u64 a0_8, .int .u64 a0_9, .int .u64 a0_10, .int .u64 a0_11, .int .i64 a0_12] 31 (0, 0)) (by (with_reducible repeat (first | refine kn_ ?_ _ | refine kd_ ?_ | refine ka_ ?_ _)); exact BK220.out) hb); have n4_ := ak_ (kb_ (g := gb223) (o := .cells #[.int .i64 a0_0, .int .i64 a0_1, .int .i64 a0_2, .slice Ao41 y235.length co41, .bool a0_4, .bool a0_5, .int .u64 a0_6, .int .u64 a0_7, .int .u64 a0_8, .int .u64 a0_9, .int .u64 a0_10, .int .u64 a0_11, .int .i64 a0_12] 31 (0, 0)) (by (with_reducible repeat (first | refine kn_ ?_ _ | refine kd_ ?_ | refine ka_ ?_ _)); exact BK223.out) hb); have n5_ := ak_ (kb_ (g := gb238) (o := .cells #[.int .i64 a0_0, .int .i64 a0_1, .int .i64 a0_2, .slice A0_3 l0_3.length c0_3, .bool a0_4, .bool a0_5, .int .u64 a0_6, .int .u64 a0_7, .int .u64 a0_8, .int .u64 a0_9, .int .u64 (Go.bits .xor .u64 a0_10 1), .int .u64 a0_11, .int .i64 a0_12] 31 (0, 0)) (by (with_reducible repeat (first | refine kn_ ?_ _ | refine kd_ ?_ | refine ka_ ?_ _)); exact BK238.out) hb); have n6_ := ak_ (bt_ (by repeat (first | (with_reducible first | exact HB.out | apply ba_ | apply bn_ | apply bd_ | refine below_set ?_ GE220.out | refine below_set ?_ GE223.out | refine below_set ?_ GE238.out) | exact HB.out)) hb); clear HO237; clear HO241; clear BK220; clear BK223; clear BK238; clear HB; have HO237 := n0_; have HO241 := n1_; have HO245 := n2_; have BK220 := n3_; have BK223 := n4_; have BK238 := n5_; have HB := n6_; clear n0_ n1_ n2_ n3_ n4_ n5_ n6_; (try clear hb); (try clear hb2); (try clear hk); (try clear hi); (try clear ho0); have hcz52_0 : w51.cell? ⟨gb238, 0, none⟩ = some (.int .i64 a0_0) := (kc_ BK238.out 0).trans rfl; have hcz52_1 : w51.cell? ⟨gb238, 1, none⟩ = some (.int .i64 a0_1) := (kc_ BK238.out 1).trans rfl; have hcz52_2 : w51.cell? ⟨gb238, 2, none⟩ = some (.int .i64 a0_2) := (kc_ BK238.out 2).trans rfl; have hcz52_3 : w51.cell? ⟨gb238, 3, none⟩ = some (.slice A0_3 l0_3.length c0_3) := (kc_ BK238.out 3).trans rfl; have hcz52_4 : w51.cell? ⟨gb238, 4, none⟩ = some (.bool a0_4) := (kc_ BK238.out 4).trans rfl; have hcz52_5 : w51.cell? ⟨gb238, 5, none⟩ = some (.bool a0_5) := (kc_ BK238.out 5).trans rfl; have hcz52_6 : w51.cell? ⟨gb238, 6, none⟩ = some (.int .u64 a0_6) := (kc_ BK238.out 6).trans rfl; have hcz52_7 : w51.cell? ⟨gb238, 7, none⟩ = some (.int .u64 a0_7) := (kc_ BK238.out 7).trans rfl; have hcz52_8 : w51.cell? ⟨gb238, 8, none⟩ = some (.int .u64 a0_8) := (kc_ BK238.out 8).trans rfl; have hcz52_9 : w51.cell? ⟨gb238, 9, none⟩ = some (.int .u64 a0_9) := (kc_ BK238.out 9).trans rfl; have hcz52_10 : w51.cell? ⟨gb238, 10, none⟩ = some (.int .u64 (Go.bits .xor .u64 a0_10 1)) := (kc_ BK238.out 10).trans rfl; have hcz52_11 : w51.cell? ⟨gb238, 11, none⟩ = some (.int .u64 a0_11) := (kc_ BK238.out 11).trans rfl; have hcz52_12 : w51.cell? ⟨gb238, 12, none⟩ = some (.int .i64 a0_12) := (kc_ BK238.out 12).trans rfl; have hfz52_0 := kf_ BK238.out 0; have hfz52_1 := kf_ BK238.out 1; have hfz52_2 := kf_ BK238.out 2; have hfz52_3 := kf_ BK238.out 3; have hfz52_4 := kf_ BK238.out 4; have hfz52_5 := kf_ BK238.out 5; have hfz52_6 := kf_ BK238.out 6; have hfz52_7 := kf_ BK238.out 7; have hfz52_8 := kf_ BK238.out 8; have hfz52_9 := kf_ BK238.out 9; have hfz52_10 := kf_ BK238.out 10; have hfz52_11 := kf_ BK238.out 11; have hfz52_12 := kf_ BK238.out 12) | ((with_reducible refine gate_callee (f := 17) rfl ?_); refine goesL_ (some 81) rfl rfl Try.func17 (by kernel_rfl) rfl #[.agg #[.int .i64 a0_0, .int .i64 a0_1, .int .i64 a0_2, .slice A0_3 l0_3.length c0_3, .bool a0_4, .bool a0_5, .int .u64 a0_6, .int .u64 a0_7, .int .u64 a0_8, .int .u64 a0_9, .int .u64 (Go.bits .xor .u64 a0_10 1), .int .u64 a0_11, .int .i64 a0_12]] rfl (by (try simp only [map_toArray, map_cons, map_nil]); first | done | rfl | (simp only [length_drop, length_take]; rfl)) ?_; (with_reducible refine (head_Bytes.calls kj3 a0_0 a0_1 a0_2 _ _ l0_3 a0_4 a0_5 a0_6 a0_7 a0_8 a0_9 (Go.bits .xor .u64 a0_10 1) a0_11 a0_12 t247 t250 _ ?side1 ?side2 A28.out).mono ?_); (case side1 => repeat (first | exact (Kd.C_below HR0_3.out HB.out) | (with_reducible refine Kd.C_alloc ?_ _) | (with_reducible refine Kd.C_drewN ?_ _) | (with_reducible refine Kd.C_drew ?_))); (case side2 => exact HC0_3.out); rintro e w53 ⟨v248, rfl, ho0, hb⟩; refine ⟨_, rfl, ?_⟩; have n0_ := ak_ (Kd.R_below (by (with_reducible repeat (first | apply Kd.R_alloc | apply Kd.R_drewN | apply Kd.R_drew)); exact HO237.out) hb); have n1_ := ak_ (Kd.R_elder' (by (with_reducible repeat (first | apply Kd.R_alloc | apply Kd.R_drewN | apply Kd.R_drew)); exact HO241.out) (Kd.R_base ho0) hb); have n2_ := ak_ (Kd.R_elder' (by (with_reducible repeat (first | apply Kd.R_alloc | apply Kd.R_drewN | apply Kd.R_drew)); exact HO245.out) (Kd.R_base ho0) hb); have n3_ := ak_ (Kd.R_lower (Kd.R_new' (Kd.R_new' ho0 (Kd.R_lt (by (with_reducible repeat (first | apply Kd.R_alloc | apply Kd.R_drewN | apply Kd.R_drew)); exact HO241.out))) (Kd.R_lt (by (with_reducible repeat (first | apply Kd.R_alloc | apply Kd.R_drewN | apply Kd.R_drew)); exact HO245.out))) (bz_ (by repeat (first | (with_reducible first | exact HB.out | apply ba_ | apply bn_ | apply bd_ | refine below_set ?_ GE220.out | refine below_set ?_ GE223.out | refine below_set ?_ GE238.out) | exact HB.out)))); have n4_ := ak_ (kb_ (g := gb220) (o := .cells #[.int .i64 a0_0, .int .i64 a0_1, .int .i64 a0_2, .slice A0_3 l0_3.length c0_3, .bool a0_4, .bool a0_5, .int .u64 a0_6, .int .u64 a0_7, .int .u64 a0_8, .int .u64 a0_9, .int .u64 a0_10, .int .u64 a0_11, .int .i64 a0_12] 31 (0, 0)) (by (with_reducible repeat (first | refine kn_ ?_ _ | refine kd_ ?_ | refine ka_ ?_ _)); exact BK220.out) hb); have n5_ := ak_ (kb_ (g := gb223) (o := .cells #[.int .i64 a0_0, .int .i64 a0_1, .int .i64 a0_2, .slice Ao41 y235.length co41, .bool a0_4, .bool a0_5, .int .u64 a0_6, .int .u64 a0_7, .int .u64 a0_8, .int .u64 a0_9, .int .u64 a0_10, .int .u64 a0_11, .int .i64 a0_12] 31 (0, 0)) (by (with_reducible repeat (first | refine kn_ ?_ _ | refine kd_ ?_ | refine ka_ ?_ _)); exact BK223.out) hb); have n6_ := ak_ (kb_ (g := gb238) (o := .cells #[.int .i64 a0_0, .int .i64 a0_1, .int .i64 a0_2, .slice A0_3 l0_3.length c0_3, .bool a0_4, .bool a0_5, .int .u64 a0_6, .int .u64 a0_7, .int .u64 a0_8, .int .u64 a0_9, .int .u64 (Go.bits .xor .u64 a0_10 1), .int .u64 a0_11, .int .i64 a0_12] 31 (0, 0)) (by (with_reducible repeat (first | refine kn_ ?_ _ | refine kd_ ?_ | refine ka_ ?_ _)); exact BK238.out) hb); have n7_ := ak_ (bt_ (by repeat (first | (with_reducible first | exact HB.out | apply ba_ | apply bn_ | apply bd_ | refine below_set ?_ GE220.out | refine below_set ?_ GE223.out | refine below_set ?_ GE238.out) | exact HB.out)) hb); clear HO237; clear HO241; clear HO245; clear BK220; clear BK223; clear BK238; clear HB; have HO237 := n0_; have HO241 := n1_; have HO245 := n2_; have HO249 := n3_; have BK220 := n4_; have BK223 := n5_; have BK238 := n6_; have HB := n7_; clear n0_ n1_ n2_ n3_ n4_ n5_ n6_ n7_; (try clear hb); (try clear hb2); (try clear hk); (try clear hi); (try clear ho0)))
            (try simp only [Act.put, setIfInBounds_toArray, set_cons_zero, set_cons_succ])
            go_cut [115] (fun v115 wc => ∃ (kq : Nat) (x115_28 : Bool), v115 = .bool x115_28 ∧ Aside0 (medlarlaw16_HeadParts.j1 kq ji18 t221 x115_28 a0_0 a0_1 a0_2 l0_3 a0_4 a0_5 a0_6 a0_7 a0_8 a0_9 a0_10 a0_11 a0_12 = some r) ∧ Aside0 (kq ≤ kj3) ∧ Aside0 (Kd.R k41 41 wc w.heap.size (fun _ => True) (.slice Ao41 y235.length co41) y235) ∧ Aside0 (wc.heap[gb220]? = some (.cells #[.int .i64 a0_0, .int .i64 a0_1, .int .i64 a0_2, (.slice A0_3 l0_3.length c0_3), .bool a0_4, .bool a0_5, .int .u64 a0_6, .int .u64 a0_7, .int .u64 a0_8, .int .u64 a0_9, .int .u64 a0_10, .int .u64 a0_11, .int .i64 a0_12] 31 (0, 0))) ∧ Aside0 (wc.heap[gb223]? = some (.cells #[.int .i64 a0_0, .int .i64 a0_1, .int .i64 a0_2, (.slice Ao41 y235.length co41), .bool a0_4, .bool a0_5, .int .u64 a0_6, .int .u64 a0_7, .int .u64 a0_8, .int .u64 a0_9, .int .u64 a0_10, .int .u64 a0_11, .int .i64 a0_12] 31 (0, 0))) ∧ Aside0 (wc.heap[gb238]? = some (.cells #[.int .i64 a0_0, .int .i64 a0_1, .int .i64 a0_2, (.slice A0_3 l0_3.length c0_3), .bool a0_4, .bool a0_5, .int .u64 a0_6, .int .u64 a0_7, .int .u64 a0_8, .int .u64 a0_9, .int .u64 (Go.bits .xor .u64 a0_10 1), .int .u64 a0_11, .int .i64 a0_12] 31 (0, 0))) ∧ Aside0 (Below w.heap.size w wc))
            case first =>
             have H := HC29.out
             clear HC29
             by_cases c54 : t242 = 0
             ·rw [if_pos c54] at H
              have c54b0 : (t242 == 0) = true := beq_iff_eq.mpr c54
              have c54b1 : (t242 != 0) = false := bne_eq_false_iff_eq.mpr c54
              clear c54
              (first | rw [c54b0] | (simp only [i64_w, i32_w]; rw [c54b0]) | skip)
              by_cases c55 : t246 = 0
              ·rw [if_pos c55] at H
               have c55b0 : (t246 == 0) = true := beq_iff_eq.mpr c55
               have c55b1 : (t246 != 0) = false := bne_eq_false_iff_eq.mpr c55
               clear c55
               by_cases c56 : t250 = 0
               ·rw [if_pos c56] at H
                have c56b0 : (t250 == 0) = true := beq_iff_eq.mpr c56
                have c56b1 : (t250 != 0) = false := bne_eq_false_iff_eq.mpr c56
                clear c56
                by_cases c57 : (wrap64 ((t243.length : Int) + 48)) = (t239.length : Int)
                ·rw [if_pos c57] at H
                 have c57b0 : ((wrap64 ((t243.length : Int) + 48)) == (t239.length : Int)) = true := beq_iff_eq.mpr c57
                 have c57b1 : ((wrap64 ((t243.length : Int) + 48)) != (t239.length : Int)) = false := bne_eq_false_iff_eq.mpr c57
                 clear c57
                 by_cases c58 : (t247.length : Int) = (t239.length : Int)
                 ·rw [if_pos c58] at H
                  have c58b0 : ((t247.length : Int) == (t239.length : Int)) = true := beq_iff_eq.mpr c58
                  have c58b1 : ((t247.length : Int) != (t239.length : Int)) = false := bne_eq_false_iff_eq.mpr c58
                  have c58b2 : (t247.length == t239.length) = true := by first | simpa using c58 | (simp at c58 ⊢; omega)
                  clear c58
                  have H' := ak_ H
                  clear H
                  obtain ⟨Ao59, co59, eo59⟩ := Kd.R_slice HO245.out
                  subst eo59
                  obtain ⟨Ao60, co60, eo60⟩ := Kd.R_slice HO241.out
                  subst eo60
                  obtain ⟨Ao61, co61, eo61⟩ := Kd.R_slice HO249.out
                  subst eo61
                  have hcv62 := own_string (P := Try.prog) Try.underlying35 Try.underlying5 Try.underlying9 (Kd.own_of_R HO249.out)
                  have hcv63 := own_string (P := Try.prog) Try.underlying35 Try.underlying5 Try.underlying9 (Kd.own_of_R HO241.out)
                  go_wp2
                  go_meet
                  case rel => exact ⟨_, (((strOfNums t247).toList == (strOfNums t239).toList)), (by first | rfl | (simp; done) | (simp [*]; done)), H', ⟨by have := HJ3.out; first | omega | exact Nat.le_refl _⟩, ⟨by (with_reducible repeat (first | apply Kd.R_alloc | apply Kd.R_drewN | apply Kd.R_drew)); exact HO237.out⟩, ⟨by (with_reducible repeat (first | refine kn_ ?_ _ | refine kd_ ?_ | refine ka_ ?_ _)); exact BK220.out⟩, ⟨by (with_reducible repeat (first | refine kn_ ?_ _ | refine kd_ ?_ | refine ka_ ?_ _)); exact BK223.out⟩, ⟨by (with_reducible repeat (first | refine kn_ ?_ _ | refine kd_ ?_ | refine ka_ ?_ _)); exact BK238.out⟩, ⟨by repeat (first | (with_reducible first | exact HB.out | apply ba_ | apply bn_ | apply bd_ | refine below_set ?_ GE220.out | refine below_set ?_ GE223.out | refine below_set ?_ GE238.out) | exact HB.out)⟩⟩
                 ·rw [if_neg c58] at H
                  have c58b0 : ((t247.length : Int) == (t239.length : Int)) = false := beq_eq_false_iff_ne.mpr c58
                  have c58b1 : ((t247.length : Int) != (t239.length : Int)) = true := bne_iff_ne.mpr c58
                  have c58b2 : (t247.length == t239.length) = false := by first | simpa using c58 | (simp at c58 ⊢; omega)
                  have H' := ak_ H
                  clear H
                  obtain ⟨Ao64, co64, eo64⟩ := Kd.R_slice HO245.out
                  subst eo64
                  obtain ⟨Ao65, co65, eo65⟩ := Kd.R_slice HO241.out
                  subst eo65
                  obtain ⟨Ao66, co66, eo66⟩ := Kd.R_slice HO249.out
                  subst eo66
                  go_wp2
                  go_meet
                  case rel => exact ⟨_, (true), (by first | rfl | (simp; done) | (simp [*]; done)), H', ⟨by have := HJ3.out; first | omega | exact Nat.le_refl _⟩, ⟨by (with_reducible repeat (first | apply Kd.R_alloc | apply Kd.R_drewN | apply Kd.R_drew)); exact HO237.out⟩, ⟨by (with_reducible repeat (first | refine kn_ ?_ _ | refine kd_ ?_ | refine ka_ ?_ _)); exact BK220.out⟩, ⟨by (with_reducible repeat (first | refine kn_ ?_ _ | refine kd_ ?_ | refine ka_ ?_ _)); exact BK223.out⟩, ⟨by (with_reducible repeat (first | refine kn_ ?_ _ | refine kd_ ?_ | refine ka_ ?_ _)); exact BK238.out⟩, ⟨by repeat (first | (with_reducible first | exact HB.out | apply ba_ | apply bn_ | apply bd_ | refine below_set ?_ GE220.out | refine below_set ?_ GE223.out | refine below_set ?_ GE238.out) | exact HB.out)⟩⟩
                ·rw [if_neg c57] at H
                 have c57b0 : ((wrap64 ((t243.length : Int) + 48)) == (t239.length : Int)) = false := beq_eq_false_iff_ne.mpr c57
                 have c57b1 : ((wrap64 ((t243.length : Int) + 48)) != (t239.length : Int)) = true := bne_iff_ne.mpr c57
                 have H' := ak_ H
                 clear H
                 obtain ⟨Ao67, co67, eo67⟩ := Kd.R_slice HO245.out
                 subst eo67
                 obtain ⟨Ao68, co68, eo68⟩ := Kd.R_slice HO241.out
                 subst eo68
                 go_wp2
                 go_meet
                 case rel => exact ⟨_, (true), (by first | rfl | (simp; done) | (simp [*]; done)), H', ⟨by have := HJ3.out; first | omega | exact Nat.le_refl _⟩, ⟨by (with_reducible repeat (first | apply Kd.R_alloc | apply Kd.R_drewN | apply Kd.R_drew)); exact HO237.out⟩, ⟨by (with_reducible repeat (first | refine kn_ ?_ _ | refine kd_ ?_ | refine ka_ ?_ _)); exact BK220.out⟩, ⟨by (with_reducible repeat (first | refine kn_ ?_ _ | refine kd_ ?_ | refine ka_ ?_ _)); exact BK223.out⟩, ⟨by (with_reducible repeat (first | refine kn_ ?_ _ | refine kd_ ?_ | refine ka_ ?_ _)); exact BK238.out⟩, ⟨by repeat (first | (with_reducible first | exact HB.out | apply ba_ | apply bn_ | apply bd_ | refine below_set ?_ GE220.out | refine below_set ?_ GE223.out | refine below_set ?_ GE238.out) | exact HB.out)⟩⟩
               ·rw [if_neg c56] at H
                have c56b0 : (t250 == 0) = false := beq_eq_false_iff_ne.mpr c56
                have c56b1 : (t250 != 0) = true := bne_iff_ne.mpr c56
                have H' := ak_ H
                clear H
                go_wp2
                go_meet
                case rel => exact ⟨_, (true), (by first | rfl | (simp; done) | (simp [*]; done)), H', ⟨by have := HJ3.out; first | omega | exact Nat.le_refl _⟩, ⟨by (with_reducible repeat (first | apply Kd.R_alloc | apply Kd.R_drewN | apply Kd.R_drew)); exact HO237.out⟩, ⟨by (with_reducible repeat (first | refine kn_ ?_ _ | refine kd_ ?_ | refine ka_ ?_ _)); exact BK220.out⟩, ⟨by (with_reducible repeat (first | refine kn_ ?_ _ | refine kd_ ?_ | refine ka_ ?_ _)); exact BK223.out⟩, ⟨by (with_reducible repeat (first | refine kn_ ?_ _ | refine kd_ ?_ | refine ka_ ?_ _)); exact BK238.out⟩, ⟨by repeat (first | (with_reducible first | exact HB.out | apply ba_ | apply bn_ | apply bd_ | refine below_set ?_ GE220.out | refine below_set ?_ GE223.out | refine below_set ?_ GE238.out) | exact HB.out)⟩⟩
              ·rw [if_neg c55] at H
               have c55b0 : (t246 == 0) = false := beq_eq_false_iff_ne.mpr c55
               have c55b1 : (t246 != 0) = true := bne_iff_ne.mpr c55
               have H' := ak_ H
               clear H
               go_wp2
               go_meet
               case rel => exact ⟨_, (true), (by first | rfl | (simp; done) | (simp [*]; done)), H', ⟨by have := HJ3.out; first | omega | exact Nat.le_refl _⟩, ⟨by (with_reducible repeat (first | apply Kd.R_alloc | apply Kd.R_drewN | apply Kd.R_drew)); exact HO237.out⟩, ⟨by (with_reducible repeat (first | refine kn_ ?_ _ | refine kd_ ?_ | refine ka_ ?_ _)); exact BK220.out⟩, ⟨by (with_reducible repeat (first | refine kn_ ?_ _ | refine kd_ ?_ | refine ka_ ?_ _)); exact BK223.out⟩, ⟨by (with_reducible repeat (first | refine kn_ ?_ _ | refine kd_ ?_ | refine ka_ ?_ _)); exact BK238.out⟩, ⟨by repeat (first | (with_reducible first | exact HB.out | apply ba_ | apply bn_ | apply bd_ | refine below_set ?_ GE220.out | refine below_set ?_ GE223.out | refine below_set ?_ GE238.out) | exact HB.out)⟩⟩
             ·rw [if_neg c54] at H
              have c54b0 : (t242 == 0) = false := beq_eq_false_iff_ne.mpr c54
              have c54b1 : (t242 != 0) = true := bne_iff_ne.mpr c54
              (first | rw [c54b0] | (simp only [i64_w, i32_w]; rw [c54b0]) | skip)
              have H' := ak_ H
              clear H
              go_wp2
              go_meet
              case rel => exact ⟨_, (true), (by first | rfl | (simp; done) | (simp [*]; done)), H', ⟨by have := HJ3.out; first | omega | exact Nat.le_refl _⟩, ⟨by (with_reducible repeat (first | apply Kd.R_alloc | apply Kd.R_drewN | apply Kd.R_drew)); exact HO237.out⟩, ⟨by (with_reducible repeat (first | refine kn_ ?_ _ | refine kd_ ?_ | refine ka_ ?_ _)); exact BK220.out⟩, ⟨by (with_reducible repeat (first | refine kn_ ?_ _ | refine kd_ ?_ | refine ka_ ?_ _)); exact BK223.out⟩, ⟨by (with_reducible repeat (first | refine kn_ ?_ _ | refine kd_ ?_ | refine ka_ ?_ _)); exact BK238.out⟩, ⟨by repeat (first | (with_reducible first | exact HB.out | apply ba_ | apply bn_ | apply bd_ | refine below_set ?_ GE220.out | refine below_set ?_ GE223.out | refine below_set ?_ GE238.out) | exact HB.out)⟩⟩
            case rest =>
             clear HC29
             try clear c1
             try clear c2
             try clear p2
             try clear c3
             try clear q3
             try clear c4
             try clear c5
             try clear p6
             try clear hcv6
             try clear c16
             try clear c17
             try clear c17b0
             try clear c17b1
             try clear c17b2
             try clear c19
             try clear c19b0
             try clear c19b1
             try clear c20
             try clear c20b0
             try clear c20b1
             try clear c21
             try clear c23
             try clear c23b0
             try clear c23b1
             try clear c24
             try clear c24b0
             try clear c24b1
             try clear c25
             try clear c33
             try clear q37
             try clear c38
             try clear q38
             try clear c45
             try clear c46
             try clear c54
             try clear c54b0
             try clear c54b1
             try clear c55
             try clear c55b0
             try clear c55b1
             try clear c56
             try clear c56b0
             try clear c56b1
             try clear c57
             try clear c57b0
             try clear c57b1
             try clear c58
             try clear c58b0
             try clear c58b1
             try clear c58b2
             try clear hcv62
             try clear hcv63
             try clear p64
             try clear hcz31_0
             try clear hcz31_1
             try clear hcz31_10
             try clear hcz31_11
             try clear hcz31_12
             try clear hcz31_2
             try clear hcz31_3
             try clear hcz31_4
             try clear hcz31_5
             try clear hcz31_6
             try clear hcz31_7
             try clear hcz31_8
             try clear hcz31_9
             try clear hcz34_0
             try clear hcz34_1
             try clear hcz34_10
             try clear hcz34_11
             try clear hcz34_12
             try clear hcz34_2
             try clear hcz34_3
             try clear hcz34_4
             try clear hcz34_5
             try clear hcz34_6
             try clear hcz34_7
             try clear hcz34_8
             try clear hcz34_9
             try clear hcz43_0
             try clear hcz43_1
             try clear hcz43_10
             try clear hcz43_11
             try clear hcz43_12
             try clear hcz43_2
             try clear hcz43_3
             try clear hcz43_4
             try clear hcz43_5
             try clear hcz43_6
             try clear hcz43_7
             try clear hcz43_8
             try clear hcz43_9
             try clear hcz47_0
             try clear hcz47_1
             try clear hcz47_10
             try clear hcz47_11
             try clear hcz47_12
             try clear hcz47_2
             try clear hcz47_3
             try clear hcz47_4
             try clear hcz47_5
             try clear hcz47_6
             try clear hcz47_7
             try clear hcz47_8
             try clear hcz47_9
             try clear hcz48_0
             try clear hcz48_1
             try clear hcz48_10
             try clear hcz48_11
             try clear hcz48_12
             try clear hcz48_2
             try clear hcz48_3
             try clear hcz48_4
             try clear hcz48_5
             try clear hcz48_6
             try clear hcz48_7
             try clear hcz48_8
             try clear hcz48_9
             try clear hcz50_0
             try clear hcz50_1
             try clear hcz50_10
             try clear hcz50_11
             try clear hcz50_12
             try clear hcz50_2
             try clear hcz50_3
             try clear hcz50_4
             try clear hcz50_5
             try clear hcz50_6
             try clear hcz50_7
             try clear hcz50_8
             try clear hcz50_9
             try clear hcz52_0
             try clear hcz52_1
             try clear hcz52_10
             try clear hcz52_11
             try clear hcz52_12
             try clear hcz52_2
             try clear hcz52_3
             try clear hcz52_4
             try clear hcz52_5
             try clear hcz52_6
             try clear hcz52_7
             try clear hcz52_8
             try clear hcz52_9
             try clear hfz14_8
             try clear hfz14_9
             try clear hfz31_0
             try clear hfz31_1
             try clear hfz31_10
             try clear hfz31_11
             try clear hfz31_12
             try clear hfz31_2
             try clear hfz31_3
             try clear hfz31_4
             try clear hfz31_5
             try clear hfz31_6
             try clear hfz31_7
             try clear hfz31_8
             try clear hfz31_9
             try clear hfz34_0
             try clear hfz34_1
             try clear hfz34_10
             try clear hfz34_11
             try clear hfz34_12
             try clear hfz34_2
             try clear hfz34_3
             try clear hfz34_4
             try clear hfz34_5
             try clear hfz34_6
             try clear hfz34_7
             try clear hfz34_8
             try clear hfz34_9
             try clear hfz43_0
             try clear hfz43_1
             try clear hfz43_10
             try clear hfz43_11
             try clear hfz43_12
             try clear hfz43_2
             try clear hfz43_3
             try clear hfz43_4
             try clear hfz43_5
             try clear hfz43_6
             try clear hfz43_7
             try clear hfz43_8
             try clear hfz43_9
             try clear hfz47_0
             try clear hfz47_1
             try clear hfz47_10
             try clear hfz47_11
             try clear hfz47_12
             try clear hfz47_2
             try clear hfz47_3
             try clear hfz47_4
             try clear hfz47_5
             try clear hfz47_6
             try clear hfz47_7
             try clear hfz47_8
             try clear hfz47_9
             try clear hfz48_0
             try clear hfz48_1
             try clear hfz48_10
             try clear hfz48_11
             try clear hfz48_12
             try clear hfz48_2
             try clear hfz48_3
             try clear hfz48_4
             try clear hfz48_5
             try clear hfz48_6
             try clear hfz48_7
             try clear hfz48_8
             try clear hfz48_9
             try clear hfz50_0
             try clear hfz50_1
             try clear hfz50_10
             try clear hfz50_11
             try clear hfz50_12
             try clear hfz50_2
             try clear hfz50_3
             try clear hfz50_4
             try clear hfz50_5
             try clear hfz50_6
             try clear hfz50_7
             try clear hfz50_8
             try clear hfz50_9
             try clear hfz52_0
             try clear hfz52_1
             try clear hfz52_10
             try clear hfz52_11
             try clear hfz52_12
             try clear hfz52_2
             try clear hfz52_3
             try clear hfz52_4
             try clear hfz52_5
             try clear hfz52_6
             try clear hfz52_7
             try clear hfz52_8
             try clear hfz52_9
             try clear hfz8_0
             try clear hfz8_1
             try clear hfz8_10
             try clear hfz8_11
             try clear hfz8_12
             try clear hfz8_2
             try clear hfz8_3
             try clear hfz8_4
             try clear hfz8_5
             try clear hfz8_6
             try clear hfz8_7
             try clear hfz8_8
             try clear hfz8_9
             try clear q038
             try clear q37
             try clear q38
             obtain ⟨kq, x115_28, rfl, HA, HJ28, HO_224003, BK220, BK223, BK238, HB⟩ := hcut
             cases kq with
             | zero => exact absurd HA.out (by simp [medlarlaw16_HeadParts.j1])
             | succ kj28 =>
              have H := HA.out
              clear HA
              simp only [medlarlaw16_HeadParts.j1] at H
              by_cases c69 : x115_28 = true
              ·subst c69
               have H1 : (some false) = some r := by rw [if_pos rfl] at H; exact H
               clear H
               have H := H1
               clear H1
               exact absurd ((Option.some.inj H).trans hT.out) Bool.false_ne_true
              ·replace c69 := Bool.eq_false_iff.mpr c69
               subst c69
               have H1 : (if ji18 = 0 then (some t221) else (if ([] : List (S41)).length + l0_3.length < 1759218604441 then ((some (([] : List (S41)) ++ l0_3 : List (S41))).bind fun y252 => (if 0 ≤ (wrap64 (ji18 - 1)) then (if (wrap64 (ji18 - 1)) < (l0_3.length : Int) then (if 0 ≤ ji18 then (if ji18 < (y252.length : Int) then (if ji18 < (l0_3.length : Int) then (if (wrap64 (ji18 - 1)) < (y252.length : Int) then (if t221 = true then ((head_Check.f kj28 a0_0 a0_1 a0_2 ((y252.set (ji18 : Int).toNat (⟨(⟨(rd_T41 l0_3 (wrap64 (ji18 - 1))).f0.f0, (rd_T41 l0_3 (wrap64 (ji18 - 1))).f0.f1⟩ : S39), (⟨(rd_T41 l0_3 (wrap64 (ji18 - 1))).f1.f0, (rd_T41 l0_3 (wrap64 (ji18 - 1))).f1.f1, (⟨(rd_T41 l0_3 (wrap64 (ji18 - 1))).f1.f2.f0, (rd_T41 l0_3 (wrap64 (ji18 - 1))).f1.f2.f1⟩ : S25), (⟨(⟨(rd_T41 l0_3 (wrap64 (ji18 - 1))).f1.f3.f0.f0, (rd_T41 l0_3 (wrap64 (ji18 - 1))).f1.f3.f0.f1⟩ : S25), (⟨(rd_T41 l0_3 (wrap64 (ji18 - 1))).f1.f3.f1.f0, (rd_T41 l0_3 (wrap64 (ji18 - 1))).f1.f3.f1.f1⟩ : S25)⟩ : S27), (rd_T41 l0_3 (wrap64 (ji18 - 1))).f1.f4⟩ : S29)⟩ : S41)).set ((wrap64 (ji18 - 1)) : Int).toNat (⟨(⟨(rd_T41 l0_3 ji18).f0.f0, (rd_T41 l0_3 ji18).f0.f1⟩ : S39), (⟨(rd_T41 l0_3 ji18).f1.f0, (rd_T41 l0_3 ji18).f1.f1, (⟨(rd_T41 l0_3 ji18).f1.f2.f0, (rd_T41 l0_3 ji18).f1.f2.f1⟩ : S25), (⟨(⟨(rd_T41 l0_3 ji18).f1.f3.f0.f0, (rd_T41 l0_3 ji18).f1.f3.f0.f1⟩ : S25), (⟨(rd_T41 l0_3 ji18).f1.f3.f1.f0, (rd_T41 l0_3 ji18).f1.f3.f1.f1⟩ : S25)⟩ : S27), (rd_T41 l0_3 ji18).f1.f4⟩ : S29)⟩ : S41)) a0_4 a0_5 a0_6 a0_7 a0_8 a0_9 a0_10 a0_11 a0_12).bind fun t259 => (some (t259 == 1))) else (some false)) else (none)) else (none)) else (none)) else (none)) else (none)) else (none))) else (none))) = some r := by rw [if_neg (show ¬ (false = true) by decide)] at H; exact H
               clear H
               have H := H1
               clear H1
               by_cases c70 : ji18 = 0
               ·rw [if_pos c70] at H
                have c70b0 : (ji18 == 0) = true := beq_iff_eq.mpr c70
                have c70b1 : (ji18 != 0) = false := bne_eq_false_iff_eq.mpr c70
                clear c70
                obtain rfl := Option.some.inj H
                go_wp2
                go_ret
                exact ⟨by first | rfl | (simp <;> rfl) | (simp only [← hji18, ← hji22]; first | rfl | (simp <;> rfl)) | (simp [*] <;> rfl), by repeat (first | (with_reducible first | exact HB.out | apply ba_ | apply bn_ | apply bd_ | refine below_set ?_ GE220.out | refine below_set ?_ GE223.out | refine below_set ?_ GE238.out) | exact HB.out)⟩
               ·rw [if_neg c70] at H
                have c70b0 : (ji18 == 0) = false := beq_eq_false_iff_ne.mpr c70
                have c70b1 : (ji18 != 0) = true := bne_iff_ne.mpr c70
                by_cases c71 : ([] : List (S41)).length + l0_3.length < 1759218604441
                ·rw [if_pos c71] at H
                 have LMc71 := ak_ c71
                 clear c71
                 obtain ⟨y252, hy252⟩ : ∃ y_ : List (S41), y_ = (([] : List (S41)) ++ l0_3) := ⟨_, rfl⟩
                 replace H : (if 0 ≤ (wrap64 (ji18 - 1)) then (if (wrap64 (ji18 - 1)) < (l0_3.length : Int) then (if 0 ≤ ji18 then (if ji18 < (y252.length : Int) then (if ji18 < (l0_3.length : Int) then (if (wrap64 (ji18 - 1)) < (y252.length : Int) then (if t221 = true then ((head_Check.f kj28 a0_0 a0_1 a0_2 ((y252.set (ji18 : Int).toNat (⟨(⟨(rd_T41 l0_3 (wrap64 (ji18 - 1))).f0.f0, (rd_T41 l0_3 (wrap64 (ji18 - 1))).f0.f1⟩ : S39), (⟨(rd_T41 l0_3 (wrap64 (ji18 - 1))).f1.f0, (rd_T41 l0_3 (wrap64 (ji18 - 1))).f1.f1, (⟨(rd_T41 l0_3 (wrap64 (ji18 - 1))).f1.f2.f0, (rd_T41 l0_3 (wrap64 (ji18 - 1))).f1.f2.f1⟩ : S25), (⟨(⟨(rd_T41 l0_3 (wrap64 (ji18 - 1))).f1.f3.f0.f0, (rd_T41 l0_3 (wrap64 (ji18 - 1))).f1.f3.f0.f1⟩ : S25), (⟨(rd_T41 l0_3 (wrap64 (ji18 - 1))).f1.f3.f1.f0, (rd_T41 l0_3 (wrap64 (ji18 - 1))).f1.f3.f1.f1⟩ : S25)⟩ : S27), (rd_T41 l0_3 (wrap64 (ji18 - 1))).f1.f4⟩ : S29)⟩ : S41)).set ((wrap64 (ji18 - 1)) : Int).toNat (⟨(⟨(rd_T41 l0_3 ji18).f0.f0, (rd_T41 l0_3 ji18).f0.f1⟩ : S39), (⟨(rd_T41 l0_3 ji18).f1.f0, (rd_T41 l0_3 ji18).f1.f1, (⟨(rd_T41 l0_3 ji18).f1.f2.f0, (rd_T41 l0_3 ji18).f1.f2.f1⟩ : S25), (⟨(⟨(rd_T41 l0_3 ji18).f1.f3.f0.f0, (rd_T41 l0_3 ji18).f1.f3.f0.f1⟩ : S25), (⟨(rd_T41 l0_3 ji18).f1.f3.f1.f0, (rd_T41 l0_3 ji18).f1.f3.f1.f1⟩ : S25)⟩ : S27), (rd_T41 l0_3 ji18).f1.f4⟩ : S29)⟩ : S41)) a0_4 a0_5 a0_6 a0_7 a0_8 a0_9 a0_10 a0_11 a0_12).bind fun t259 => (some (t259 == 1))) else (some false)) else (none)) else (none)) else (none)) else (none)) else (none)) else (none)) = some r := by first | (rw [hy252]; with_reducible exact H) | (have H2_ := (Option.bind_some _ _).symm.trans H; rw [hy252]; with_reducible exact H2_) | (have H2_ := (Option.bind_some _ _).symm.trans H; with_reducible exact H2_) | with_reducible exact H | (rw [hy252]; exact H) | exact H
                 have Ny252 := ak_ hy252
                 clear hy252
                 obtain ⟨ji72, hji72⟩ : ∃ j_ : Int, (wrap64 (ji18 - 1)) = j_ := ⟨_, rfl⟩
                 replace H : (if 0 ≤ (ji72) then (if (ji72) < (l0_3.length : Int) then (if 0 ≤ ji18 then (if ji18 < (y252.length : Int) then (if ji18 < (l0_3.length : Int) then (if (ji72) < (y252.length : Int) then (if t221 = true then ((head_Check.f kj28 a0_0 a0_1 a0_2 ((y252.set (ji18 : Int).toNat (⟨(⟨(rd_T41 l0_3 (ji72)).f0.f0, (rd_T41 l0_3 (ji72)).f0.f1⟩ : S39), (⟨(rd_T41 l0_3 (ji72)).f1.f0, (rd_T41 l0_3 (ji72)).f1.f1, (⟨(rd_T41 l0_3 (ji72)).f1.f2.f0, (rd_T41 l0_3 (ji72)).f1.f2.f1⟩ : S25), (⟨(⟨(rd_T41 l0_3 (ji72)).f1.f3.f0.f0, (rd_T41 l0_3 (ji72)).f1.f3.f0.f1⟩ : S25), (⟨(rd_T41 l0_3 (ji72)).f1.f3.f1.f0, (rd_T41 l0_3 (ji72)).f1.f3.f1.f1⟩ : S25)⟩ : S27), (rd_T41 l0_3 (ji72)).f1.f4⟩ : S29)⟩ : S41)).set ((ji72) : Int).toNat (⟨(⟨(rd_T41 l0_3 ji18).f0.f0, (rd_T41 l0_3 ji18).f0.f1⟩ : S39), (⟨(rd_T41 l0_3 ji18).f1.f0, (rd_T41 l0_3 ji18).f1.f1, (⟨(rd_T41 l0_3 ji18).f1.f2.f0, (rd_T41 l0_3 ji18).f1.f2.f1⟩ : S25), (⟨(⟨(rd_T41 l0_3 ji18).f1.f3.f0.f0, (rd_T41 l0_3 ji18).f1.f3.f0.f1⟩ : S25), (⟨(rd_T41 l0_3 ji18).f1.f3.f1.f0, (rd_T41 l0_3 ji18).f1.f3.f1.f1⟩ : S25)⟩ : S27), (rd_T41 l0_3 ji18).f1.f4⟩ : S29)⟩ : S41)) a0_4 a0_5 a0_6 a0_7 a0_8 a0_9 a0_10 a0_11 a0_12).bind fun t259 => (some (t259 == 1))) else (some false)) else (none)) else (none)) else (none)) else (none)) else (none)) else (none)) = some r := by first | (rw [hji72] at H; exact H) | (simp only [hji72] at H ⊢; exact H)
                 have hji72w : (IntKind.i64.wrap (ji18 - 1)) = ji72 := (i64_w _).trans hji72
                 by_cases c73 : 0 ≤ (ji72)
                 ·rw [if_pos c73] at H
                  have c73b0 : decide (0 ≤ (ji72)) = true := decide_eq_true c73
                  clear c73
                  by_cases c74 : (ji72) < (l0_3.length : Int)
                  ·rw [if_pos c74] at H
                   have c74b0 : decide ((ji72) < (l0_3.length : Int)) = true := decide_eq_true c74
                   clear c74
                   by_cases c75 : 0 ≤ ji18
                   ·rw [if_pos c75] at H
                    have c75b0 : decide (0 ≤ ji18) = true := decide_eq_true c75
                    clear c75
                    by_cases c76 : ji18 < (y252.length : Int)
                    ·rw [if_pos c76] at H
                     have c76b0 : decide (ji18 < (y252.length : Int)) = true := decide_eq_true c76
                     clear c76
                     obtain ⟨y256, hy256⟩ : ∃ y_ : List (S41), y_ = (y252.set (ji18 : Int).toNat (⟨(⟨(rd_T41 l0_3 (ji72)).f0.f0, (rd_T41 l0_3 (ji72)).f0.f1⟩ : S39), (⟨(rd_T41 l0_3 (ji72)).f1.f0, (rd_T41 l0_3 (ji72)).f1.f1, (⟨(rd_T41 l0_3 (ji72)).f1.f2.f0, (rd_T41 l0_3 (ji72)).f1.f2.f1⟩ : S25), (⟨(⟨(rd_T41 l0_3 (ji72)).f1.f3.f0.f0, (rd_T41 l0_3 (ji72)).f1.f3.f0.f1⟩ : S25), (⟨(rd_T41 l0_3 (ji72)).f1.f3.f1.f0, (rd_T41 l0_3 (ji72)).f1.f3.f1.f1⟩ : S25)⟩ : S27), (rd_T41 l0_3 (ji72)).f1.f4⟩ : S29)⟩ : S41)) := ⟨_, rfl⟩
                     replace H : (if ji18 < (l0_3.length : Int) then (if (ji72) < (y252.length : Int) then (if t221 = true then ((head_Check.f kj28 a0_0 a0_1 a0_2 (y256.set ((ji72) : Int).toNat (⟨(⟨(rd_T41 l0_3 ji18).f0.f0, (rd_T41 l0_3 ji18).f0.f1⟩ : S39), (⟨(rd_T41 l0_3 ji18).f1.f0, (rd_T41 l0_3 ji18).f1.f1, (⟨(rd_T41 l0_3 ji18).f1.f2.f0, (rd_T41 l0_3 ji18).f1.f2.f1⟩ : S25), (⟨(⟨(rd_T41 l0_3 ji18).f1.f3.f0.f0, (rd_T41 l0_3 ji18).f1.f3.f0.f1⟩ : S25), (⟨(rd_T41 l0_3 ji18).f1.f3.f1.f0, (rd_T41 l0_3 ji18).f1.f3.f1.f1⟩ : S25)⟩ : S27), (rd_T41 l0_3 ji18).f1.f4⟩ : S29)⟩ : S41)) a0_4 a0_5 a0_6 a0_7 a0_8 a0_9 a0_10 a0_11 a0_12).bind fun t259 => (some (t259 == 1))) else (some false)) else (none)) else (none)) = some r := by first | (rw [hy256]; with_reducible exact H) | (have H2_ := (Option.bind_some _ _).symm.trans H; rw [hy256]; with_reducible exact H2_) | (have H2_ := (Option.bind_some _ _).symm.trans H; with_reducible exact H2_) | with_reducible exact H | (rw [hy256]; exact H) | exact H
                     have Ny256 := ak_ hy256
                     clear hy256
                     by_cases c78 : ji18 < (l0_3.length : Int)
                     ·rw [if_pos c78] at H
                      have c78b0 : decide (ji18 < (l0_3.length : Int)) = true := decide_eq_true c78
                      clear c78
                      by_cases c79 : (ji72) < (y252.length : Int)
                      ·rw [if_pos c79] at H
                       have c79b0 : decide ((ji72) < (y252.length : Int)) = true := decide_eq_true c79
                       clear c79
                       obtain ⟨y258, hy258⟩ : ∃ y_ : List (S41), y_ = (y256.set ((ji72) : Int).toNat (⟨(⟨(rd_T41 l0_3 ji18).f0.f0, (rd_T41 l0_3 ji18).f0.f1⟩ : S39), (⟨(rd_T41 l0_3 ji18).f1.f0, (rd_T41 l0_3 ji18).f1.f1, (⟨(rd_T41 l0_3 ji18).f1.f2.f0, (rd_T41 l0_3 ji18).f1.f2.f1⟩ : S25), (⟨(⟨(rd_T41 l0_3 ji18).f1.f3.f0.f0, (rd_T41 l0_3 ji18).f1.f3.f0.f1⟩ : S25), (⟨(rd_T41 l0_3 ji18).f1.f3.f1.f0, (rd_T41 l0_3 ji18).f1.f3.f1.f1⟩ : S25)⟩ : S27), (rd_T41 l0_3 ji18).f1.f4⟩ : S29)⟩ : S41)) := ⟨_, rfl⟩
                       replace H : (if t221 = true then ((head_Check.f kj28 a0_0 a0_1 a0_2 y258 a0_4 a0_5 a0_6 a0_7 a0_8 a0_9 a0_10 a0_11 a0_12).bind fun t259 => (some (t259 == 1))) else (some false)) = some r := by first | (rw [hy258]; with_reducible exact H) | (have H2_ := (Option.bind_some _ _).symm.trans H; rw [hy258]; with_reducible exact H2_) | (have H2_ := (Option.bind_some _ _).symm.trans H; with_reducible exact H2_) | with_reducible exact H | (rw [hy258]; exact H) | exact H
                       have Ny258 := ak_ hy258
                       clear hy258
                       by_cases c81 : t221 = true
                       ·subst c81
                        have H1 : ((head_Check.f kj28 a0_0 a0_1 a0_2 y258 a0_4 a0_5 a0_6 a0_7 a0_8 a0_9 a0_10 a0_11 a0_12).bind fun t259 => (some (t259 == 1))) = some r := by rw [if_pos rfl] at H; exact H
                        clear H
                        have H := H1
                        clear H1
                        replace H := Option.bind_eq_some_iff.mp H
                        obtain ⟨t259, A820, H⟩ := H
                        replace H : (some (t259 == 1)) = some r := H
                        have A82 := ak_ A820
                        clear A820
                        obtain rfl := Option.some.inj H
                        have hnb83 := NB220_223.out
                        have hnc83 := NB223_220.out
                        have hnb84 := NB220_238.out
                        have hnc84 := NB238_220.out
                        have hcz85_0 : wc.cell? ⟨gb220, 0, none⟩ = some (.int .i64 a0_0) := (kc_ BK220.out 0).trans rfl
                        have hcz85_1 : wc.cell? ⟨gb220, 1, none⟩ = some (.int .i64 a0_1) := (kc_ BK220.out 1).trans rfl
                        have hcz85_2 : wc.cell? ⟨gb220, 2, none⟩ = some (.int .i64 a0_2) := (kc_ BK220.out 2).trans rfl
                        have hcz85_3 : wc.cell? ⟨gb220, 3, none⟩ = some (.slice A0_3 l0_3.length c0_3) := (kc_ BK220.out 3).trans rfl
                        have hcz85_4 : wc.cell? ⟨gb220, 4, none⟩ = some (.bool a0_4) := (kc_ BK220.out 4).trans rfl
                        have hcz85_5 : wc.cell? ⟨gb220, 5, none⟩ = some (.bool a0_5) := (kc_ BK220.out 5).trans rfl
                        have hcz85_6 : wc.cell? ⟨gb220, 6, none⟩ = some (.int .u64 a0_6) := (kc_ BK220.out 6).trans rfl
                        have hcz85_7 : wc.cell? ⟨gb220, 7, none⟩ = some (.int .u64 a0_7) := (kc_ BK220.out 7).trans rfl
                        have hcz85_8 : wc.cell? ⟨gb220, 8, none⟩ = some (.int .u64 a0_8) := (kc_ BK220.out 8).trans rfl
                        have hcz85_9 : wc.cell? ⟨gb220, 9, none⟩ = some (.int .u64 a0_9) := (kc_ BK220.out 9).trans rfl
                        have hcz85_10 : wc.cell? ⟨gb220, 10, none⟩ = some (.int .u64 a0_10) := (kc_ BK220.out 10).trans rfl
                        have hcz85_11 : wc.cell? ⟨gb220, 11, none⟩ = some (.int .u64 a0_11) := (kc_ BK220.out 11).trans rfl
                        have hcz85_12 : wc.cell? ⟨gb220, 12, none⟩ = some (.int .i64 a0_12) := (kc_ BK220.out 12).trans rfl
                        have hfz85_0 := kf_ BK220.out 0
                        have hfz85_1 := kf_ BK220.out 1
                        have hfz85_2 := kf_ BK220.out 2
                        have hfz85_3 := kf_ BK220.out 3
                        have hfz85_4 := kf_ BK220.out 4
                        have hfz85_5 := kf_ BK220.out 5
                        have hfz85_6 := kf_ BK220.out 6
                        have hfz85_7 := kf_ BK220.out 7
                        have hfz85_8 := kf_ BK220.out 8
                        have hfz85_9 := kf_ BK220.out 9
                        have hfz85_10 := kf_ BK220.out 10
                        have hfz85_11 := kf_ BK220.out 11
                        have hfz85_12 := kf_ BK220.out 12
                        try go_wp2_with (first | ((with_reducible refine gate_dst (N := 14) rfl ?_); (try (refine gate_guard (by rfl) ?_; dsimp only)); refine box_event ?hg (N := 14) ?hd (cs := #[.int .i64 0, .int .i64 0, .int .i64 0, .slice none 0 0, .bool false, .bool false, .int .u64 0, .int .u64 0, .int .u64 0, .int .u64 0, .int .u64 0, .int .u64 0, .int .i64 0]) (t := 31) ?hr ?_; (case hd => rfl); (case hg => rfl); (case hr => first | (go_simp; done) | (go_simp; rfl)); intro gb251 hg w86 hbox hb; have n0_ := ak_ (Kd.R_below (by (with_reducible repeat (first | apply Kd.R_alloc | apply Kd.R_drewN | apply Kd.R_drew)); exact HO_224003.out) hb); have n1_ := ak_ (kb_ (g := gb220) (o := .cells #[.int .i64 a0_0, .int .i64 a0_1, .int .i64 a0_2, .slice A0_3 l0_3.length c0_3, .bool a0_4, .bool a0_5, .int .u64 a0_6, .int .u64 a0_7, .int .u64 a0_8, .int .u64 a0_9, .int .u64 a0_10, .int .u64 a0_11, .int .i64 a0_12] 31 (0, 0)) (by (with_reducible repeat (first | refine kn_ ?_ _ | refine kd_ ?_ | refine ka_ ?_ _)); exact BK220.out) hb); have n2_ := ak_ (kb_ (g := gb223) (o := .cells #[.int .i64 a0_0, .int .i64 a0_1, .int .i64 a0_2, .slice Ao41 y235.length co41, .bool a0_4, .bool a0_5, .int .u64 a0_6, .int .u64 a0_7, .int .u64 a0_8, .int .u64 a0_9, .int .u64 a0_10, .int .u64 a0_11, .int .i64 a0_12] 31 (0, 0)) (by (with_reducible repeat (first | refine kn_ ?_ _ | refine kd_ ?_ | refine ka_ ?_ _)); exact BK223.out) hb); have n3_ := ak_ (kb_ (g := gb238) (o := .cells #[.int .i64 a0_0, .int .i64 a0_1, .int .i64 a0_2, .slice A0_3 l0_3.length c0_3, .bool a0_4, .bool a0_5, .int .u64 a0_6, .int .u64 a0_7, .int .u64 a0_8, .int .u64 a0_9, .int .u64 (Go.bits .xor .u64 a0_10 1), .int .u64 a0_11, .int .i64 a0_12] 31 (0, 0)) (by (with_reducible repeat (first | refine kn_ ?_ _ | refine kd_ ?_ | refine ka_ ?_ _)); exact BK238.out) hb); have n4_ := ak_ (bt_ (by repeat (first | (with_reducible first | exact HB.out | apply ba_ | apply bn_ | apply bd_ | refine below_set ?_ GE220.out | refine below_set ?_ GE223.out | refine below_set ?_ GE238.out) | exact HB.out)) hb); have n5_ := ak_ (hbox); have n6_ := ak_ ((by rw [hg]; exact (bz_ (by repeat (first | (with_reducible first | exact HB.out | apply ba_ | apply bn_ | apply bd_ | refine below_set ?_ GE220.out | refine below_set ?_ GE223.out | refine below_set ?_ GE238.out) | exact HB.out))) : w.heap.size ≤ gb251)); have n7_ := ak_ ((by rw [hg]; exact (bz_ (by repeat (first | (with_reducible first | exact HB.out | apply ba_ | apply bn_ | apply bd_ | refine below_set ?_ GE220.out | refine below_set ?_ GE223.out | refine below_set ?_ GE238.out) | exact HB.out))) : w.heap.size ≤ gb251)); have n8_ := ak_ ((by rw [hg]; exact Nat.ne_of_lt (blk_lt (g := gb220) (o := .cells #[.int .i64 a0_0, .int .i64 a0_1, .int .i64 a0_2, .slice A0_3 l0_3.length c0_3, .bool a0_4, .bool a0_5, .int .u64 a0_6, .int .u64 a0_7, .int .u64 a0_8, .int .u64 a0_9, .int .u64 a0_10, .int .u64 a0_11, .int .i64 a0_12] 31 (0, 0)) (by (with_reducible repeat (first | refine kn_ ?_ _ | refine kd_ ?_ | refine ka_ ?_ _)); exact BK220.out)) : gb220 ≠ gb251)); have n9_ := ak_ ((by rw [hg]; exact Nat.ne_of_gt (blk_lt (g := gb220) (o := .cells #[.int .i64 a0_0, .int .i64 a0_1, .int .i64 a0_2, .slice A0_3 l0_3.length c0_3, .bool a0_4, .bool a0_5, .int .u64 a0_6, .int .u64 a0_7, .int .u64 a0_8, .int .u64 a0_9, .int .u64 a0_10, .int .u64 a0_11, .int .i64 a0_12] 31 (0, 0)) (by (with_reducible repeat (first | refine kn_ ?_ _ | refine kd_ ?_ | refine ka_ ?_ _)); exact BK220.out)) : gb251 ≠ gb220)); have n10_ := ak_ ((by rw [hg]; exact Nat.ne_of_lt (blk_lt (g := gb223) (o := .cells #[.int .i64 a0_0, .int .i64 a0_1, .int .i64 a0_2, .slice Ao41 y235.length co41, .bool a0_4, .bool a0_5, .int .u64 a0_6, .int .u64 a0_7, .int .u64 a0_8, .int .u64 a0_9, .int .u64 a0_10, .int .u64 a0_11, .int .i64 a0_12] 31 (0, 0)) (by (with_reducible repeat (first | refine kn_ ?_ _ | refine kd_ ?_ | refine ka_ ?_ _)); exact BK223.out)) : gb223 ≠ gb251)); have n11_ := ak_ ((by rw [hg]; exact Nat.ne_of_gt (blk_lt (g := gb223) (o := .cells #[.int .i64 a0_0, .int .i64 a0_1, .int .i64 a0_2, .slice Ao41 y235.length co41, .bool a0_4, .bool a0_5, .int .u64 a0_6, .int .u64 a0_7, .int .u64 a0_8, .int .u64 a0_9, .int .u64 a0_10, .int .u64 a0_11, .int .i64 a0_12] 31 (0, 0)) (by (with_reducible repeat (first | refine kn_ ?_ _ | refine kd_ ?_ | refine ka_ ?_ _)); exact BK223.out)) : gb251 ≠ gb223)); have n12_ := ak_ ((by rw [hg]; exact Nat.ne_of_lt (blk_lt (g := gb238) (o := .cells #[.int .i64 a0_0, .int .i64 a0_1, .int .i64 a0_2, .slice A0_3 l0_3.length c0_3, .bool a0_4, .bool a0_5, .int .u64 a0_6, .int .u64 a0_7, .int .u64 a0_8, .int .u64 a0_9, .int .u64 (Go.bits .xor .u64 a0_10 1), .int .u64 a0_11, .int .i64 a0_12] 31 (0, 0)) (by (with_reducible repeat (first | refine kn_ ?_ _ | refine kd_ ?_ | refine ka_ ?_ _)); exact BK238.out)) : gb238 ≠ gb251)); have n13_ := ak_ ((by rw [hg]; exact Nat.ne_of_gt (blk_lt (g := gb238) (o := .cells #[.int .i64 a0_0, .int .i64 a0_1, .int .i64 a0_2, .slice A0_3 l0_3.length c0_3, .bool a0_4, .bool a0_5, .int .u64 a0_6, .int .u64 a0_7, .int .u64 a0_8, .int .u64 a0_9, .int .u64 (Go.bits .xor .u64 a0_10 1), .int .u64 a0_11, .int .i64 a0_12] 31 (0, 0)) (by (with_reducible repeat (first | refine kn_ ?_ _ | refine kd_ ?_ | refine ka_ ?_ _)); exact BK238.out)) : gb251 ≠ gb238)); clear HO_224003; clear BK220; clear BK223; clear BK238; clear HB; have HO_224003 := n0_; have BK220 := n1_; have BK223 := n2_; have BK238 := n3_; have HB := n4_; have BK251 := n5_; have GW251 := n6_; have GE251 := n7_; have NB220_251 := n8_; have NB251_220 := n9_; have NB223_251 := n10_; have NB251_223 := n11_; have NB238_251 := n12_; have NB251_238 := n13_; clear n0_ n1_ n2_ n3_ n4_ n5_ n6_ n7_ n8_ n9_ n10_ n11_ n12_ n13_; clear hb hbox hg; have hnb87 := NB251_220.out; have hnc87 := NB220_251.out; have hnb88 := NB251_223.out; have hnc88 := NB223_251.out; have hnb89 := NB251_238.out; have hnc89 := NB238_251.out; have hcz90_0 : w86.cell? ⟨gb251, 0, none⟩ = some (.int .i64 0) := (kc_ BK251.out 0).trans rfl; have hcz90_1 : w86.cell? ⟨gb251, 1, none⟩ = some (.int .i64 0) := (kc_ BK251.out 1).trans rfl; have hcz90_2 : w86.cell? ⟨gb251, 2, none⟩ = some (.int .i64 0) := (kc_ BK251.out 2).trans rfl; have hcz90_3 : w86.cell? ⟨gb251, 3, none⟩ = some (.slice none 0 0) := (kc_ BK251.out 3).trans rfl; have hcz90_4 : w86.cell? ⟨gb251, 4, none⟩ = some (.bool false) := (kc_ BK251.out 4).trans rfl; have hcz90_5 : w86.cell? ⟨gb251, 5, none⟩ = some (.bool false) := (kc_ BK251.out 5).trans rfl; have hcz90_6 : w86.cell? ⟨gb251, 6, none⟩ = some (.int .u64 0) := (kc_ BK251.out 6).trans rfl; have hcz90_7 : w86.cell? ⟨gb251, 7, none⟩ = some (.int .u64 0) := (kc_ BK251.out 7).trans rfl; have hcz90_8 : w86.cell? ⟨gb251, 8, none⟩ = some (.int .u64 0) := (kc_ BK251.out 8).trans rfl; have hcz90_9 : w86.cell? ⟨gb251, 9, none⟩ = some (.int .u64 0) := (kc_ BK251.out 9).trans rfl; have hcz90_10 : w86.cell? ⟨gb251, 10, none⟩ = some (.int .u64 0) := (kc_ BK251.out 10).trans rfl; have hcz90_11 : w86.cell? ⟨gb251, 11, none⟩ = some (.int .u64 0) := (kc_ BK251.out 11).trans rfl; have hcz90_12 : w86.cell? ⟨gb251, 12, none⟩ = some (.int .i64 0) := (kc_ BK251.out 12).trans rfl; have hfz90_0 := kf_ BK251.out 0; have hfz90_1 := kf_ BK251.out 1; have hfz90_2 := kf_ BK251.out 2; have hfz90_3 := kf_ BK251.out 3; have hfz90_4 := kf_ BK251.out 4; have hfz90_5 := kf_ BK251.out 5; have hfz90_6 := kf_ BK251.out 6; have hfz90_7 := kf_ BK251.out 7; have hfz90_8 := kf_ BK251.out 8; have hfz90_9 := kf_ BK251.out 9; have hfz90_10 := kf_ BK251.out 10; have hfz90_11 := kf_ BK251.out 11; have hfz90_12 := kf_ BK251.out 12; have hcz91_0 : w86.cell? ⟨gb220, 0, none⟩ = some (.int .i64 a0_0) := (kc_ BK220.out 0).trans rfl; have hcz91_1 : w86.cell? ⟨gb220, 1, none⟩ = some (.int .i64 a0_1) := (kc_ BK220.out 1).trans rfl; have hcz91_2 : w86.cell? ⟨gb220, 2, none⟩ = some (.int .i64 a0_2) := (kc_ BK220.out 2).trans rfl; have hcz91_3 : w86.cell? ⟨gb220, 3, none⟩ = some (.slice A0_3 l0_3.length c0_3) := (kc_ BK220.out 3).trans rfl; have hcz91_4 : w86.cell? ⟨gb220, 4, none⟩ = some (.bool a0_4) := (kc_ BK220.out 4).trans rfl; have hcz91_5 : w86.cell? ⟨gb220, 5, none⟩ = some (.bool a0_5) := (kc_ BK220.out 5).trans rfl; have hcz91_6 : w86.cell? ⟨gb220, 6, none⟩ = some (.int .u64 a0_6) := (kc_ BK220.out 6).trans rfl; have hcz91_7 : w86.cell? ⟨gb220, 7, none⟩ = some (.int .u64 a0_7) := (kc_ BK220.out 7).trans rfl; have hcz91_8 : w86.cell? ⟨gb220, 8, none⟩ = some (.int .u64 a0_8) := (kc_ BK220.out 8).trans rfl; have hcz91_9 : w86.cell? ⟨gb220, 9, none⟩ = some (.int .u64 a0_9) := (kc_ BK220.out 9).trans rfl; have hcz91_10 : w86.cell? ⟨gb220, 10, none⟩ = some (.int .u64 a0_10) := (kc_ BK220.out 10).trans rfl; have hcz91_11 : w86.cell? ⟨gb220, 11, none⟩ = some (.int .u64 a0_11) := (kc_ BK220.out 11).trans rfl; have hcz91_12 : w86.cell? ⟨gb220, 12, none⟩ = some (.int .i64 a0_12) := (kc_ BK220.out 12).trans rfl; have hfz91_0 := kf_ BK220.out 0; have hfz91_1 := kf_ BK220.out 1; have hfz91_2 := kf_ BK220.out 2; have hfz91_3 := kf_ BK220.out 3; have hfz91_4 := kf_ BK220.out 4; have hfz91_5 := kf_ BK220.out 5; have hfz91_6 := kf_ BK220.out 6; have hfz91_7 := kf_ BK220.out 7; have hfz91_8 := kf_ BK220.out 8; have hfz91_9 := kf_ BK220.out 9; have hfz91_10 := kf_ BK220.out 10; have hfz91_11 := kf_ BK220.out 11; have hfz91_12 := kf_ BK220.out 12) | ((with_reducible refine gate_builtin (b := .append) (xs := #[.const (.slice none 0 0), .tmp 121]) rfl ?_); (try (refine gate_guard (by rfl) ?_; dsimp only)); at_builtin; refine Kd.R_append_rows k41 (w0 := w) w.heap.size rfl (.const (.slice none 0 0)) (.tmp 121) 22 41 (.agg #[(.int .u64 0), (.int .u64 0), (.bool false), (.bool false), (.int .u64 0), (.int .u64 0), (.int .u64 0), (.int .u64 0), (.int .u64 0), (.int .u64 0), (.int .i64 0)]) 80 rfl Try.underlying22 info41 rfl (by decide) (by omega) (.slice none 0 0) ([] : List (S41)) l0_3 _ _ _ (fun k_ => some k_ ≠ (.slice Ao41 y235.length co41 : Value).ownBlock) (fun _ => False) rfl rfl ?aO ?aR (fun _ _ h => h) (fun _ h => h.elim) ?aF ?aB ?aS ?aL ?_; (case aR => exact Kd.C_below HR0_3.out (by repeat (first | (with_reducible first | exact HB.out | apply ba_ | apply bn_ | apply bd_ | refine below_set ?_ GE220.out | refine below_set ?_ GE223.out | refine below_set ?_ GE238.out | refine below_set ?_ GE251.out) | exact HB.out))); (case aB => exact (by repeat (first | (with_reducible first | exact HB.out | apply ba_ | apply bn_ | apply bd_ | refine below_set ?_ GE220.out | refine below_set ?_ GE223.out | refine below_set ?_ GE238.out | refine below_set ?_ GE251.out) | exact HB.out))); (case aF => exact (fun k_ hk => Kd.fresh' (Kd.R_lt (by (with_reducible repeat (first | apply Kd.R_alloc | apply Kd.R_drewN | apply Kd.R_drew)); exact (Kd.R_mono (Kd.R_far (p := ⟨gb251, 12, none⟩) (Kd.R_far (p := ⟨gb251, 11, none⟩) (Kd.R_far (p := ⟨gb251, 10, none⟩) (Kd.R_far (p := ⟨gb251, 9, none⟩) (Kd.R_far (p := ⟨gb251, 8, none⟩) (Kd.R_far (p := ⟨gb251, 7, none⟩) (Kd.R_far (p := ⟨gb251, 6, none⟩) (Kd.R_far (p := ⟨gb251, 5, none⟩) (Kd.R_far (p := ⟨gb251, 4, none⟩) (Kd.R_far (p := ⟨gb251, 3, none⟩) (Kd.R_far (p := ⟨gb251, 2, none⟩) (Kd.R_far (p := ⟨gb251, 1, none⟩) (Kd.R_far (p := ⟨gb251, 0, none⟩) (Kd.R_types HO_224003.out BK251.out (by decide)) (fun _ hk => hk.2) (.int .i64 a0_0)) (fun _ hk => hk.2) (.int .i64 a0_1)) (fun _ hk => hk.2) (.int .i64 a0_2)) (fun _ hk => hk.2) (.slice A0_3 l0_3.length c0_3)) (fun _ hk => hk.2) (.bool a0_4)) (fun _ hk => hk.2) (.bool a0_5)) (fun _ hk => hk.2) (.int .u64 a0_6)) (fun _ hk => hk.2) (.int .u64 a0_7)) (fun _ hk => hk.2) (.int .u64 a0_8)) (fun _ hk => hk.2) (.int .u64 a0_9)) (fun _ hk => hk.2) (.int .u64 a0_10)) (fun _ hk => hk.2) (.int .u64 a0_11)) (fun _ hk => hk.2) (.int .i64 a0_12)) (fun _ h_ => h_.1)))) k_ hk)); (case aO => exact ((Kd.R_nil _ _ _ _ (fun k_ => some k_ ≠ (.slice Ao41 y235.length co41 : Value).ownBlock)))); (case aS => exact (bz_ (by repeat (first | (with_reducible first | exact HB.out | apply ba_ | apply bn_ | apply bd_ | refine below_set ?_ GE220.out | refine below_set ?_ GE223.out | refine below_set ?_ GE238.out | refine below_set ?_ GE251.out) | exact HB.out)))); (case aL => have := LMc71.out; omega); intro v253 w92 ho hb hg hat; rw [← Ny252.out] at ho; have n0_ := ak_ (Kd.R_after (Kd.R_apart_nil (by (with_reducible repeat (first | apply Kd.R_alloc | apply Kd.R_drewN | apply Kd.R_drew)); exact (Kd.R_mono (Kd.R_far (p := ⟨gb251, 12, none⟩) (Kd.R_far (p := ⟨gb251, 11, none⟩) (Kd.R_far (p := ⟨gb251, 10, none⟩) (Kd.R_far (p := ⟨gb251, 9, none⟩) (Kd.R_far (p := ⟨gb251, 8, none⟩) (Kd.R_far (p := ⟨gb251, 7, none⟩) (Kd.R_far (p := ⟨gb251, 6, none⟩) (Kd.R_far (p := ⟨gb251, 5, none⟩) (Kd.R_far (p := ⟨gb251, 4, none⟩) (Kd.R_far (p := ⟨gb251, 3, none⟩) (Kd.R_far (p := ⟨gb251, 2, none⟩) (Kd.R_far (p := ⟨gb251, 1, none⟩) (Kd.R_far (p := ⟨gb251, 0, none⟩) (Kd.R_types HO_224003.out BK251.out (by decide)) (fun _ hk => hk.2) (.int .i64 a0_0)) (fun _ hk => hk.2) (.int .i64 a0_1)) (fun _ hk => hk.2) (.int .i64 a0_2)) (fun _ hk => hk.2) (.slice A0_3 l0_3.length c0_3)) (fun _ hk => hk.2) (.bool a0_4)) (fun _ hk => hk.2) (.bool a0_5)) (fun _ hk => hk.2) (.int .u64 a0_6)) (fun _ hk => hk.2) (.int .u64 a0_7)) (fun _ hk => hk.2) (.int .u64 a0_8)) (fun _ hk => hk.2) (.int .u64 a0_9)) (fun _ hk => hk.2) (.int .u64 a0_10)) (fun _ hk => hk.2) (.int .u64 a0_11)) (fun _ hk => hk.2) (.int .i64 a0_12)) (fun _ h_ => h_.1)))) hg hat); have n1_ := ak_ (blk_grown (g := gb220) (o := .cells #[.int .i64 a0_0, .int .i64 a0_1, .int .i64 a0_2, .slice A0_3 l0_3.length c0_3, .bool a0_4, .bool a0_5, .int .u64 a0_6, .int .u64 a0_7, .int .u64 a0_8, .int .u64 a0_9, .int .u64 a0_10, .int .u64 a0_11, .int .i64 a0_12] 31 (0, 0)) (by (with_reducible repeat (first | refine kn_ ?_ _ | refine kd_ ?_ | refine ka_ ?_ _)); refine blk_far ?_ NB220_251.out _; (with_reducible repeat (first | refine kn_ ?_ _ | refine kd_ ?_ | refine ka_ ?_ _)); refine blk_far ?_ NB220_251.out _; (with_reducible repeat (first | refine kn_ ?_ _ | refine kd_ ?_ | refine ka_ ?_ _)); refine blk_far ?_ NB220_251.out _; (with_reducible repeat (first | refine kn_ ?_ _ | refine kd_ ?_ | refine ka_ ?_ _)); refine blk_far ?_ NB220_251.out _; (with_reducible repeat (first | refine kn_ ?_ _ | refine kd_ ?_ | refine ka_ ?_ _)); refine blk_far ?_ NB220_251.out _; (with_reducible repeat (first | refine kn_ ?_ _ | refine kd_ ?_ | refine ka_ ?_ _)); refine blk_far ?_ NB220_251.out _; (with_reducible repeat (first | refine kn_ ?_ _ | refine kd_ ?_ | refine ka_ ?_ _)); refine blk_far ?_ NB220_251.out _; (with_reducible repeat (first | refine kn_ ?_ _ | refine kd_ ?_ | refine ka_ ?_ _)); refine blk_far ?_ NB220_251.out _; (with_reducible repeat (first | refine kn_ ?_ _ | refine kd_ ?_ | refine ka_ ?_ _)); refine blk_far ?_ NB220_251.out _; (with_reducible repeat (first | refine kn_ ?_ _ | refine kd_ ?_ | refine ka_ ?_ _)); refine blk_far ?_ NB220_251.out _; (with_reducible repeat (first | refine kn_ ?_ _ | refine kd_ ?_ | refine ka_ ?_ _)); refine blk_far ?_ NB220_251.out _; (with_reducible repeat (first | refine kn_ ?_ _ | refine kd_ ?_ | refine ka_ ?_ _)); refine blk_far ?_ NB220_251.out _; (with_reducible repeat (first | refine kn_ ?_ _ | refine kd_ ?_ | refine ka_ ?_ _)); refine blk_far ?_ NB220_251.out _; (with_reducible repeat (first | refine kn_ ?_ _ | refine kd_ ?_ | refine ka_ ?_ _)); exact BK220.out) hg (by simp [Value.ownBlock])); have n2_ := ak_ (blk_grown (g := gb223) (o := .cells #[.int .i64 a0_0, .int .i64 a0_1, .int .i64 a0_2, .slice Ao41 y235.length co41, .bool a0_4, .bool a0_5, .int .u64 a0_6, .int .u64 a0_7, .int .u64 a0_8, .int .u64 a0_9, .int .u64 a0_10, .int .u64 a0_11, .int .i64 a0_12] 31 (0, 0)) (by (with_reducible repeat (first | refine kn_ ?_ _ | refine kd_ ?_ | refine ka_ ?_ _)); refine blk_far ?_ NB223_251.out _; (with_reducible repeat (first | refine kn_ ?_ _ | refine kd_ ?_ | refine ka_ ?_ _)); refine blk_far ?_ NB223_251.out _; (with_reducible repeat (first | refine kn_ ?_ _ | refine kd_ ?_ | refine ka_ ?_ _)); refine blk_far ?_ NB223_251.out _; (with_reducible repeat (first | refine kn_ ?_ _ | refine kd_ ?_ | refine ka_ ?_ _)); refine blk_far ?_ NB223_251.out _; (with_reducible repeat (first | refine kn_ ?_ _ | refine kd_ ?_ | refine ka_ ?_ _)); refine blk_far ?_ NB223_251.out _; (with_reducible repeat (first | refine kn_ ?_ _ | refine kd_ ?_ | refine ka_ ?_ _)); refine blk_far ?_ NB223_251.out _; (with_reducible repeat (first | refine kn_ ?_ _ | refine kd_ ?_ | refine ka_ ?_ _)); refine blk_far ?_ NB223_251.out _; (with_reducible repeat (first | refine kn_ ?_ _ | refine kd_ ?_ | refine ka_ ?_ _)); refine blk_far ?_ NB223_251.out _; (with_reducible repeat (first | refine kn_ ?_ _ | refine kd_ ?_ | refine ka_ ?_ _)); refine blk_far ?_ NB223_251.out _; (with_reducible repeat (first | refine kn_ ?_ _ | refine kd_ ?_ | refine ka_ ?_ _)); refine blk_far ?_ NB223_251.out _; (with_reducible repeat (first | refine kn_ ?_ _ | refine kd_ ?_ | refine ka_ ?_ _)); refine blk_far ?_ NB223_251.out _; (with_reducible repeat (first | refine kn_ ?_ _ | refine kd_ ?_ | refine ka_ ?_ _)); refine blk_far ?_ NB223_251.out _; (with_reducible repeat (first | refine kn_ ?_ _ | refine kd_ ?_ | refine ka_ ?_ _)); refine blk_far ?_ NB223_251.out _; (with_reducible repeat (first | refine kn_ ?_ _ | refine kd_ ?_ | refine ka_ ?_ _)); exact BK223.out) hg (by simp [Value.ownBlock])); have n3_ := ak_ (blk_grown (g := gb238) (o := .cells #[.int .i64 a0_0, .int .i64 a0_1, .int .i64 a0_2, .slice A0_3 l0_3.length c0_3, .bool a0_4, .bool a0_5, .int .u64 a0_6, .int .u64 a0_7, .int .u64 a0_8, .int .u64 a0_9, .int .u64 (Go.bits .xor .u64 a0_10 1), .int .u64 a0_11, .int .i64 a0_12] 31 (0, 0)) (by (with_reducible repeat (first | refine kn_ ?_ _ | refine kd_ ?_ | refine ka_ ?_ _)); refine blk_far ?_ NB238_251.out _; (with_reducible repeat (first | refine kn_ ?_ _ | refine kd_ ?_ | refine ka_ ?_ _)); refine blk_far ?_ NB238_251.out _; (with_reducible repeat (first | refine kn_ ?_ _ | refine kd_ ?_ | refine ka_ ?_ _)); refine blk_far ?_ NB238_251.out _; (with_reducible repeat (first | refine kn_ ?_ _ | refine kd_ ?_ | refine ka_ ?_ _)); refine blk_far ?_ NB238_251.out _; (with_reducible repeat (first | refine kn_ ?_ _ | refine kd_ ?_ | refine ka_ ?_ _)); refine blk_far ?_ NB238_251.out _; (with_reducible repeat (first | refine kn_ ?_ _ | refine kd_ ?_ | refine ka_ ?_ _)); refine blk_far ?_ NB238_251.out _; (with_reducible repeat (first | refine kn_ ?_ _ | refine kd_ ?_ | refine ka_ ?_ _)); refine blk_far ?_ NB238_251.out _; (with_reducible repeat (first | refine kn_ ?_ _ | refine kd_ ?_ | refine ka_ ?_ _)); refine blk_far ?_ NB238_251.out _; (with_reducible repeat (first | refine kn_ ?_ _ | refine kd_ ?_ | refine ka_ ?_ _)); refine blk_far ?_ NB238_251.out _; (with_reducible repeat (first | refine kn_ ?_ _ | refine kd_ ?_ | refine ka_ ?_ _)); refine blk_far ?_ NB238_251.out _; (with_reducible repeat (first | refine kn_ ?_ _ | refine kd_ ?_ | refine ka_ ?_ _)); refine blk_far ?_ NB238_251.out _; (with_reducible repeat (first | refine kn_ ?_ _ | refine kd_ ?_ | refine ka_ ?_ _)); refine blk_far ?_ NB238_251.out _; (with_reducible repeat (first | refine kn_ ?_ _ | refine kd_ ?_ | refine ka_ ?_ _)); refine blk_far ?_ NB238_251.out _; (with_reducible repeat (first | refine kn_ ?_ _ | refine kd_ ?_ | refine ka_ ?_ _)); exact BK238.out) hg (by simp [Value.ownBlock])); have n4_ := ak_ (blk_grown (g := gb251) (o := .cells #[.int .i64 a0_0, .int .i64 a0_1, .int .i64 a0_2, .slice A0_3 l0_3.length c0_3, .bool a0_4, .bool a0_5, .int .u64 a0_6, .int .u64 a0_7, .int .u64 a0_8, .int .u64 a0_9, .int .u64 a0_10, .int .u64 a0_11, .int .i64 a0_12] 31 (0, 0)) (by (with_reducible repeat (first | refine kn_ ?_ _ | refine kd_ ?_ | refine ka_ ?_ _)); refine blk_put (cs := #[.int .i64 a0_0, .int .i64 a0_1, .int .i64 a0_2, .slice A0_3 l0_3.length c0_3, .bool a0_4, .bool a0_5, .int .u64 a0_6, .int .u64 a0_7, .int .u64 a0_8, .int .u64 a0_9, .int .u64 a0_10, .int .u64 a0_11, .int .i64 0]) ?_ 12 _ rfl; (with_reducible repeat (first | refine kn_ ?_ _ | refine kd_ ?_ | refine ka_ ?_ _)); refine blk_put (cs := #[.int .i64 a0_0, .int .i64 a0_1, .int .i64 a0_2, .slice A0_3 l0_3.length c0_3, .bool a0_4, .bool a0_5, .int .u64 a0_6, .int .u64 a0_7, .int .u64 a0_8, .int .u64 a0_9, .int .u64 a0_10, .int .u64 0, .int .i64 0]) ?_ 11 _ rfl; (with_reducible repeat (first | refine kn_ ?_ _ | refine kd_ ?_ | refine ka_ ?_ _)); refine blk_put (cs := #[.int .i64 a0_0, .int .i64 a0_1, .int .i64 a0_2, .slice A0_3 l0_3.length c0_3, .bool a0_4, .bool a0_5, .int .u64 a0_6, .int .u64 a0_7, .int .u64 a0_8, .int .u64 a0_9, .int .u64 0, .int .u64 0, .int .i64 0]) ?_ 10 _ rfl; (with_reducible repeat (first | refine kn_ ?_ _ | refine kd_ ?_ | refine ka_ ?_ _)); refine blk_put (cs := #[.int .i64 a0_0, .int .i64 a0_1, .int .i64 a0_2, .slice A0_3 l0_3.length c0_3, .bool a0_4, .bool a0_5, .int .u64 a0_6, .int .u64 a0_7, .int .u64 a0_8, .int .u64 0, .int .u64 0, .int .u64 0, .int .i64 0]) ?_ 9 _ rfl; (with_reducible repeat (first | refine kn_ ?_ _ | refine kd_ ?_ | refine ka_ ?_ _)); refine blk_put (cs := #[.int .i64 a0_0, .int .i64 a0_1, .int .i64 a0_2, .slice A0_3 l0_3.length c0_3, .bool a0_4, .bool a0_5, .int .u64 a0_6, .int .u64 a0_7, .int .u64 0, .int .u64 0, .int .u64 0, .int .u64 0, .int .i64 0]) ?_ 8 _ rfl; (with_reducible repeat (first | refine kn_ ?_ _ | refine kd_ ?_ | refine ka_ ?_ _)); refine blk_put (cs := #[.int .i64 a0_0, .int .i64 a0_1, .int .i64 a0_2, .slice A0_3 l0_3.length c0_3, .bool a0_4, .bool a0_5, .int .u64 a0_6, .int .u64 0, .int .u64 0, .int .u64 0, .int .u64 0, .int .u64 0, .int .i64 0]) ?_ 7 _ rfl; (with_reducible repeat (first | refine kn_ ?_ _ | refine kd_ ?_ | refine ka_ ?_ _)); refine blk_put (cs := #[.int .i64 a0_0, .int .i64 a0_1, .int .i64 a0_2, .slice A0_3 l0_3.length c0_3, .bool a0_4, .bool a0_5, .int .u64 0, .int .u64 0, .int .u64 0, .int .u64 0, .int .u64 0, .int .u64 0, .int .i64 0]) ?_ 6 _ rfl; (with_reducible repeat (first | refine kn_ ?_ _ | refine kd_ ?_ | refine ka_ ?_ _)); refine blk_put (cs := #[.int .i64 a0_0, .int .i64 a0_1, .int .i64 a0_2, .slice A0_3 l0_3.length c0_3, .bool a0_4, .bool false, .int .u64 0, .int .u64 0, .int .u64 0, .int .u64 0, .int .u64 0, .int .u64 0, .int .i64 0]) ?_ 5 _ rfl; (with_reducible repeat (first | refine kn_ ?_ _ | refine kd_ ?_ | refine ka_ ?_ _)); refine blk_put (cs := #[.int .i64 a0_0, .int .i64 a0_1, .int .i64 a0_2, .slice A0_3 l0_3.length c0_3, .bool false, .bool false, .int .u64 0, .int .u64 0, .int .u64 0, .int .u64 0, .int .u64 0, .int .u64 0, .int .i64 0]) ?_ 4 _ rfl; (with_reducible repeat (first | refine kn_ ?_ _ | refine kd_ ?_ | refine ka_ ?_ _)); refine blk_put (cs := #[.int .i64 a0_0, .int .i64 a0_1, .int .i64 a0_2, .slice none 0 0, .bool false, .bool false, .int .u64 0, .int .u64 0, .int .u64 0, .int .u64 0, .int .u64 0, .int .u64 0, .int .i64 0]) ?_ 3 _ rfl; (with_reducible repeat (first | refine kn_ ?_ _ | refine kd_ ?_ | refine ka_ ?_ _)); refine blk_put (cs := #[.int .i64 a0_0, .int .i64 a0_1, .int .i64 0, .slice none 0 0, .bool false, .bool false, .int .u64 0, .int .u64 0, .int .u64 0, .int .u64 0, .int .u64 0, .int .u64 0, .int .i64 0]) ?_ 2 _ rfl; (with_reducible repeat (first | refine kn_ ?_ _ | refine kd_ ?_ | refine ka_ ?_ _)); refine blk_put (cs := #[.int .i64 a0_0, .int .i64 0, .int .i64 0, .slice none 0 0, .bool false, .bool false, .int .u64 0, .int .u64 0, .int .u64 0, .int .u64 0, .int .u64 0, .int .u64 0, .int .i64 0]) ?_ 1 _ rfl; (with_reducible repeat (first | refine kn_ ?_ _ | refine kd_ ?_ | refine ka_ ?_ _)); refine blk_put (cs := #[.int .i64 0, .int .i64 0, .int .i64 0, .slice none 0 0, .bool false, .bool false, .int .u64 0, .int .u64 0, .int .u64 0, .int .u64 0, .int .u64 0, .int .u64 0, .int .i64 0]) ?_ 0 _ rfl; (with_reducible repeat (first | refine kn_ ?_ _ | refine kd_ ?_ | refine ka_ ?_ _)); exact BK251.out) hg (by simp [Value.ownBlock])); have n5_ := ak_ (hb); have n6_ := ak_ (ho); clear HO_224003; clear BK220; clear BK223; clear BK238; clear BK251; clear HB; have HO_224003 := n0_; have BK220 := n1_; have BK223 := n2_; have BK238 := n3_; have BK251 := n4_; have HB := n5_; have HO254 := n6_; clear n0_ n1_ n2_ n3_ n4_ n5_ n6_; clear ho hb hg hat; obtain ⟨Ao93, co93, eo93⟩ := Kd.R_slice HO254.out; subst eo93; have hcz94_0 : w92.cell? ⟨gb251, 0, none⟩ = some (.int .i64 a0_0) := (kc_ BK251.out 0).trans rfl; have hcz94_1 : w92.cell? ⟨gb251, 1, none⟩ = some (.int .i64 a0_1) := (kc_ BK251.out 1).trans rfl; have hcz94_2 : w92.cell? ⟨gb251, 2, none⟩ = some (.int .i64 a0_2) := (kc_ BK251.out 2).trans rfl; have hcz94_3 : w92.cell? ⟨gb251, 3, none⟩ = some (.slice A0_3 l0_3.length c0_3) := (kc_ BK251.out 3).trans rfl; have hcz94_4 : w92.cell? ⟨gb251, 4, none⟩ = some (.bool a0_4) := (kc_ BK251.out 4).trans rfl; have hcz94_5 : w92.cell? ⟨gb251, 5, none⟩ = some (.bool a0_5) := (kc_ BK251.out 5).trans rfl; have hcz94_6 : w92.cell? ⟨gb251, 6, none⟩ = some (.int .u64 a0_6) := (kc_ BK251.out 6).trans rfl; have hcz94_7 : w92.cell? ⟨gb251, 7, none⟩ = some (.int .u64 a0_7) := (kc_ BK251.out 7).trans rfl; have hcz94_8 : w92.cell? ⟨gb251, 8, none⟩ = some (.int .u64 a0_8) := (kc_ BK251.out 8).trans rfl; have hcz94_9 : w92.cell? ⟨gb251, 9, none⟩ = some (.int .u64 a0_9) := (kc_ BK251.out 9).trans rfl; have hcz94_10 : w92.cell? ⟨gb251, 10, none⟩ = some (.int .u64 a0_10) := (kc_ BK251.out 10).trans rfl; have hcz94_11 : w92.cell? ⟨gb251, 11, none⟩ = some (.int .u64 a0_11) := (kc_ BK251.out 11).trans rfl; have hcz94_12 : w92.cell? ⟨gb251, 12, none⟩ = some (.int .i64 a0_12) := (kc_ BK251.out 12).trans rfl; have hfz94_0 := kf_ BK251.out 0; have hfz94_1 := kf_ BK251.out 1; have hfz94_2 := kf_ BK251.out 2; have hfz94_3 := kf_ BK251.out 3; have hfz94_4 := kf_ BK251.out 4; have hfz94_5 := kf_ BK251.out 5; have hfz94_6 := kf_ BK251.out 6; have hfz94_7 := kf_ BK251.out 7; have hfz94_8 := kf_ BK251.out 8; have hfz94_9 := kf_ BK251.out 9; have hfz94_10 := kf_ BK251.out 10; have hfz94_11 := kf_ BK251.out 11; have hfz94_12 := kf_ BK251.out 12))
                        have n0_ : Aside0 (Kd.R k41 41 (w92.setCell ⟨gb251, 3, none⟩ (.slice Ao93 y252.length co93)) w.heap.size (fun k_ => some k_ ≠ (.slice Ao93 y252.length co93 : Value).ownBlock) (.slice Ao41 y235.length co41) y235) := ⟨by (with_reducible repeat (first | apply Kd.R_alloc | apply Kd.R_drewN | apply Kd.R_drew)); exact Kd.R_mono (Kd.R_far (p := ⟨gb251, 3, none⟩) (Kd.R_types HO_224003.out BK251.out (by decide)) (fun _ hk => hk.2) (.slice Ao93 y252.length co93)) (fun _ hk => hk.1.2)⟩
                        have n1_ : Aside0 (Kd.R k41 41 (w92.setCell ⟨gb251, 3, none⟩ (.slice Ao93 y252.length co93)) w.heap.size (fun k_ => some k_ ≠ (.slice Ao41 y235.length co41 : Value).ownBlock) (.slice Ao93 y252.length co93) y252) := ⟨by (with_reducible repeat (first | apply Kd.R_alloc | apply Kd.R_drewN | apply Kd.R_drew)); exact Kd.R_mono (Kd.R_far (p := ⟨gb251, 3, none⟩) (Kd.R_types HO254.out BK251.out (by decide)) (fun _ hk => hk.2) (.slice Ao93 y252.length co93)) (fun _ hk => hk.1)⟩
                        have n2_ : Aside0 ((w92.setCell ⟨gb251, 3, none⟩ (.slice Ao93 y252.length co93)).heap[gb220]? = some (.cells #[.int .i64 a0_0, .int .i64 a0_1, .int .i64 a0_2, .slice A0_3 l0_3.length c0_3, .bool a0_4, .bool a0_5, .int .u64 a0_6, .int .u64 a0_7, .int .u64 a0_8, .int .u64 a0_9, .int .u64 a0_10, .int .u64 a0_11, .int .i64 a0_12] 31 (0, 0))) := ⟨by (with_reducible repeat (first | refine kn_ ?_ _ | refine kd_ ?_ | refine ka_ ?_ _)); refine blk_far ?_ NB220_251.out _; (with_reducible repeat (first | refine kn_ ?_ _ | refine kd_ ?_ | refine ka_ ?_ _)); exact BK220.out⟩
                        have n3_ : Aside0 ((w92.setCell ⟨gb251, 3, none⟩ (.slice Ao93 y252.length co93)).heap[gb223]? = some (.cells #[.int .i64 a0_0, .int .i64 a0_1, .int .i64 a0_2, .slice Ao41 y235.length co41, .bool a0_4, .bool a0_5, .int .u64 a0_6, .int .u64 a0_7, .int .u64 a0_8, .int .u64 a0_9, .int .u64 a0_10, .int .u64 a0_11, .int .i64 a0_12] 31 (0, 0))) := ⟨by (with_reducible repeat (first | refine kn_ ?_ _ | refine kd_ ?_ | refine ka_ ?_ _)); refine blk_far ?_ NB223_251.out _; (with_reducible repeat (first | refine kn_ ?_ _ | refine kd_ ?_ | refine ka_ ?_ _)); exact BK223.out⟩
                        have n4_ : Aside0 ((w92.setCell ⟨gb251, 3, none⟩ (.slice Ao93 y252.length co93)).heap[gb238]? = some (.cells #[.int .i64 a0_0, .int .i64 a0_1, .int .i64 a0_2, .slice A0_3 l0_3.length c0_3, .bool a0_4, .bool a0_5, .int .u64 a0_6, .int .u64 a0_7, .int .u64 a0_8, .int .u64 a0_9, .int .u64 (Go.bits .xor .u64 a0_10 1), .int .u64 a0_11, .int .i64 a0_12] 31 (0, 0))) := ⟨by (with_reducible repeat (first | refine kn_ ?_ _ | refine kd_ ?_ | refine ka_ ?_ _)); refine blk_far ?_ NB238_251.out _; (with_reducible repeat (first | refine kn_ ?_ _ | refine kd_ ?_ | refine ka_ ?_ _)); exact BK238.out⟩
                        have n5_ : Aside0 ((w92.setCell ⟨gb251, 3, none⟩ (.slice Ao93 y252.length co93)).heap[gb251]? = some (.cells #[.int .i64 a0_0, .int .i64 a0_1, .int .i64 a0_2, .slice Ao93 y252.length co93, .bool a0_4, .bool a0_5, .int .u64 a0_6, .int .u64 a0_7, .int .u64 a0_8, .int .u64 a0_9, .int .u64 a0_10, .int .u64 a0_11, .int .i64 a0_12] 31 (0, 0))) := ⟨by (with_reducible repeat (first | refine kn_ ?_ _ | refine kd_ ?_ | refine ka_ ?_ _)); refine blk_put (cs := #[.int .i64 a0_0, .int .i64 a0_1, .int .i64 a0_2, .slice A0_3 l0_3.length c0_3, .bool a0_4, .bool a0_5, .int .u64 a0_6, .int .u64 a0_7, .int .u64 a0_8, .int .u64 a0_9, .int .u64 a0_10, .int .u64 a0_11, .int .i64 a0_12]) ?_ 3 _ rfl; (with_reducible repeat (first | refine kn_ ?_ _ | refine kd_ ?_ | refine ka_ ?_ _)); exact BK251.out⟩
                        have n6_ : Aside0 (Below w.heap.size w (w92.setCell ⟨gb251, 3, none⟩ (.slice Ao93 y252.length co93))) := ⟨by repeat (first | (with_reducible first | exact HB.out | apply ba_ | apply bn_ | apply bd_ | refine below_set ?_ GE220.out | refine below_set ?_ GE223.out | refine below_set ?_ GE238.out | refine below_set ?_ GE251.out) | exact HB.out)⟩
                        (try clear HO_224003)
                        (try clear HO254)
                        (try clear BK220)
                        (try clear BK223)
                        (try clear BK238)
                        (try clear BK251)
                        (try clear HB)
                        generalize (w92.setCell ⟨gb251, 3, none⟩ (.slice Ao93 y252.length co93)) = w95 at n0_ n1_ n2_ n3_ n4_ n5_ n6_ ⊢
                        have HO_224003 := n0_
                        have HO254 := n1_
                        have BK220 := n2_
                        have BK223 := n3_
                        have BK238 := n4_
                        have BK251 := n5_
                        have HB := n6_
                        clear n0_ n1_ n2_ n3_ n4_ n5_ n6_
                        have n0_ := ak_ (Kd.R_drew HO_224003.out)
                        have n1_ := ak_ (Kd.R_drew HO254.out)
                        have n2_ := ak_ (kd_ BK220.out)
                        have n3_ := ak_ (kd_ BK223.out)
                        have n4_ := ak_ (kd_ BK238.out)
                        have n5_ := ak_ (kd_ BK251.out)
                        have n6_ := ak_ (bd_ HB.out)
                        clear HO_224003
                        clear HO254
                        clear BK220
                        clear BK223
                        clear BK238
                        clear BK251
                        clear HB
                        have HO_224003 := n0_
                        have HO254 := n1_
                        have BK220 := n2_
                        have BK223 := n3_
                        have BK238 := n4_
                        have BK251 := n5_
                        have HB := n6_
                        clear n0_ n1_ n2_ n3_ n4_ n5_ n6_
                        have p255 : 0 ≤ ((ji72) : Int) := od_ (by first | (with_reducible assumption) | assumption)
                        have q255 : (ji72) < (l0_3.length : Int) := od_ (by first | (with_reducible assumption) | assumption)
                        obtain ⟨ad255, e255, hx255_0, hx255_1, hx255_2, hx255_3, hx255_4, hx255_5, hx255_6, hx255_7, hx255_8, hx255_9, hx255_10⟩ := at_T41 HR0_3.out (ji72) p255 q255
                        have hw255_10 := hx255_10
                        have hw255_9 := hx255_9
                        have hw255_8 := hx255_8
                        have hw255_7 := hx255_7
                        have hw255_6 := hx255_6
                        have hw255_5 := hx255_5
                        have hw255_4 := hx255_4
                        have hw255_3 := hx255_3
                        have hw255_2 := hx255_2
                        have hw255_1 := hx255_1
                        have hw255_0 := hx255_0
                        cases e255
                        replace hx255_0 := (HB.out.cell (World.block_lt_of_cell? w _ hx255_0)).trans hx255_0
                        replace hx255_1 := (HB.out.cell (World.block_lt_of_cell? w _ hx255_1)).trans hx255_1
                        replace hx255_2 := (HB.out.cell (World.block_lt_of_cell? w _ hx255_2)).trans hx255_2
                        replace hx255_3 := (HB.out.cell (World.block_lt_of_cell? w _ hx255_3)).trans hx255_3
                        replace hx255_4 := (HB.out.cell (World.block_lt_of_cell? w _ hx255_4)).trans hx255_4
                        replace hx255_5 := (HB.out.cell (World.block_lt_of_cell? w _ hx255_5)).trans hx255_5
                        replace hx255_6 := (HB.out.cell (World.block_lt_of_cell? w _ hx255_6)).trans hx255_6
                        replace hx255_7 := (HB.out.cell (World.block_lt_of_cell? w _ hx255_7)).trans hx255_7
                        replace hx255_8 := (HB.out.cell (World.block_lt_of_cell? w _ hx255_8)).trans hx255_8
                        replace hx255_9 := (HB.out.cell (World.block_lt_of_cell? w _ hx255_9)).trans hx255_9
                        replace hx255_10 := (HB.out.cell (World.block_lt_of_cell? w _ hx255_10)).trans hx255_10
                        replace p255 := eq_true p255
                        replace q255 := eq_true q255
                        have p77 : 0 ≤ (ji18 : Int) := od_ (by first | (with_reducible assumption) | assumption)
                        have q77 : (ji18 : Int) < ((y252.length : Int) : Int) := od_ (by first | (with_reducible assumption) | assumption)
                        obtain ⟨go77, co77, eo77, gb77, gl77, cl77, HG77⟩ := Kd.R_form HO254.out (by omega)
                        (first | cases eo77 | (injection eo77 with ea_ en_ ec_; (first | subst ea_ | (injection ea_ with ea_; subst ea_)); subst ec_; clear en_))
                        have GB77 := ak_ gb77
                        have GG77 := ak_ HG77
                        clear gb77 gl77 HG77
                        obtain ⟨ce77, hcl77, hM77, hcc77, hfr77⟩ := Kd.R_elem HO254.out z41 (ji18 : Int) p77 q77
                        obtain rfl := k41_openM hM77
                        have hx77_0 : World.cell? _ ⟨go77, (ji18 : Int).toNat * 11, none⟩ = some (.int .u64 ((rd_T41 y252 ji18).f0.f0)) := hcc77 0 _ rfl
                        have hx77_1 : World.cell? _ ⟨go77, (ji18 : Int).toNat * 11 + 1, none⟩ = some (.int .u64 ((rd_T41 y252 ji18).f0.f1)) := hcc77 1 _ rfl
                        have hx77_2 : World.cell? _ ⟨go77, (ji18 : Int).toNat * 11 + 2, none⟩ = some (.bool ((rd_T41 y252 ji18).f1.f0)) := hcc77 2 _ rfl
                        have hx77_3 : World.cell? _ ⟨go77, (ji18 : Int).toNat * 11 + 3, none⟩ = some (.bool ((rd_T41 y252 ji18).f1.f1)) := hcc77 3 _ rfl
                        have hx77_4 : World.cell? _ ⟨go77, (ji18 : Int).toNat * 11 + 4, none⟩ = some (.int .u64 ((rd_T41 y252 ji18).f1.f2.f0)) := hcc77 4 _ rfl
                        have hx77_5 : World.cell? _ ⟨go77, (ji18 : Int).toNat * 11 + 5, none⟩ = some (.int .u64 ((rd_T41 y252 ji18).f1.f2.f1)) := hcc77 5 _ rfl
                        have hx77_6 : World.cell? _ ⟨go77, (ji18 : Int).toNat * 11 + 6, none⟩ = some (.int .u64 ((rd_T41 y252 ji18).f1.f3.f0.f0)) := hcc77 6 _ rfl
                        have hx77_7 : World.cell? _ ⟨go77, (ji18 : Int).toNat * 11 + 7, none⟩ = some (.int .u64 ((rd_T41 y252 ji18).f1.f3.f0.f1)) := hcc77 7 _ rfl
                        have hx77_8 : World.cell? _ ⟨go77, (ji18 : Int).toNat * 11 + 8, none⟩ = some (.int .u64 ((rd_T41 y252 ji18).f1.f3.f1.f0)) := hcc77 8 _ rfl
                        have hx77_9 : World.cell? _ ⟨go77, (ji18 : Int).toNat * 11 + 9, none⟩ = some (.int .u64 ((rd_T41 y252 ji18).f1.f3.f1.f1)) := hcc77 9 _ rfl
                        have hx77_10 : World.cell? _ ⟨go77, (ji18 : Int).toNat * 11 + 10, none⟩ = some (.int .i64 ((rd_T41 y252 ji18).f1.f4)) := hcc77 10 _ rfl
                        have hf77_0 : World.frozen? _ ⟨go77, (ji18 : Int).toNat * 11, none⟩ = false := hfr77 0
                        have hf77_1 : World.frozen? _ ⟨go77, (ji18 : Int).toNat * 11 + 1, none⟩ = false := hfr77 1
                        have hf77_2 : World.frozen? _ ⟨go77, (ji18 : Int).toNat * 11 + 2, none⟩ = false := hfr77 2
                        have hf77_3 : World.frozen? _ ⟨go77, (ji18 : Int).toNat * 11 + 3, none⟩ = false := hfr77 3
                        have hf77_4 : World.frozen? _ ⟨go77, (ji18 : Int).toNat * 11 + 4, none⟩ = false := hfr77 4
                        have hf77_5 : World.frozen? _ ⟨go77, (ji18 : Int).toNat * 11 + 5, none⟩ = false := hfr77 5
                        have hf77_6 : World.frozen? _ ⟨go77, (ji18 : Int).toNat * 11 + 6, none⟩ = false := hfr77 6
                        have hf77_7 : World.frozen? _ ⟨go77, (ji18 : Int).toNat * 11 + 7, none⟩ = false := hfr77 7
                        have hf77_8 : World.frozen? _ ⟨go77, (ji18 : Int).toNat * 11 + 8, none⟩ = false := hfr77 8
                        have hf77_9 : World.frozen? _ ⟨go77, (ji18 : Int).toNat * 11 + 9, none⟩ = false := hfr77 9
                        have hf77_10 : World.frozen? _ ⟨go77, (ji18 : Int).toNat * 11 + 10, none⟩ = false := hfr77 10
                        clear hcl77 hcc77 hfr77 hM77
                        replace p77 := eq_true p77
                        replace q77 := eq_true q77
                        obtain ⟨ce97, hcl97, hM97, hcc97, hfr97⟩ := Kd.R_elem HO254.out z41 (ji18 : Int) (od_ (by first | (with_reducible assumption) | assumption)) (by have h_ : (ji18 : Int) < ((y252.length : Int) : Int) := od_ (by first | (with_reducible assumption) | assumption); first | exact h_ | (have e_ := (Kd.R_reads' HO254.out).1; omega) | simpa using h_)
                        obtain rfl := k41_openM hM97
                        have HP97 := (Kd.R_seg HO254.out (ji18 : Int) (od_ (by first | (with_reducible assumption) | assumption)) (by have h_ : (ji18 : Int) < ((y252.length : Int) : Int) := od_ (by first | (with_reducible assumption) | assumption); first | exact h_ | (have e_ := (Kd.R_reads' HO254.out).1; omega) | simpa using h_) (seg := [.int .u64 ((rd_T41 l0_3 (ji72)).f0.f0), .int .u64 ((rd_T41 l0_3 (ji72)).f0.f1), .bool ((rd_T41 l0_3 (ji72)).f1.f0), .bool ((rd_T41 l0_3 (ji72)).f1.f1), .int .u64 ((rd_T41 l0_3 (ji72)).f1.f2.f0), .int .u64 ((rd_T41 l0_3 (ji72)).f1.f2.f1), .int .u64 ((rd_T41 l0_3 (ji72)).f1.f3.f0.f0), .int .u64 ((rd_T41 l0_3 (ji72)).f1.f3.f0.f1), .int .u64 ((rd_T41 l0_3 (ji72)).f1.f3.f1.f0), .int .u64 ((rd_T41 l0_3 (ji72)).f1.f3.f1.f1), .int .i64 ((rd_T41 l0_3 (ji72)).f1.f4)]) (j := 0) hcl97 hcc97 (show 11 ≤ 11 from by decide) (x' := (⟨(⟨(rd_T41 l0_3 (ji72)).f0.f0, (rd_T41 l0_3 (ji72)).f0.f1⟩ : S39), (⟨(rd_T41 l0_3 (ji72)).f1.f0, (rd_T41 l0_3 (ji72)).f1.f1, (⟨(rd_T41 l0_3 (ji72)).f1.f2.f0, (rd_T41 l0_3 (ji72)).f1.f2.f1⟩ : S25), (⟨(⟨(rd_T41 l0_3 (ji72)).f1.f3.f0.f0, (rd_T41 l0_3 (ji72)).f1.f3.f0.f1⟩ : S25), (⟨(rd_T41 l0_3 (ji72)).f1.f3.f1.f0, (rd_T41 l0_3 (ji72)).f1.f3.f1.f1⟩ : S25)⟩ : S27), (rd_T41 l0_3 (ji72)).f1.f4⟩ : S29)⟩ : S41)) (k41_mkM _ _ _ (⟨(⟨(rd_T41 l0_3 (ji72)).f0.f0, (rd_T41 l0_3 (ji72)).f0.f1⟩ : S39), (⟨(rd_T41 l0_3 (ji72)).f1.f0, (rd_T41 l0_3 (ji72)).f1.f1, (⟨(rd_T41 l0_3 (ji72)).f1.f2.f0, (rd_T41 l0_3 (ji72)).f1.f2.f1⟩ : S25), (⟨(⟨(rd_T41 l0_3 (ji72)).f1.f3.f0.f0, (rd_T41 l0_3 (ji72)).f1.f3.f0.f1⟩ : S25), (⟨(rd_T41 l0_3 (ji72)).f1.f3.f1.f0, (rd_T41 l0_3 (ji72)).f1.f3.f1.f1⟩ : S25)⟩ : S27), (rd_T41 l0_3 (ji72)).f1.f4⟩ : S29)⟩ : S41) ) (fun _ hk => hk)).1
                        rw [← Ny256.out] at HP97
                        have HQ97 := ak_ HP97
                        clear hcl97 hcc97 hfr97 hM97 HP97
                        refine start_ (n := 11) (S := fun w' => w'.cell? ⟨gb251, 0, none⟩ = some (.int .i64 a0_0) ∧ w'.cell? ⟨gb251, 1, none⟩ = some (.int .i64 a0_1) ∧ w'.cell? ⟨gb251, 2, none⟩ = some (.int .i64 a0_2) ∧ w'.cell? ⟨gb251, 3, none⟩ = some (.slice (some ⟨go77, 0, none⟩) y252.length co93) ∧ w'.cell? ⟨gb251, 4, none⟩ = some (.bool a0_4) ∧ w'.cell? ⟨gb251, 5, none⟩ = some (.bool a0_5) ∧ w'.cell? ⟨gb251, 6, none⟩ = some (.int .u64 a0_6) ∧ w'.cell? ⟨gb251, 7, none⟩ = some (.int .u64 a0_7) ∧ w'.cell? ⟨gb251, 8, none⟩ = some (.int .u64 a0_8) ∧ w'.cell? ⟨gb251, 9, none⟩ = some (.int .u64 a0_9) ∧ w'.cell? ⟨gb251, 10, none⟩ = some (.int .u64 a0_10) ∧ w'.cell? ⟨gb251, 11, none⟩ = some (.int .u64 a0_11) ∧ w'.cell? ⟨gb251, 12, none⟩ = some (.int .i64 a0_12) ∧ w'.cell? ⟨gb220, 0, none⟩ = some (.int .i64 a0_0) ∧ w'.cell? ⟨gb220, 1, none⟩ = some (.int .i64 a0_1) ∧ w'.cell? ⟨gb220, 2, none⟩ = some (.int .i64 a0_2) ∧ w'.cell? ⟨gb220, 3, none⟩ = some (.slice (some ad255) l0_3.length c0_3) ∧ w'.cell? ⟨gb220, 4, none⟩ = some (.bool a0_4) ∧ w'.cell? ⟨gb220, 5, none⟩ = some (.bool a0_5) ∧ w'.cell? ⟨gb220, 6, none⟩ = some (.int .u64 a0_6) ∧ w'.cell? ⟨gb220, 7, none⟩ = some (.int .u64 a0_7) ∧ w'.cell? ⟨gb220, 8, none⟩ = some (.int .u64 a0_8) ∧ w'.cell? ⟨gb220, 9, none⟩ = some (.int .u64 a0_9) ∧ w'.cell? ⟨gb220, 10, none⟩ = some (.int .u64 a0_10) ∧ w'.cell? ⟨gb220, 11, none⟩ = some (.int .u64 a0_11) ∧ w'.cell? ⟨gb220, 12, none⟩ = some (.int .i64 a0_12) ∧ w'.cell? (ad255.add (((ji72)).toNat * 11)) = some (.int .u64 ((rd_T41 l0_3 (ji72)).f0.f0)) ∧ w'.cell? ⟨(ad255.add (((ji72)).toNat * 11)).block, (ad255.add (((ji72)).toNat * 11)).off + 1, none⟩ = some (.int .u64 ((rd_T41 l0_3 (ji72)).f0.f1)) ∧ w'.cell? ⟨(ad255.add (((ji72)).toNat * 11)).block, (ad255.add (((ji72)).toNat * 11)).off + 2, none⟩ = some (.bool ((rd_T41 l0_3 (ji72)).f1.f0)) ∧ w'.cell? ⟨(ad255.add (((ji72)).toNat * 11)).block, (ad255.add (((ji72)).toNat * 11)).off + 3, none⟩ = some (.bool ((rd_T41 l0_3 (ji72)).f1.f1)) ∧ w'.cell? ⟨(ad255.add (((ji72)).toNat * 11)).block, (ad255.add (((ji72)).toNat * 11)).off + 4, none⟩ = some (.int .u64 ((rd_T41 l0_3 (ji72)).f1.f2.f0)) ∧ w'.cell? ⟨(ad255.add (((ji72)).toNat * 11)).block, (ad255.add (((ji72)).toNat * 11)).off + 5, none⟩ = some (.int .u64 ((rd_T41 l0_3 (ji72)).f1.f2.f1)) ∧ w'.cell? ⟨(ad255.add (((ji72)).toNat * 11)).block, (ad255.add (((ji72)).toNat * 11)).off + 6, none⟩ = some (.int .u64 ((rd_T41 l0_3 (ji72)).f1.f3.f0.f0)) ∧ w'.cell? ⟨(ad255.add (((ji72)).toNat * 11)).block, (ad255.add (((ji72)).toNat * 11)).off + 7, none⟩ = some (.int .u64 ((rd_T41 l0_3 (ji72)).f1.f3.f0.f1)) ∧ w'.cell? ⟨(ad255.add (((ji72)).toNat * 11)).block, (ad255.add (((ji72)).toNat * 11)).off + 8, none⟩ = some (.int .u64 ((rd_T41 l0_3 (ji72)).f1.f3.f1.f0)) ∧ w'.cell? ⟨(ad255.add (((ji72)).toNat * 11)).block, (ad255.add (((ji72)).toNat * 11)).off + 9, none⟩ = some (.int .u64 ((rd_T41 l0_3 (ji72)).f1.f3.f1.f1)) ∧ w'.cell? ⟨(ad255.add (((ji72)).toNat * 11)).block, (ad255.add (((ji72)).toNat * 11)).off + 10, none⟩ = some (.int .i64 ((rd_T41 l0_3 (ji72)).f1.f4))) (ds := [10]) #[false, false, false, false, false, false, false, false, false, false, false] (by kernel_rfl) rfl rfl ⟨(kc_ BK251.out 0).trans rfl, (kc_ BK251.out 1).trans rfl, (kc_ BK251.out 2).trans rfl, (kc_ BK251.out 3).trans rfl, (kc_ BK251.out 4).trans rfl, (kc_ BK251.out 5).trans rfl, (kc_ BK251.out 6).trans rfl, (kc_ BK251.out 7).trans rfl, (kc_ BK251.out 8).trans rfl, (kc_ BK251.out 9).trans rfl, (kc_ BK251.out 10).trans rfl, (kc_ BK251.out 11).trans rfl, (kc_ BK251.out 12).trans rfl, (kc_ BK220.out 0).trans rfl, (kc_ BK220.out 1).trans rfl, (kc_ BK220.out 2).trans rfl, (kc_ BK220.out 3).trans rfl, (kc_ BK220.out 4).trans rfl, (kc_ BK220.out 5).trans rfl, (kc_ BK220.out 6).trans rfl, (kc_ BK220.out 7).trans rfl, (kc_ BK220.out 8).trans rfl, (kc_ BK220.out 9).trans rfl, (kc_ BK220.out 10).trans rfl, (kc_ BK220.out 11).trans rfl, (kc_ BK220.out 12).trans rfl, ((HB.out.cell (World.block_lt_of_cell? w _ hw255_0)).trans hw255_0), ((HB.out.cell (World.block_lt_of_cell? w _ hw255_1)).trans hw255_1), ((HB.out.cell (World.block_lt_of_cell? w _ hw255_2)).trans hw255_2), ((HB.out.cell (World.block_lt_of_cell? w _ hw255_3)).trans hw255_3), ((HB.out.cell (World.block_lt_of_cell? w _ hw255_4)).trans hw255_4), ((HB.out.cell (World.block_lt_of_cell? w _ hw255_5)).trans hw255_5), ((HB.out.cell (World.block_lt_of_cell? w _ hw255_6)).trans hw255_6), ((HB.out.cell (World.block_lt_of_cell? w _ hw255_7)).trans hw255_7), ((HB.out.cell (World.block_lt_of_cell? w _ hw255_8)).trans hw255_8), ((HB.out.cell (World.block_lt_of_cell? w _ hw255_9)).trans hw255_9), ((HB.out.cell (World.block_lt_of_cell? w _ hw255_10)).trans hw255_10)⟩ (fun hHeld => ?_); refine with_tabW medlarlaw16_HeadParts.tab18 medlarlaw16_HeadParts.bits18 (fun HT_ HW_ => ?_)
                        generalize w95.drew = w96 at HO_224003 HO254 BK220 BK223 BK238 BK251 HB GG77 HQ97 hf77_0 hf77_1 hf77_10 hf77_2 hf77_3 hf77_4 hf77_5 hf77_6 hf77_7 hf77_8 hf77_9 hx255_0 hx255_1 hx255_10 hx255_2 hx255_3 hx255_4 hx255_5 hx255_6 hx255_7 hx255_8 hx255_9 hx77_0 hx77_1 hx77_10 hx77_2 hx77_3 hx77_4 hx77_5 hx77_6 hx77_7 hx77_8 hx77_9 hHeld ⊢
                        refine pure_ (i := 0) (N := some 124) (v := ?_) (a' := ?_) #[true, false, false, false, false, false, false, false, false, false, false] rfl rfl (any_of HT_.out (by kernel_rfl)) (fun _ _ _ h => h) (Or.inl ⟨by rfl, ?_⟩) ?_ ?_; rotate_left; (intro w'; go_simp; with_reducible rfl); rotate_left; (simp only [Act.put, setIfInBounds_toArray, set_cons_zero, set_cons_succ, i64_w, i32_w]; rfl)
                        refine pure_ (i := 2) (N := some 126) (v := ?_) (a' := ?_) #[true, false, true, false, false, false, false, false, false, false, false] rfl rfl (any_of HT_.out (by kernel_rfl)) (fun _ _ _ h => h) (Or.inl ⟨by rfl, ?_⟩) ?_ ?_; rotate_left; (intro w'; go_simp; with_reducible rfl); rotate_left; (simp only [Act.put, setIfInBounds_toArray, set_cons_zero, set_cons_succ, i64_w, i32_w]; rfl)
                        refine pure_ (i := 3) (N := some 127) (v := ?_) (a' := ?_) #[true, false, true, true, false, false, false, false, false, false, false] rfl rfl (any_of HT_.out (by kernel_rfl)) (fun _ _ _ h => h) (Or.inl ⟨by rfl, ?_⟩) ?_ ?_; rotate_left; (intro w'; go_simp; with_reducible rfl); rotate_left; (simp only [Act.put, setIfInBounds_toArray, set_cons_zero, set_cons_succ, i64_w, i32_w]; rfl)
                        refine pure_ (i := 5) (N := some 129) (v := ?_) (a' := ?_) #[true, false, true, true, false, true, false, false, false, false, false] rfl rfl (any_of HT_.out (by kernel_rfl)) (fun _ _ _ h => h) (Or.inl ⟨by rfl, ?_⟩) ?_ ?_; rotate_left; (intro w'; go_simp; with_reducible rfl); rotate_left; (simp only [Act.put, setIfInBounds_toArray, set_cons_zero, set_cons_succ, i64_w, i32_w]; rfl)
                        refine pure_ (i := 6) (N := some 130) (v := ?_) (a' := ?_) #[true, false, true, true, false, true, true, false, false, false, false] rfl rfl (any_of HT_.out (by kernel_rfl)) (fun _ _ _ h => h) (Or.inl ⟨by rfl, ?_⟩) ?_ ?_; rotate_left; (intro w'; go_simp; with_reducible rfl); rotate_left; (simp only [Act.put, setIfInBounds_toArray, set_cons_zero, set_cons_succ, i64_w, i32_w]; rfl)
                        refine take_ (i := 1) (N := some 125) (v := ?_) (a' := ?_) #[true, true, true, true, false, true, true, false, false, false, false] rfl rfl (take_ofW HT_.out HW_.out (by kernel_rfl)) (fun _ _ _ h => h) (Or.inl ⟨by rfl, ?_⟩) hHeld ?_ ?_
                        rotate_left
                        ·rintro w' ⟨s0, s1, s2, s3, s4, s5, s6, s7, s8, s9, s10, s11, s12, s13, s14, s15, s16, s17, s18, s19, s20, s21, s22, s23, s24, s25, s26, s27, s28, s29, s30, s31, s32, s33, s34, s35, s36⟩
                         go_simp
                         with_reducible rfl
                        rotate_left
                        ·simp only [Act.put, setIfInBounds_toArray, set_cons_zero, set_cons_succ, i64_w, i32_w]
                         rfl
                        refine take_ (i := 4) (N := some 128) (v := ?_) (a' := ?_) #[true, true, true, true, true, true, true, false, false, false, false] rfl rfl (take_ofW HT_.out HW_.out (by kernel_rfl)) (fun _ _ _ h => h) (Or.inl ⟨by rfl, ?_⟩) hHeld ?_ ?_
                        rotate_left
                        ·rintro w' ⟨s0, s1, s2, s3, s4, s5, s6, s7, s8, s9, s10, s11, s12, s13, s14, s15, s16, s17, s18, s19, s20, s21, s22, s23, s24, s25, s26, s27, s28, s29, s30, s31, s32, s33, s34, s35, s36⟩
                         go_simp
                         with_reducible rfl
                        rotate_left
                        ·simp only [Act.put, setIfInBounds_toArray, set_cons_zero, set_cons_succ, i64_w, i32_w]
                         rfl
                        refine pure_ (i := 7) (N := some 131) (v := ?_) (a' := ?_) #[true, true, true, true, true, true, true, true, false, false, false] rfl rfl (any_of HT_.out (by kernel_rfl)) (fun _ _ _ h => h) (Or.inl ⟨by rfl, ?_⟩) ?_ ?_; rotate_left; (intro w'; go_simp; with_reducible rfl); rotate_left; (simp only [Act.put, setIfInBounds_toArray, set_cons_zero, set_cons_succ, i64_w, i32_w]; rfl)
                        refine take_ (i := 8) (N := some 132) (v := ?_) (a' := ?_) #[true, true, true, true, true, true, true, true, true, false, false] rfl rfl (take_ofW HT_.out HW_.out (by kernel_rfl)) (fun _ _ _ h => h) (Or.inl ⟨by rfl, ?_⟩) hHeld ?_ ?_
                        rotate_left
                        ·rintro w' ⟨s0, s1, s2, s3, s4, s5, s6, s7, s8, s9, s10, s11, s12, s13, s14, s15, s16, s17, s18, s19, s20, s21, s22, s23, s24, s25, s26, s27, s28, s29, s30, s31, s32, s33, s34, s35, s36⟩
                         go_simp
                         with_reducible rfl
                        rotate_left
                        ·simp only [Act.put, setIfInBounds_toArray, set_cons_zero, set_cons_succ, i64_w, i32_w]
                         rfl
                        refine pure_ (i := 9) (N := some 133) (v := ?_) (a' := ?_) #[true, true, true, true, true, true, true, true, true, true, false] rfl rfl (any_of HT_.out (by kernel_rfl)) (fun _ _ _ h => h) (Or.inl ⟨by rfl, ?_⟩) ?_ ?_; rotate_left; (intro w'; go_simp; with_reducible rfl); rotate_left; (simp only [Act.put, setIfInBounds_toArray, set_cons_zero, set_cons_succ, i64_w, i32_w]; rfl)
                        refine last_ (i := 10) (N := none) #[true, true, true, true, true, true, true, true, true, true, true] rfl rfl (one_of HT_.out (by kernel_rfl)) (by decide) (fun K hK => ?_)
                        refine skip_ (w1 := ?_) (by rfl) rfl ?_ ?_
                        rotate_left
                        ·go_simp
                         rfl
                        refine hK.out _ _ ?_
                        clear hK K
                        refine done_ (done_of HT_.out (by kernel_rfl)) ?_
                        try go_wp2
                        have n0_ : Aside0 (Kd.R k41 41 (((((((((((w96.setCell ⟨go77, (ji18 : Int).toNat * 11, none⟩ (.int .u64 ((rd_T41 l0_3 (ji72)).f0.f0))).setCell ⟨go77, (ji18 : Int).toNat * 11 + 1, none⟩ (.int .u64 ((rd_T41 l0_3 (ji72)).f0.f1))).setCell ⟨go77, (ji18 : Int).toNat * 11 + 2, none⟩ (.bool ((rd_T41 l0_3 (ji72)).f1.f0))).setCell ⟨go77, (ji18 : Int).toNat * 11 + 3, none⟩ (.bool ((rd_T41 l0_3 (ji72)).f1.f1))).setCell ⟨go77, (ji18 : Int).toNat * 11 + 4, none⟩ (.int .u64 ((rd_T41 l0_3 (ji72)).f1.f2.f0))).setCell ⟨go77, (ji18 : Int).toNat * 11 + 5, none⟩ (.int .u64 ((rd_T41 l0_3 (ji72)).f1.f2.f1))).setCell ⟨go77, (ji18 : Int).toNat * 11 + 6, none⟩ (.int .u64 ((rd_T41 l0_3 (ji72)).f1.f3.f0.f0))).setCell ⟨go77, (ji18 : Int).toNat * 11 + 7, none⟩ (.int .u64 ((rd_T41 l0_3 (ji72)).f1.f3.f0.f1))).setCell ⟨go77, (ji18 : Int).toNat * 11 + 8, none⟩ (.int .u64 ((rd_T41 l0_3 (ji72)).f1.f3.f1.f0))).setCell ⟨go77, (ji18 : Int).toNat * 11 + 9, none⟩ (.int .u64 ((rd_T41 l0_3 (ji72)).f1.f3.f1.f1))).setCell ⟨go77, (ji18 : Int).toNat * 11 + 10, none⟩ (.int .i64 ((rd_T41 l0_3 (ji72)).f1.f4))) w.heap.size (fun k_ => some k_ ≠ (.slice (some ⟨go77, 0, none⟩) y252.length co93 : Value).ownBlock) (.slice Ao41 y235.length co41) y235) := ⟨by (with_reducible repeat (first | apply Kd.R_alloc | apply Kd.R_drewN | apply Kd.R_drew)); exact Kd.R_mono (Kd.R_far (p := ⟨go77, (ji18 : Int).toNat * 11 + 10, none⟩) (Kd.R_far (p := ⟨go77, (ji18 : Int).toNat * 11 + 9, none⟩) (Kd.R_far (p := ⟨go77, (ji18 : Int).toNat * 11 + 8, none⟩) (Kd.R_far (p := ⟨go77, (ji18 : Int).toNat * 11 + 7, none⟩) (Kd.R_far (p := ⟨go77, (ji18 : Int).toNat * 11 + 6, none⟩) (Kd.R_far (p := ⟨go77, (ji18 : Int).toNat * 11 + 5, none⟩) (Kd.R_far (p := ⟨go77, (ji18 : Int).toNat * 11 + 4, none⟩) (Kd.R_far (p := ⟨go77, (ji18 : Int).toNat * 11 + 3, none⟩) (Kd.R_far (p := ⟨go77, (ji18 : Int).toNat * 11 + 2, none⟩) (Kd.R_far (p := ⟨go77, (ji18 : Int).toNat * 11 + 1, none⟩) (Kd.R_far (p := ⟨go77, (ji18 : Int).toNat * 11, none⟩) (Kd.R_mono HO_224003.out (fun k_ hk => (⟨hk, fun e_ => hk (by rw [e_]; rfl)⟩ : _ ∧ k_ ≠ go77))) (fun _ hk => hk.2) (.int .u64 ((rd_T41 l0_3 (ji72)).f0.f0))) (fun _ hk => hk.2) (.int .u64 ((rd_T41 l0_3 (ji72)).f0.f1))) (fun _ hk => hk.2) (.bool ((rd_T41 l0_3 (ji72)).f1.f0))) (fun _ hk => hk.2) (.bool ((rd_T41 l0_3 (ji72)).f1.f1))) (fun _ hk => hk.2) (.int .u64 ((rd_T41 l0_3 (ji72)).f1.f2.f0))) (fun _ hk => hk.2) (.int .u64 ((rd_T41 l0_3 (ji72)).f1.f2.f1))) (fun _ hk => hk.2) (.int .u64 ((rd_T41 l0_3 (ji72)).f1.f3.f0.f0))) (fun _ hk => hk.2) (.int .u64 ((rd_T41 l0_3 (ji72)).f1.f3.f0.f1))) (fun _ hk => hk.2) (.int .u64 ((rd_T41 l0_3 (ji72)).f1.f3.f1.f0))) (fun _ hk => hk.2) (.int .u64 ((rd_T41 l0_3 (ji72)).f1.f3.f1.f1))) (fun _ hk => hk.2) (.int .i64 ((rd_T41 l0_3 (ji72)).f1.f4))) (fun _ hk => hk.1)⟩
                        have n1_ : Aside0 (Kd.R k41 41 (((((((((((w96.setCell ⟨go77, (ji18 : Int).toNat * 11, none⟩ (.int .u64 ((rd_T41 l0_3 (ji72)).f0.f0))).setCell ⟨go77, (ji18 : Int).toNat * 11 + 1, none⟩ (.int .u64 ((rd_T41 l0_3 (ji72)).f0.f1))).setCell ⟨go77, (ji18 : Int).toNat * 11 + 2, none⟩ (.bool ((rd_T41 l0_3 (ji72)).f1.f0))).setCell ⟨go77, (ji18 : Int).toNat * 11 + 3, none⟩ (.bool ((rd_T41 l0_3 (ji72)).f1.f1))).setCell ⟨go77, (ji18 : Int).toNat * 11 + 4, none⟩ (.int .u64 ((rd_T41 l0_3 (ji72)).f1.f2.f0))).setCell ⟨go77, (ji18 : Int).toNat * 11 + 5, none⟩ (.int .u64 ((rd_T41 l0_3 (ji72)).f1.f2.f1))).setCell ⟨go77, (ji18 : Int).toNat * 11 + 6, none⟩ (.int .u64 ((rd_T41 l0_3 (ji72)).f1.f3.f0.f0))).setCell ⟨go77, (ji18 : Int).toNat * 11 + 7, none⟩ (.int .u64 ((rd_T41 l0_3 (ji72)).f1.f3.f0.f1))).setCell ⟨go77, (ji18 : Int).toNat * 11 + 8, none⟩ (.int .u64 ((rd_T41 l0_3 (ji72)).f1.f3.f1.f0))).setCell ⟨go77, (ji18 : Int).toNat * 11 + 9, none⟩ (.int .u64 ((rd_T41 l0_3 (ji72)).f1.f3.f1.f1))).setCell ⟨go77, (ji18 : Int).toNat * 11 + 10, none⟩ (.int .i64 ((rd_T41 l0_3 (ji72)).f1.f4))) w.heap.size (fun k_ => some k_ ≠ (.slice Ao41 y235.length co41 : Value).ownBlock) (.slice (some ⟨go77, 0, none⟩) y252.length co93) y256) := ⟨by (with_reducible repeat (first | apply Kd.R_alloc | apply Kd.R_drewN | apply Kd.R_drew)); exact HQ97.out⟩
                        have n2_ : Aside0 ((((((((((((w96.setCell ⟨go77, (ji18 : Int).toNat * 11, none⟩ (.int .u64 ((rd_T41 l0_3 (ji72)).f0.f0))).setCell ⟨go77, (ji18 : Int).toNat * 11 + 1, none⟩ (.int .u64 ((rd_T41 l0_3 (ji72)).f0.f1))).setCell ⟨go77, (ji18 : Int).toNat * 11 + 2, none⟩ (.bool ((rd_T41 l0_3 (ji72)).f1.f0))).setCell ⟨go77, (ji18 : Int).toNat * 11 + 3, none⟩ (.bool ((rd_T41 l0_3 (ji72)).f1.f1))).setCell ⟨go77, (ji18 : Int).toNat * 11 + 4, none⟩ (.int .u64 ((rd_T41 l0_3 (ji72)).f1.f2.f0))).setCell ⟨go77, (ji18 : Int).toNat * 11 + 5, none⟩ (.int .u64 ((rd_T41 l0_3 (ji72)).f1.f2.f1))).setCell ⟨go77, (ji18 : Int).toNat * 11 + 6, none⟩ (.int .u64 ((rd_T41 l0_3 (ji72)).f1.f3.f0.f0))).setCell ⟨go77, (ji18 : Int).toNat * 11 + 7, none⟩ (.int .u64 ((rd_T41 l0_3 (ji72)).f1.f3.f0.f1))).setCell ⟨go77, (ji18 : Int).toNat * 11 + 8, none⟩ (.int .u64 ((rd_T41 l0_3 (ji72)).f1.f3.f1.f0))).setCell ⟨go77, (ji18 : Int).toNat * 11 + 9, none⟩ (.int .u64 ((rd_T41 l0_3 (ji72)).f1.f3.f1.f1))).setCell ⟨go77, (ji18 : Int).toNat * 11 + 10, none⟩ (.int .i64 ((rd_T41 l0_3 (ji72)).f1.f4))).heap[gb220]? = some (.cells #[.int .i64 a0_0, .int .i64 a0_1, .int .i64 a0_2, .slice (some ad255) l0_3.length c0_3, .bool a0_4, .bool a0_5, .int .u64 a0_6, .int .u64 a0_7, .int .u64 a0_8, .int .u64 a0_9, .int .u64 a0_10, .int .u64 a0_11, .int .i64 a0_12] 31 (0, 0))) := ⟨by (with_reducible repeat (first | refine kn_ ?_ _ | refine kd_ ?_ | refine ka_ ?_ _)); refine blk_far ?_ (by have h_ := Kd.R_ne HO254.out BK220.out (by decide); intro e_; exact h_ (by rw [e_]; rfl)) _; (with_reducible repeat (first | refine kn_ ?_ _ | refine kd_ ?_ | refine ka_ ?_ _)); refine blk_far ?_ (by have h_ := Kd.R_ne HO254.out BK220.out (by decide); intro e_; exact h_ (by rw [e_]; rfl)) _; (with_reducible repeat (first | refine kn_ ?_ _ | refine kd_ ?_ | refine ka_ ?_ _)); refine blk_far ?_ (by have h_ := Kd.R_ne HO254.out BK220.out (by decide); intro e_; exact h_ (by rw [e_]; rfl)) _; (with_reducible repeat (first | refine kn_ ?_ _ | refine kd_ ?_ | refine ka_ ?_ _)); refine blk_far ?_ (by have h_ := Kd.R_ne HO254.out BK220.out (by decide); intro e_; exact h_ (by rw [e_]; rfl)) _; (with_reducible repeat (first | refine kn_ ?_ _ | refine kd_ ?_ | refine ka_ ?_ _)); refine blk_far ?_ (by have h_ := Kd.R_ne HO254.out BK220.out (by decide); intro e_; exact h_ (by rw [e_]; rfl)) _; (with_reducible repeat (first | refine kn_ ?_ _ | refine kd_ ?_ | refine ka_ ?_ _)); refine blk_far ?_ (by have h_ := Kd.R_ne HO254.out BK220.out (by decide); intro e_; exact h_ (by rw [e_]; rfl)) _; (with_reducible repeat (first | refine kn_ ?_ _ | refine kd_ ?_ | refine ka_ ?_ _)); refine blk_far ?_ (by have h_ := Kd.R_ne HO254.out BK220.out (by decide); intro e_; exact h_ (by rw [e_]; rfl)) _; (with_reducible repeat (first | refine kn_ ?_ _ | refine kd_ ?_ | refine ka_ ?_ _)); refine blk_far ?_ (by have h_ := Kd.R_ne HO254.out BK220.out (by decide); intro e_; exact h_ (by rw [e_]; rfl)) _; (with_reducible repeat (first | refine kn_ ?_ _ | refine kd_ ?_ | refine ka_ ?_ _)); refine blk_far ?_ (by have h_ := Kd.R_ne HO254.out BK220.out (by decide); intro e_; exact h_ (by rw [e_]; rfl)) _; (with_reducible repeat (first | refine kn_ ?_ _ | refine kd_ ?_ | refine ka_ ?_ _)); refine blk_far ?_ (by have h_ := Kd.R_ne HO254.out BK220.out (by decide); intro e_; exact h_ (by rw [e_]; rfl)) _; (with_reducible repeat (first | refine kn_ ?_ _ | refine kd_ ?_ | refine ka_ ?_ _)); refine blk_far ?_ (by have h_ := Kd.R_ne HO254.out BK220.out (by decide); intro e_; exact h_ (by rw [e_]; rfl)) _; (with_reducible repeat (first | refine kn_ ?_ _ | refine kd_ ?_ | refine ka_ ?_ _)); exact BK220.out⟩
                        have n3_ : Aside0 ((((((((((((w96.setCell ⟨go77, (ji18 : Int).toNat * 11, none⟩ (.int .u64 ((rd_T41 l0_3 (ji72)).f0.f0))).setCell ⟨go77, (ji18 : Int).toNat * 11 + 1, none⟩ (.int .u64 ((rd_T41 l0_3 (ji72)).f0.f1))).setCell ⟨go77, (ji18 : Int).toNat * 11 + 2, none⟩ (.bool ((rd_T41 l0_3 (ji72)).f1.f0))).setCell ⟨go77, (ji18 : Int).toNat * 11 + 3, none⟩ (.bool ((rd_T41 l0_3 (ji72)).f1.f1))).setCell ⟨go77, (ji18 : Int).toNat * 11 + 4, none⟩ (.int .u64 ((rd_T41 l0_3 (ji72)).f1.f2.f0))).setCell ⟨go77, (ji18 : Int).toNat * 11 + 5, none⟩ (.int .u64 ((rd_T41 l0_3 (ji72)).f1.f2.f1))).setCell ⟨go77, (ji18 : Int).toNat * 11 + 6, none⟩ (.int .u64 ((rd_T41 l0_3 (ji72)).f1.f3.f0.f0))).setCell ⟨go77, (ji18 : Int).toNat * 11 + 7, none⟩ (.int .u64 ((rd_T41 l0_3 (ji72)).f1.f3.f0.f1))).setCell ⟨go77, (ji18 : Int).toNat * 11 + 8, none⟩ (.int .u64 ((rd_T41 l0_3 (ji72)).f1.f3.f1.f0))).setCell ⟨go77, (ji18 : Int).toNat * 11 + 9, none⟩ (.int .u64 ((rd_T41 l0_3 (ji72)).f1.f3.f1.f1))).setCell ⟨go77, (ji18 : Int).toNat * 11 + 10, none⟩ (.int .i64 ((rd_T41 l0_3 (ji72)).f1.f4))).heap[gb223]? = some (.cells #[.int .i64 a0_0, .int .i64 a0_1, .int .i64 a0_2, .slice Ao41 y235.length co41, .bool a0_4, .bool a0_5, .int .u64 a0_6, .int .u64 a0_7, .int .u64 a0_8, .int .u64 a0_9, .int .u64 a0_10, .int .u64 a0_11, .int .i64 a0_12] 31 (0, 0))) := ⟨by (with_reducible repeat (first | refine kn_ ?_ _ | refine kd_ ?_ | refine ka_ ?_ _)); refine blk_far ?_ (by have h_ := Kd.R_ne HO254.out BK223.out (by decide); intro e_; exact h_ (by rw [e_]; rfl)) _; (with_reducible repeat (first | refine kn_ ?_ _ | refine kd_ ?_ | refine ka_ ?_ _)); refine blk_far ?_ (by have h_ := Kd.R_ne HO254.out BK223.out (by decide); intro e_; exact h_ (by rw [e_]; rfl)) _; (with_reducible repeat (first | refine kn_ ?_ _ | refine kd_ ?_ | refine ka_ ?_ _)); refine blk_far ?_ (by have h_ := Kd.R_ne HO254.out BK223.out (by decide); intro e_; exact h_ (by rw [e_]; rfl)) _; (with_reducible repeat (first | refine kn_ ?_ _ | refine kd_ ?_ | refine ka_ ?_ _)); refine blk_far ?_ (by have h_ := Kd.R_ne HO254.out BK223.out (by decide); intro e_; exact h_ (by rw [e_]; rfl)) _; (with_reducible repeat (first | refine kn_ ?_ _ | refine kd_ ?_ | refine ka_ ?_ _)); refine blk_far ?_ (by have h_ := Kd.R_ne HO254.out BK223.out (by decide); intro e_; exact h_ (by rw [e_]; rfl)) _; (with_reducible repeat (first | refine kn_ ?_ _ | refine kd_ ?_ | refine ka_ ?_ _)); refine blk_far ?_ (by have h_ := Kd.R_ne HO254.out BK223.out (by decide); intro e_; exact h_ (by rw [e_]; rfl)) _; (with_reducible repeat (first | refine kn_ ?_ _ | refine kd_ ?_ | refine ka_ ?_ _)); refine blk_far ?_ (by have h_ := Kd.R_ne HO254.out BK223.out (by decide); intro e_; exact h_ (by rw [e_]; rfl)) _; (with_reducible repeat (first | refine kn_ ?_ _ | refine kd_ ?_ | refine ka_ ?_ _)); refine blk_far ?_ (by have h_ := Kd.R_ne HO254.out BK223.out (by decide); intro e_; exact h_ (by rw [e_]; rfl)) _; (with_reducible repeat (first | refine kn_ ?_ _ | refine kd_ ?_ | refine ka_ ?_ _)); refine blk_far ?_ (by have h_ := Kd.R_ne HO254.out BK223.out (by decide); intro e_; exact h_ (by rw [e_]; rfl)) _; (with_reducible repeat (first | refine kn_ ?_ _ | refine kd_ ?_ | refine ka_ ?_ _)); refine blk_far ?_ (by have h_ := Kd.R_ne HO254.out BK223.out (by decide); intro e_; exact h_ (by rw [e_]; rfl)) _; (with_reducible repeat (first | refine kn_ ?_ _ | refine kd_ ?_ | refine ka_ ?_ _)); refine blk_far ?_ (by have h_ := Kd.R_ne HO254.out BK223.out (by decide); intro e_; exact h_ (by rw [e_]; rfl)) _; (with_reducible repeat (first | refine kn_ ?_ _ | refine kd_ ?_ | refine ka_ ?_ _)); exact BK223.out⟩
                        have n4_ : Aside0 ((((((((((((w96.setCell ⟨go77, (ji18 : Int).toNat * 11, none⟩ (.int .u64 ((rd_T41 l0_3 (ji72)).f0.f0))).setCell ⟨go77, (ji18 : Int).toNat * 11 + 1, none⟩ (.int .u64 ((rd_T41 l0_3 (ji72)).f0.f1))).setCell ⟨go77, (ji18 : Int).toNat * 11 + 2, none⟩ (.bool ((rd_T41 l0_3 (ji72)).f1.f0))).setCell ⟨go77, (ji18 : Int).toNat * 11 + 3, none⟩ (.bool ((rd_T41 l0_3 (ji72)).f1.f1))).setCell ⟨go77, (ji18 : Int).toNat * 11 + 4, none⟩ (.int .u64 ((rd_T41 l0_3 (ji72)).f1.f2.f0))).setCell ⟨go77, (ji18 : Int).toNat * 11 + 5, none⟩ (.int .u64 ((rd_T41 l0_3 (ji72)).f1.f2.f1))).setCell ⟨go77, (ji18 : Int).toNat * 11 + 6, none⟩ (.int .u64 ((rd_T41 l0_3 (ji72)).f1.f3.f0.f0))).setCell ⟨go77, (ji18 : Int).toNat * 11 + 7, none⟩ (.int .u64 ((rd_T41 l0_3 (ji72)).f1.f3.f0.f1))).setCell ⟨go77, (ji18 : Int).toNat * 11 + 8, none⟩ (.int .u64 ((rd_T41 l0_3 (ji72)).f1.f3.f1.f0))).setCell ⟨go77, (ji18 : Int).toNat * 11 + 9, none⟩ (.int .u64 ((rd_T41 l0_3 (ji72)).f1.f3.f1.f1))).setCell ⟨go77, (ji18 : Int).toNat * 11 + 10, none⟩ (.int .i64 ((rd_T41 l0_3 (ji72)).f1.f4))).heap[gb238]? = some (.cells #[.int .i64 a0_0, .int .i64 a0_1, .int .i64 a0_2, .slice (some ad255) l0_3.length c0_3, .bool a0_4, .bool a0_5, .int .u64 a0_6, .int .u64 a0_7, .int .u64 a0_8, .int .u64 a0_9, .int .u64 (Go.bits .xor .u64 a0_10 1), .int .u64 a0_11, .int .i64 a0_12] 31 (0, 0))) := ⟨by (with_reducible repeat (first | refine kn_ ?_ _ | refine kd_ ?_ | refine ka_ ?_ _)); refine blk_far ?_ (by have h_ := Kd.R_ne HO254.out BK238.out (by decide); intro e_; exact h_ (by rw [e_]; rfl)) _; (with_reducible repeat (first | refine kn_ ?_ _ | refine kd_ ?_ | refine ka_ ?_ _)); refine blk_far ?_ (by have h_ := Kd.R_ne HO254.out BK238.out (by decide); intro e_; exact h_ (by rw [e_]; rfl)) _; (with_reducible repeat (first | refine kn_ ?_ _ | refine kd_ ?_ | refine ka_ ?_ _)); refine blk_far ?_ (by have h_ := Kd.R_ne HO254.out BK238.out (by decide); intro e_; exact h_ (by rw [e_]; rfl)) _; (with_reducible repeat (first | refine kn_ ?_ _ | refine kd_ ?_ | refine ka_ ?_ _)); refine blk_far ?_ (by have h_ := Kd.R_ne HO254.out BK238.out (by decide); intro e_; exact h_ (by rw [e_]; rfl)) _; (with_reducible repeat (first | refine kn_ ?_ _ | refine kd_ ?_ | refine ka_ ?_ _)); refine blk_far ?_ (by have h_ := Kd.R_ne HO254.out BK238.out (by decide); intro e_; exact h_ (by rw [e_]; rfl)) _; (with_reducible repeat (first | refine kn_ ?_ _ | refine kd_ ?_ | refine ka_ ?_ _)); refine blk_far ?_ (by have h_ := Kd.R_ne HO254.out BK238.out (by decide); intro e_; exact h_ (by rw [e_]; rfl)) _; (with_reducible repeat (first | refine kn_ ?_ _ | refine kd_ ?_ | refine ka_ ?_ _)); refine blk_far ?_ (by have h_ := Kd.R_ne HO254.out BK238.out (by decide); intro e_; exact h_ (by rw [e_]; rfl)) _; (with_reducible repeat (first | refine kn_ ?_ _ | refine kd_ ?_ | refine ka_ ?_ _)); refine blk_far ?_ (by have h_ := Kd.R_ne HO254.out BK238.out (by decide); intro e_; exact h_ (by rw [e_]; rfl)) _; (with_reducible repeat (first | refine kn_ ?_ _ | refine kd_ ?_ | refine ka_ ?_ _)); refine blk_far ?_ (by have h_ := Kd.R_ne HO254.out BK238.out (by decide); intro e_; exact h_ (by rw [e_]; rfl)) _; (with_reducible repeat (first | refine kn_ ?_ _ | refine kd_ ?_ | refine ka_ ?_ _)); refine blk_far ?_ (by have h_ := Kd.R_ne HO254.out BK238.out (by decide); intro e_; exact h_ (by rw [e_]; rfl)) _; (with_reducible repeat (first | refine kn_ ?_ _ | refine kd_ ?_ | refine ka_ ?_ _)); refine blk_far ?_ (by have h_ := Kd.R_ne HO254.out BK238.out (by decide); intro e_; exact h_ (by rw [e_]; rfl)) _; (with_reducible repeat (first | refine kn_ ?_ _ | refine kd_ ?_ | refine ka_ ?_ _)); exact BK238.out⟩
                        have n5_ : Aside0 ((((((((((((w96.setCell ⟨go77, (ji18 : Int).toNat * 11, none⟩ (.int .u64 ((rd_T41 l0_3 (ji72)).f0.f0))).setCell ⟨go77, (ji18 : Int).toNat * 11 + 1, none⟩ (.int .u64 ((rd_T41 l0_3 (ji72)).f0.f1))).setCell ⟨go77, (ji18 : Int).toNat * 11 + 2, none⟩ (.bool ((rd_T41 l0_3 (ji72)).f1.f0))).setCell ⟨go77, (ji18 : Int).toNat * 11 + 3, none⟩ (.bool ((rd_T41 l0_3 (ji72)).f1.f1))).setCell ⟨go77, (ji18 : Int).toNat * 11 + 4, none⟩ (.int .u64 ((rd_T41 l0_3 (ji72)).f1.f2.f0))).setCell ⟨go77, (ji18 : Int).toNat * 11 + 5, none⟩ (.int .u64 ((rd_T41 l0_3 (ji72)).f1.f2.f1))).setCell ⟨go77, (ji18 : Int).toNat * 11 + 6, none⟩ (.int .u64 ((rd_T41 l0_3 (ji72)).f1.f3.f0.f0))).setCell ⟨go77, (ji18 : Int).toNat * 11 + 7, none⟩ (.int .u64 ((rd_T41 l0_3 (ji72)).f1.f3.f0.f1))).setCell ⟨go77, (ji18 : Int).toNat * 11 + 8, none⟩ (.int .u64 ((rd_T41 l0_3 (ji72)).f1.f3.f1.f0))).setCell ⟨go77, (ji18 : Int).toNat * 11 + 9, none⟩ (.int .u64 ((rd_T41 l0_3 (ji72)).f1.f3.f1.f1))).setCell ⟨go77, (ji18 : Int).toNat * 11 + 10, none⟩ (.int .i64 ((rd_T41 l0_3 (ji72)).f1.f4))).heap[gb251]? = some (.cells #[.int .i64 a0_0, .int .i64 a0_1, .int .i64 a0_2, .slice (some ⟨go77, 0, none⟩) y252.length co93, .bool a0_4, .bool a0_5, .int .u64 a0_6, .int .u64 a0_7, .int .u64 a0_8, .int .u64 a0_9, .int .u64 a0_10, .int .u64 a0_11, .int .i64 a0_12] 31 (0, 0))) := ⟨by (with_reducible repeat (first | refine kn_ ?_ _ | refine kd_ ?_ | refine ka_ ?_ _)); refine blk_far ?_ (by have h_ := Kd.R_ne HO254.out BK251.out (by decide); intro e_; exact h_ (by rw [e_]; rfl)) _; (with_reducible repeat (first | refine kn_ ?_ _ | refine kd_ ?_ | refine ka_ ?_ _)); refine blk_far ?_ (by have h_ := Kd.R_ne HO254.out BK251.out (by decide); intro e_; exact h_ (by rw [e_]; rfl)) _; (with_reducible repeat (first | refine kn_ ?_ _ | refine kd_ ?_ | refine ka_ ?_ _)); refine blk_far ?_ (by have h_ := Kd.R_ne HO254.out BK251.out (by decide); intro e_; exact h_ (by rw [e_]; rfl)) _; (with_reducible repeat (first | refine kn_ ?_ _ | refine kd_ ?_ | refine ka_ ?_ _)); refine blk_far ?_ (by have h_ := Kd.R_ne HO254.out BK251.out (by decide); intro e_; exact h_ (by rw [e_]; rfl)) _; (with_reducible repeat (first | refine kn_ ?_ _ | refine kd_ ?_ | refine ka_ ?_ _)); refine blk_far ?_ (by have h_ := Kd.R_ne HO254.out BK251.out (by decide); intro e_; exact h_ (by rw [e_]; rfl)) _; (with_reducible repeat (first | refine kn_ ?_ _ | refine kd_ ?_ | refine ka_ ?_ _)); refine blk_far ?_ (by have h_ := Kd.R_ne HO254.out BK251.out (by decide); intro e_; exact h_ (by rw [e_]; rfl)) _; (with_reducible repeat (first | refine kn_ ?_ _ | refine kd_ ?_ | refine ka_ ?_ _)); refine blk_far ?_ (by have h_ := Kd.R_ne HO254.out BK251.out (by decide); intro e_; exact h_ (by rw [e_]; rfl)) _; (with_reducible repeat (first | refine kn_ ?_ _ | refine kd_ ?_ | refine ka_ ?_ _)); refine blk_far ?_ (by have h_ := Kd.R_ne HO254.out BK251.out (by decide); intro e_; exact h_ (by rw [e_]; rfl)) _; (with_reducible repeat (first | refine kn_ ?_ _ | refine kd_ ?_ | refine ka_ ?_ _)); refine blk_far ?_ (by have h_ := Kd.R_ne HO254.out BK251.out (by decide); intro e_; exact h_ (by rw [e_]; rfl)) _; (with_reducible repeat (first | refine kn_ ?_ _ | refine kd_ ?_ | refine ka_ ?_ _)); refine blk_far ?_ (by have h_ := Kd.R_ne HO254.out BK251.out (by decide); intro e_; exact h_ (by rw [e_]; rfl)) _; (with_reducible repeat (first | refine kn_ ?_ _ | refine kd_ ?_ | refine ka_ ?_ _)); refine blk_far ?_ (by have h_ := Kd.R_ne HO254.out BK251.out (by decide); intro e_; exact h_ (by rw [e_]; rfl)) _; (with_reducible repeat (first | refine kn_ ?_ _ | refine kd_ ?_ | refine ka_ ?_ _)); exact BK251.out⟩
                        have n6_ : Aside0 (Below w.heap.size w (((((((((((w96.setCell ⟨go77, (ji18 : Int).toNat * 11, none⟩ (.int .u64 ((rd_T41 l0_3 (ji72)).f0.f0))).setCell ⟨go77, (ji18 : Int).toNat * 11 + 1, none⟩ (.int .u64 ((rd_T41 l0_3 (ji72)).f0.f1))).setCell ⟨go77, (ji18 : Int).toNat * 11 + 2, none⟩ (.bool ((rd_T41 l0_3 (ji72)).f1.f0))).setCell ⟨go77, (ji18 : Int).toNat * 11 + 3, none⟩ (.bool ((rd_T41 l0_3 (ji72)).f1.f1))).setCell ⟨go77, (ji18 : Int).toNat * 11 + 4, none⟩ (.int .u64 ((rd_T41 l0_3 (ji72)).f1.f2.f0))).setCell ⟨go77, (ji18 : Int).toNat * 11 + 5, none⟩ (.int .u64 ((rd_T41 l0_3 (ji72)).f1.f2.f1))).setCell ⟨go77, (ji18 : Int).toNat * 11 + 6, none⟩ (.int .u64 ((rd_T41 l0_3 (ji72)).f1.f3.f0.f0))).setCell ⟨go77, (ji18 : Int).toNat * 11 + 7, none⟩ (.int .u64 ((rd_T41 l0_3 (ji72)).f1.f3.f0.f1))).setCell ⟨go77, (ji18 : Int).toNat * 11 + 8, none⟩ (.int .u64 ((rd_T41 l0_3 (ji72)).f1.f3.f1.f0))).setCell ⟨go77, (ji18 : Int).toNat * 11 + 9, none⟩ (.int .u64 ((rd_T41 l0_3 (ji72)).f1.f3.f1.f1))).setCell ⟨go77, (ji18 : Int).toNat * 11 + 10, none⟩ (.int .i64 ((rd_T41 l0_3 (ji72)).f1.f4)))) := ⟨by repeat (first | (with_reducible first | exact HB.out | apply ba_ | apply bn_ | apply bd_ | refine below_set ?_ GB77.out | refine below_set ?_ GB77.out | refine below_set ?_ GB77.out | refine below_set ?_ GB77.out | refine below_set ?_ GB77.out | refine below_set ?_ GB77.out | refine below_set ?_ GB77.out | refine below_set ?_ GB77.out | refine below_set ?_ GB77.out | refine below_set ?_ GB77.out | refine below_set ?_ GB77.out | refine below_set ?_ GE220.out | refine below_set ?_ GE223.out | refine below_set ?_ GE238.out | refine below_set ?_ GE251.out) | exact HB.out)⟩
                        (try clear HO_224003)
                        (try clear HO254)
                        (try clear BK220)
                        (try clear BK223)
                        (try clear BK238)
                        (try clear BK251)
                        (try clear HB)
                        generalize (((((((((((w96.setCell ⟨go77, (ji18 : Int).toNat * 11, none⟩ (.int .u64 ((rd_T41 l0_3 (ji72)).f0.f0))).setCell ⟨go77, (ji18 : Int).toNat * 11 + 1, none⟩ (.int .u64 ((rd_T41 l0_3 (ji72)).f0.f1))).setCell ⟨go77, (ji18 : Int).toNat * 11 + 2, none⟩ (.bool ((rd_T41 l0_3 (ji72)).f1.f0))).setCell ⟨go77, (ji18 : Int).toNat * 11 + 3, none⟩ (.bool ((rd_T41 l0_3 (ji72)).f1.f1))).setCell ⟨go77, (ji18 : Int).toNat * 11 + 4, none⟩ (.int .u64 ((rd_T41 l0_3 (ji72)).f1.f2.f0))).setCell ⟨go77, (ji18 : Int).toNat * 11 + 5, none⟩ (.int .u64 ((rd_T41 l0_3 (ji72)).f1.f2.f1))).setCell ⟨go77, (ji18 : Int).toNat * 11 + 6, none⟩ (.int .u64 ((rd_T41 l0_3 (ji72)).f1.f3.f0.f0))).setCell ⟨go77, (ji18 : Int).toNat * 11 + 7, none⟩ (.int .u64 ((rd_T41 l0_3 (ji72)).f1.f3.f0.f1))).setCell ⟨go77, (ji18 : Int).toNat * 11 + 8, none⟩ (.int .u64 ((rd_T41 l0_3 (ji72)).f1.f3.f1.f0))).setCell ⟨go77, (ji18 : Int).toNat * 11 + 9, none⟩ (.int .u64 ((rd_T41 l0_3 (ji72)).f1.f3.f1.f1))).setCell ⟨go77, (ji18 : Int).toNat * 11 + 10, none⟩ (.int .i64 ((rd_T41 l0_3 (ji72)).f1.f4))) = w98 at n0_ n1_ n2_ n3_ n4_ n5_ n6_ ⊢
                        have HO_224003 := n0_
                        have HO254 := n1_
                        have BK220 := n2_
                        have BK223 := n3_
                        have BK238 := n4_
                        have BK251 := n5_
                        have HB := n6_
                        clear n0_ n1_ n2_ n3_ n4_ n5_ n6_
                        have n0_ := ak_ (Kd.R_drew HO_224003.out)
                        have n1_ := ak_ (Kd.R_drew HO254.out)
                        have n2_ := ak_ (kd_ BK220.out)
                        have n3_ := ak_ (kd_ BK223.out)
                        have n4_ := ak_ (kd_ BK238.out)
                        have n5_ := ak_ (kd_ BK251.out)
                        have n6_ := ak_ (bd_ HB.out)
                        clear HO_224003
                        clear HO254
                        clear BK220
                        clear BK223
                        clear BK238
                        clear BK251
                        clear HB
                        have HO_224003 := n0_
                        have HO254 := n1_
                        have BK220 := n2_
                        have BK223 := n3_
                        have BK238 := n4_
                        have BK251 := n5_
                        have HB := n6_
                        clear n0_ n1_ n2_ n3_ n4_ n5_ n6_
                        have p257 : 0 ≤ (ji18 : Int) := od_ (by first | (with_reducible assumption) | assumption)
                        have q257 : ji18 < (l0_3.length : Int) := od_ (by first | (with_reducible assumption) | assumption)
                        obtain ⟨ad257, e257, hx257_0, hx257_1, hx257_2, hx257_3, hx257_4, hx257_5, hx257_6, hx257_7, hx257_8, hx257_9, hx257_10⟩ := at_T41 HR0_3.out ji18 p257 q257
                        have hw257_10 := hx257_10
                        have hw257_9 := hx257_9
                        have hw257_8 := hx257_8
                        have hw257_7 := hx257_7
                        have hw257_6 := hx257_6
                        have hw257_5 := hx257_5
                        have hw257_4 := hx257_4
                        have hw257_3 := hx257_3
                        have hw257_2 := hx257_2
                        have hw257_1 := hx257_1
                        have hw257_0 := hx257_0
                        obtain rfl : ad255 = ad257 := (by injection e257)
                        replace hx257_0 := (HB.out.cell (World.block_lt_of_cell? w _ hx257_0)).trans hx257_0
                        replace hx257_1 := (HB.out.cell (World.block_lt_of_cell? w _ hx257_1)).trans hx257_1
                        replace hx257_2 := (HB.out.cell (World.block_lt_of_cell? w _ hx257_2)).trans hx257_2
                        replace hx257_3 := (HB.out.cell (World.block_lt_of_cell? w _ hx257_3)).trans hx257_3
                        replace hx257_4 := (HB.out.cell (World.block_lt_of_cell? w _ hx257_4)).trans hx257_4
                        replace hx257_5 := (HB.out.cell (World.block_lt_of_cell? w _ hx257_5)).trans hx257_5
                        replace hx257_6 := (HB.out.cell (World.block_lt_of_cell? w _ hx257_6)).trans hx257_6
                        replace hx257_7 := (HB.out.cell (World.block_lt_of_cell? w _ hx257_7)).trans hx257_7
                        replace hx257_8 := (HB.out.cell (World.block_lt_of_cell? w _ hx257_8)).trans hx257_8
                        replace hx257_9 := (HB.out.cell (World.block_lt_of_cell? w _ hx257_9)).trans hx257_9
                        replace hx257_10 := (HB.out.cell (World.block_lt_of_cell? w _ hx257_10)).trans hx257_10
                        replace p257 := eq_true p257
                        replace q257 := eq_true q257
                        have p80 : 0 ≤ ((ji72) : Int) := od_ (by first | (with_reducible assumption) | assumption)
                        have q80 : ((ji72) : Int) < ((y252.length : Int) : Int) := od_ (by first | (with_reducible assumption) | assumption)
                        obtain ⟨ce80, hcl80, hM80, hcc80, hfr80⟩ := Kd.R_elem HO254.out z41 ((ji72) : Int) p80 q80
                        obtain rfl := k41_openM hM80
                        have hx80_0 : World.cell? _ ⟨go77, ((ji72) : Int).toNat * 11, none⟩ = some (.int .u64 ((rd_T41 y256 (ji72)).f0.f0)) := hcc80 0 _ rfl
                        have hx80_1 : World.cell? _ ⟨go77, ((ji72) : Int).toNat * 11 + 1, none⟩ = some (.int .u64 ((rd_T41 y256 (ji72)).f0.f1)) := hcc80 1 _ rfl
                        have hx80_2 : World.cell? _ ⟨go77, ((ji72) : Int).toNat * 11 + 2, none⟩ = some (.bool ((rd_T41 y256 (ji72)).f1.f0)) := hcc80 2 _ rfl
                        have hx80_3 : World.cell? _ ⟨go77, ((ji72) : Int).toNat * 11 + 3, none⟩ = some (.bool ((rd_T41 y256 (ji72)).f1.f1)) := hcc80 3 _ rfl
                        have hx80_4 : World.cell? _ ⟨go77, ((ji72) : Int).toNat * 11 + 4, none⟩ = some (.int .u64 ((rd_T41 y256 (ji72)).f1.f2.f0)) := hcc80 4 _ rfl
                        have hx80_5 : World.cell? _ ⟨go77, ((ji72) : Int).toNat * 11 + 5, none⟩ = some (.int .u64 ((rd_T41 y256 (ji72)).f1.f2.f1)) := hcc80 5 _ rfl
                        have hx80_6 : World.cell? _ ⟨go77, ((ji72) : Int).toNat * 11 + 6, none⟩ = some (.int .u64 ((rd_T41 y256 (ji72)).f1.f3.f0.f0)) := hcc80 6 _ rfl
                        have hx80_7 : World.cell? _ ⟨go77, ((ji72) : Int).toNat * 11 + 7, none⟩ = some (.int .u64 ((rd_T41 y256 (ji72)).f1.f3.f0.f1)) := hcc80 7 _ rfl
                        have hx80_8 : World.cell? _ ⟨go77, ((ji72) : Int).toNat * 11 + 8, none⟩ = some (.int .u64 ((rd_T41 y256 (ji72)).f1.f3.f1.f0)) := hcc80 8 _ rfl
                        have hx80_9 : World.cell? _ ⟨go77, ((ji72) : Int).toNat * 11 + 9, none⟩ = some (.int .u64 ((rd_T41 y256 (ji72)).f1.f3.f1.f1)) := hcc80 9 _ rfl
                        have hx80_10 : World.cell? _ ⟨go77, ((ji72) : Int).toNat * 11 + 10, none⟩ = some (.int .i64 ((rd_T41 y256 (ji72)).f1.f4)) := hcc80 10 _ rfl
                        have hf80_0 : World.frozen? _ ⟨go77, ((ji72) : Int).toNat * 11, none⟩ = false := hfr80 0
                        have hf80_1 : World.frozen? _ ⟨go77, ((ji72) : Int).toNat * 11 + 1, none⟩ = false := hfr80 1
                        have hf80_2 : World.frozen? _ ⟨go77, ((ji72) : Int).toNat * 11 + 2, none⟩ = false := hfr80 2
                        have hf80_3 : World.frozen? _ ⟨go77, ((ji72) : Int).toNat * 11 + 3, none⟩ = false := hfr80 3
                        have hf80_4 : World.frozen? _ ⟨go77, ((ji72) : Int).toNat * 11 + 4, none⟩ = false := hfr80 4
                        have hf80_5 : World.frozen? _ ⟨go77, ((ji72) : Int).toNat * 11 + 5, none⟩ = false := hfr80 5
                        have hf80_6 : World.frozen? _ ⟨go77, ((ji72) : Int).toNat * 11 + 6, none⟩ = false := hfr80 6
                        have hf80_7 : World.frozen? _ ⟨go77, ((ji72) : Int).toNat * 11 + 7, none⟩ = false := hfr80 7
                        have hf80_8 : World.frozen? _ ⟨go77, ((ji72) : Int).toNat * 11 + 8, none⟩ = false := hfr80 8
                        have hf80_9 : World.frozen? _ ⟨go77, ((ji72) : Int).toNat * 11 + 9, none⟩ = false := hfr80 9
                        have hf80_10 : World.frozen? _ ⟨go77, ((ji72) : Int).toNat * 11 + 10, none⟩ = false := hfr80 10
                        clear hcl80 hcc80 hfr80 hM80
                        replace p80 := eq_true p80
                        replace q80 := eq_true q80
                        obtain ⟨ce100, hcl100, hM100, hcc100, hfr100⟩ := Kd.R_elem HO254.out z41 ((ji72) : Int) (od_ (by first | (with_reducible assumption) | assumption)) (by have h_ : ((ji72) : Int) < ((y252.length : Int) : Int) := od_ (by first | (with_reducible assumption) | assumption); first | exact h_ | (have e_ := (Kd.R_reads' HO254.out).1; omega) | simpa using h_)
                        obtain rfl := k41_openM hM100
                        have HP100 := (Kd.R_seg HO254.out ((ji72) : Int) (od_ (by first | (with_reducible assumption) | assumption)) (by have h_ : ((ji72) : Int) < ((y252.length : Int) : Int) := od_ (by first | (with_reducible assumption) | assumption); first | exact h_ | (have e_ := (Kd.R_reads' HO254.out).1; omega) | simpa using h_) (seg := [.int .u64 ((rd_T41 l0_3 ji18).f0.f0), .int .u64 ((rd_T41 l0_3 ji18).f0.f1), .bool ((rd_T41 l0_3 ji18).f1.f0), .bool ((rd_T41 l0_3 ji18).f1.f1), .int .u64 ((rd_T41 l0_3 ji18).f1.f2.f0), .int .u64 ((rd_T41 l0_3 ji18).f1.f2.f1), .int .u64 ((rd_T41 l0_3 ji18).f1.f3.f0.f0), .int .u64 ((rd_T41 l0_3 ji18).f1.f3.f0.f1), .int .u64 ((rd_T41 l0_3 ji18).f1.f3.f1.f0), .int .u64 ((rd_T41 l0_3 ji18).f1.f3.f1.f1), .int .i64 ((rd_T41 l0_3 ji18).f1.f4)]) (j := 0) hcl100 hcc100 (show 11 ≤ 11 from by decide) (x' := (⟨(⟨(rd_T41 l0_3 ji18).f0.f0, (rd_T41 l0_3 ji18).f0.f1⟩ : S39), (⟨(rd_T41 l0_3 ji18).f1.f0, (rd_T41 l0_3 ji18).f1.f1, (⟨(rd_T41 l0_3 ji18).f1.f2.f0, (rd_T41 l0_3 ji18).f1.f2.f1⟩ : S25), (⟨(⟨(rd_T41 l0_3 ji18).f1.f3.f0.f0, (rd_T41 l0_3 ji18).f1.f3.f0.f1⟩ : S25), (⟨(rd_T41 l0_3 ji18).f1.f3.f1.f0, (rd_T41 l0_3 ji18).f1.f3.f1.f1⟩ : S25)⟩ : S27), (rd_T41 l0_3 ji18).f1.f4⟩ : S29)⟩ : S41)) (k41_mkM _ _ _ (⟨(⟨(rd_T41 l0_3 ji18).f0.f0, (rd_T41 l0_3 ji18).f0.f1⟩ : S39), (⟨(rd_T41 l0_3 ji18).f1.f0, (rd_T41 l0_3 ji18).f1.f1, (⟨(rd_T41 l0_3 ji18).f1.f2.f0, (rd_T41 l0_3 ji18).f1.f2.f1⟩ : S25), (⟨(⟨(rd_T41 l0_3 ji18).f1.f3.f0.f0, (rd_T41 l0_3 ji18).f1.f3.f0.f1⟩ : S25), (⟨(rd_T41 l0_3 ji18).f1.f3.f1.f0, (rd_T41 l0_3 ji18).f1.f3.f1.f1⟩ : S25)⟩ : S27), (rd_T41 l0_3 ji18).f1.f4⟩ : S29)⟩ : S41) ) (fun _ hk => hk)).1
                        rw [← Ny258.out] at HP100
                        have HQ100 := ak_ HP100
                        clear hcl100 hcc100 hfr100 hM100 HP100
                        refine start_ (n := 11) (S := fun w' => w'.cell? ⟨gb251, 0, none⟩ = some (.int .i64 a0_0) ∧ w'.cell? ⟨gb251, 1, none⟩ = some (.int .i64 a0_1) ∧ w'.cell? ⟨gb251, 2, none⟩ = some (.int .i64 a0_2) ∧ w'.cell? ⟨gb251, 3, none⟩ = some (.slice (some ⟨go77, 0, none⟩) y252.length co93) ∧ w'.cell? ⟨gb251, 4, none⟩ = some (.bool a0_4) ∧ w'.cell? ⟨gb251, 5, none⟩ = some (.bool a0_5) ∧ w'.cell? ⟨gb251, 6, none⟩ = some (.int .u64 a0_6) ∧ w'.cell? ⟨gb251, 7, none⟩ = some (.int .u64 a0_7) ∧ w'.cell? ⟨gb251, 8, none⟩ = some (.int .u64 a0_8) ∧ w'.cell? ⟨gb251, 9, none⟩ = some (.int .u64 a0_9) ∧ w'.cell? ⟨gb251, 10, none⟩ = some (.int .u64 a0_10) ∧ w'.cell? ⟨gb251, 11, none⟩ = some (.int .u64 a0_11) ∧ w'.cell? ⟨gb251, 12, none⟩ = some (.int .i64 a0_12) ∧ w'.cell? ⟨gb220, 0, none⟩ = some (.int .i64 a0_0) ∧ w'.cell? ⟨gb220, 1, none⟩ = some (.int .i64 a0_1) ∧ w'.cell? ⟨gb220, 2, none⟩ = some (.int .i64 a0_2) ∧ w'.cell? ⟨gb220, 3, none⟩ = some (.slice (some ad255) l0_3.length c0_3) ∧ w'.cell? ⟨gb220, 4, none⟩ = some (.bool a0_4) ∧ w'.cell? ⟨gb220, 5, none⟩ = some (.bool a0_5) ∧ w'.cell? ⟨gb220, 6, none⟩ = some (.int .u64 a0_6) ∧ w'.cell? ⟨gb220, 7, none⟩ = some (.int .u64 a0_7) ∧ w'.cell? ⟨gb220, 8, none⟩ = some (.int .u64 a0_8) ∧ w'.cell? ⟨gb220, 9, none⟩ = some (.int .u64 a0_9) ∧ w'.cell? ⟨gb220, 10, none⟩ = some (.int .u64 a0_10) ∧ w'.cell? ⟨gb220, 11, none⟩ = some (.int .u64 a0_11) ∧ w'.cell? ⟨gb220, 12, none⟩ = some (.int .i64 a0_12) ∧ w'.cell? (ad255.add ((ji18).toNat * 11)) = some (.int .u64 ((rd_T41 l0_3 ji18).f0.f0)) ∧ w'.cell? ⟨(ad255.add ((ji18).toNat * 11)).block, (ad255.add ((ji18).toNat * 11)).off + 1, none⟩ = some (.int .u64 ((rd_T41 l0_3 ji18).f0.f1)) ∧ w'.cell? ⟨(ad255.add ((ji18).toNat * 11)).block, (ad255.add ((ji18).toNat * 11)).off + 2, none⟩ = some (.bool ((rd_T41 l0_3 ji18).f1.f0)) ∧ w'.cell? ⟨(ad255.add ((ji18).toNat * 11)).block, (ad255.add ((ji18).toNat * 11)).off + 3, none⟩ = some (.bool ((rd_T41 l0_3 ji18).f1.f1)) ∧ w'.cell? ⟨(ad255.add ((ji18).toNat * 11)).block, (ad255.add ((ji18).toNat * 11)).off + 4, none⟩ = some (.int .u64 ((rd_T41 l0_3 ji18).f1.f2.f0)) ∧ w'.cell? ⟨(ad255.add ((ji18).toNat * 11)).block, (ad255.add ((ji18).toNat * 11)).off + 5, none⟩ = some (.int .u64 ((rd_T41 l0_3 ji18).f1.f2.f1)) ∧ w'.cell? ⟨(ad255.add ((ji18).toNat * 11)).block, (ad255.add ((ji18).toNat * 11)).off + 6, none⟩ = some (.int .u64 ((rd_T41 l0_3 ji18).f1.f3.f0.f0)) ∧ w'.cell? ⟨(ad255.add ((ji18).toNat * 11)).block, (ad255.add ((ji18).toNat * 11)).off + 7, none⟩ = some (.int .u64 ((rd_T41 l0_3 ji18).f1.f3.f0.f1)) ∧ w'.cell? ⟨(ad255.add ((ji18).toNat * 11)).block, (ad255.add ((ji18).toNat * 11)).off + 8, none⟩ = some (.int .u64 ((rd_T41 l0_3 ji18).f1.f3.f1.f0)) ∧ w'.cell? ⟨(ad255.add ((ji18).toNat * 11)).block, (ad255.add ((ji18).toNat * 11)).off + 9, none⟩ = some (.int .u64 ((rd_T41 l0_3 ji18).f1.f3.f1.f1)) ∧ w'.cell? ⟨(ad255.add ((ji18).toNat * 11)).block, (ad255.add ((ji18).toNat * 11)).off + 10, none⟩ = some (.int .i64 ((rd_T41 l0_3 ji18).f1.f4))) (ds := [10]) #[false, false, false, false, false, false, false, false, false, false, false] (by kernel_rfl) rfl rfl ⟨(kc_ BK251.out 0).trans rfl, (kc_ BK251.out 1).trans rfl, (kc_ BK251.out 2).trans rfl, (kc_ BK251.out 3).trans rfl, (kc_ BK251.out 4).trans rfl, (kc_ BK251.out 5).trans rfl, (kc_ BK251.out 6).trans rfl, (kc_ BK251.out 7).trans rfl, (kc_ BK251.out 8).trans rfl, (kc_ BK251.out 9).trans rfl, (kc_ BK251.out 10).trans rfl, (kc_ BK251.out 11).trans rfl, (kc_ BK251.out 12).trans rfl, (kc_ BK220.out 0).trans rfl, (kc_ BK220.out 1).trans rfl, (kc_ BK220.out 2).trans rfl, (kc_ BK220.out 3).trans rfl, (kc_ BK220.out 4).trans rfl, (kc_ BK220.out 5).trans rfl, (kc_ BK220.out 6).trans rfl, (kc_ BK220.out 7).trans rfl, (kc_ BK220.out 8).trans rfl, (kc_ BK220.out 9).trans rfl, (kc_ BK220.out 10).trans rfl, (kc_ BK220.out 11).trans rfl, (kc_ BK220.out 12).trans rfl, ((HB.out.cell (World.block_lt_of_cell? w _ hw257_0)).trans hw257_0), ((HB.out.cell (World.block_lt_of_cell? w _ hw257_1)).trans hw257_1), ((HB.out.cell (World.block_lt_of_cell? w _ hw257_2)).trans hw257_2), ((HB.out.cell (World.block_lt_of_cell? w _ hw257_3)).trans hw257_3), ((HB.out.cell (World.block_lt_of_cell? w _ hw257_4)).trans hw257_4), ((HB.out.cell (World.block_lt_of_cell? w _ hw257_5)).trans hw257_5), ((HB.out.cell (World.block_lt_of_cell? w _ hw257_6)).trans hw257_6), ((HB.out.cell (World.block_lt_of_cell? w _ hw257_7)).trans hw257_7), ((HB.out.cell (World.block_lt_of_cell? w _ hw257_8)).trans hw257_8), ((HB.out.cell (World.block_lt_of_cell? w _ hw257_9)).trans hw257_9), ((HB.out.cell (World.block_lt_of_cell? w _ hw257_10)).trans hw257_10)⟩ (fun hHeld => ?_); refine with_tabW medlarlaw16_HeadParts.tab19 medlarlaw16_HeadParts.bits19 (fun HT_ HW_ => ?_)
                        generalize w98.drew = w99 at HO_224003 HO254 BK220 BK223 BK238 BK251 HB HQ100 HQ97 hf80_0 hf80_1 hf80_10 hf80_2 hf80_3 hf80_4 hf80_5 hf80_6 hf80_7 hf80_8 hf80_9 hx257_0 hx257_1 hx257_10 hx257_2 hx257_3 hx257_4 hx257_5 hx257_6 hx257_7 hx257_8 hx257_9 hx80_0 hx80_1 hx80_10 hx80_2 hx80_3 hx80_4 hx80_5 hx80_6 hx80_7 hx80_8 hx80_9 hHeld ⊢
                        refine pure_ (i := 0) (N := some 134) (v := ?_) (a' := ?_) #[true, false, false, false, false, false, false, false, false, false, false] rfl rfl (any_of HT_.out (by kernel_rfl)) (fun _ _ _ h => h) (Or.inl ⟨by rfl, ?_⟩) ?_ ?_; rotate_left; (intro w'; go_simp; with_reducible rfl); rotate_left; (simp only [Act.put, setIfInBounds_toArray, set_cons_zero, set_cons_succ, i64_w, i32_w]; rfl)
                        refine pure_ (i := 2) (N := some 136) (v := ?_) (a' := ?_) #[true, false, true, false, false, false, false, false, false, false, false] rfl rfl (any_of HT_.out (by kernel_rfl)) (fun _ _ _ h => h) (Or.inl ⟨by rfl, ?_⟩) ?_ ?_; rotate_left; (intro w'; go_simp; with_reducible rfl); rotate_left; (simp only [Act.put, setIfInBounds_toArray, set_cons_zero, set_cons_succ, i64_w, i32_w]; rfl)
                        refine pure_ (i := 3) (N := some 137) (v := ?_) (a' := ?_) #[true, false, true, true, false, false, false, false, false, false, false] rfl rfl (any_of HT_.out (by kernel_rfl)) (fun _ _ _ h => h) (Or.inl ⟨by rfl, ?_⟩) ?_ ?_; rotate_left; (intro w'; go_simp; with_reducible rfl); rotate_left; (simp only [Act.put, setIfInBounds_toArray, set_cons_zero, set_cons_succ, i64_w, i32_w]; rfl)
                        refine pure_ (i := 4) (N := some 138) (v := ?_) (a' := ?_) #[true, false, true, true, true, false, false, false, false, false, false] rfl rfl (any_of HT_.out (by kernel_rfl)) (fun _ _ _ h => h) (Or.inl ⟨by rfl, ?_⟩) ?_ ?_; rotate_left; (intro w'; go_simp; with_reducible rfl); rotate_left; (simp only [Act.put, setIfInBounds_toArray, set_cons_zero, set_cons_succ, i64_w, i32_w]; rfl)
                        refine pure_ (i := 6) (N := some 140) (v := ?_) (a' := ?_) #[true, false, true, true, true, false, true, false, false, false, false] rfl rfl (any_of HT_.out (by kernel_rfl)) (fun _ _ _ h => h) (Or.inl ⟨by rfl, ?_⟩) ?_ ?_; rotate_left; (intro w'; go_simp; with_reducible rfl); rotate_left; (simp only [Act.put, setIfInBounds_toArray, set_cons_zero, set_cons_succ, i64_w, i32_w]; rfl)
                        refine take_ (i := 1) (N := some 135) (v := ?_) (a' := ?_) #[true, true, true, true, true, false, true, false, false, false, false] rfl rfl (take_ofW HT_.out HW_.out (by kernel_rfl)) (fun _ _ _ h => h) (Or.inl ⟨by rfl, ?_⟩) hHeld ?_ ?_
                        rotate_left
                        ·rintro w' ⟨s0, s1, s2, s3, s4, s5, s6, s7, s8, s9, s10, s11, s12, s13, s14, s15, s16, s17, s18, s19, s20, s21, s22, s23, s24, s25, s26, s27, s28, s29, s30, s31, s32, s33, s34, s35, s36⟩
                         go_simp
                         with_reducible rfl
                        rotate_left
                        ·simp only [Act.put, setIfInBounds_toArray, set_cons_zero, set_cons_succ, i64_w, i32_w]
                         rfl
                        refine take_ (i := 5) (N := some 139) (v := ?_) (a' := ?_) #[true, true, true, true, true, true, true, false, false, false, false] rfl rfl (take_ofW HT_.out HW_.out (by kernel_rfl)) (fun _ _ _ h => h) (Or.inl ⟨by rfl, ?_⟩) hHeld ?_ ?_
                        rotate_left
                        ·rintro w' ⟨s0, s1, s2, s3, s4, s5, s6, s7, s8, s9, s10, s11, s12, s13, s14, s15, s16, s17, s18, s19, s20, s21, s22, s23, s24, s25, s26, s27, s28, s29, s30, s31, s32, s33, s34, s35, s36⟩
                         go_simp
                         with_reducible rfl
                        rotate_left
                        ·simp only [Act.put, setIfInBounds_toArray, set_cons_zero, set_cons_succ, i64_w, i32_w]
                         rfl
                        refine pure_ (i := 7) (N := some 141) (v := ?_) (a' := ?_) #[true, true, true, true, true, true, true, true, false, false, false] rfl rfl (any_of HT_.out (by kernel_rfl)) (fun _ _ _ h => h) (Or.inl ⟨by rfl, ?_⟩) ?_ ?_; rotate_left; (intro w'; go_simp; with_reducible rfl); rotate_left; (simp only [Act.put, setIfInBounds_toArray, set_cons_zero, set_cons_succ, i64_w, i32_w]; rfl)
                        refine take_ (i := 8) (N := some 142) (v := ?_) (a' := ?_) #[true, true, true, true, true, true, true, true, true, false, false] rfl rfl (take_ofW HT_.out HW_.out (by kernel_rfl)) (fun _ _ _ h => h) (Or.inl ⟨by rfl, ?_⟩) hHeld ?_ ?_
                        rotate_left
                        ·rintro w' ⟨s0, s1, s2, s3, s4, s5, s6, s7, s8, s9, s10, s11, s12, s13, s14, s15, s16, s17, s18, s19, s20, s21, s22, s23, s24, s25, s26, s27, s28, s29, s30, s31, s32, s33, s34, s35, s36⟩
                         go_simp
                         with_reducible rfl
                        rotate_left
                        ·simp only [Act.put, setIfInBounds_toArray, set_cons_zero, set_cons_succ, i64_w, i32_w]
                         rfl
                        refine pure_ (i := 9) (N := some 143) (v := ?_) (a' := ?_) #[true, true, true, true, true, true, true, true, true, true, false] rfl rfl (any_of HT_.out (by kernel_rfl)) (fun _ _ _ h => h) (Or.inl ⟨by rfl, ?_⟩) ?_ ?_; rotate_left; (intro w'; go_simp; with_reducible rfl); rotate_left; (simp only [Act.put, setIfInBounds_toArray, set_cons_zero, set_cons_succ, i64_w, i32_w]; rfl)
                        refine last_ (i := 10) (N := none) #[true, true, true, true, true, true, true, true, true, true, true] rfl rfl (one_of HT_.out (by kernel_rfl)) (by decide) (fun K hK => ?_)
                        refine skip_ (w1 := ?_) (by rfl) rfl ?_ ?_
                        rotate_left
                        ·go_simp
                         rfl
                        refine hK.out _ _ ?_
                        clear hK K
                        refine done_ (done_of HT_.out (by kernel_rfl)) ?_
                        have hcz101_0 : w99.cell? ⟨gb251, 0, none⟩ = some (.int .i64 a0_0) := (kc_ BK251.out 0).trans rfl
                        have hcz101_1 : w99.cell? ⟨gb251, 1, none⟩ = some (.int .i64 a0_1) := (kc_ BK251.out 1).trans rfl
                        have hcz101_2 : w99.cell? ⟨gb251, 2, none⟩ = some (.int .i64 a0_2) := (kc_ BK251.out 2).trans rfl
                        have hcz101_3 : w99.cell? ⟨gb251, 3, none⟩ = some (.slice (some ⟨go77, 0, none⟩) y252.length co93) := (kc_ BK251.out 3).trans rfl
                        have hcz101_4 : w99.cell? ⟨gb251, 4, none⟩ = some (.bool a0_4) := (kc_ BK251.out 4).trans rfl
                        have hcz101_5 : w99.cell? ⟨gb251, 5, none⟩ = some (.bool a0_5) := (kc_ BK251.out 5).trans rfl
                        have hcz101_6 : w99.cell? ⟨gb251, 6, none⟩ = some (.int .u64 a0_6) := (kc_ BK251.out 6).trans rfl
                        have hcz101_7 : w99.cell? ⟨gb251, 7, none⟩ = some (.int .u64 a0_7) := (kc_ BK251.out 7).trans rfl
                        have hcz101_8 : w99.cell? ⟨gb251, 8, none⟩ = some (.int .u64 a0_8) := (kc_ BK251.out 8).trans rfl
                        have hcz101_9 : w99.cell? ⟨gb251, 9, none⟩ = some (.int .u64 a0_9) := (kc_ BK251.out 9).trans rfl
                        have hcz101_10 : w99.cell? ⟨gb251, 10, none⟩ = some (.int .u64 a0_10) := (kc_ BK251.out 10).trans rfl
                        have hcz101_11 : w99.cell? ⟨gb251, 11, none⟩ = some (.int .u64 a0_11) := (kc_ BK251.out 11).trans rfl
                        have hcz101_12 : w99.cell? ⟨gb251, 12, none⟩ = some (.int .i64 a0_12) := (kc_ BK251.out 12).trans rfl
                        have hfz101_0 := kf_ BK251.out 0
                        have hfz101_1 := kf_ BK251.out 1
                        have hfz101_2 := kf_ BK251.out 2
                        have hfz101_3 := kf_ BK251.out 3
                        have hfz101_4 := kf_ BK251.out 4
                        have hfz101_5 := kf_ BK251.out 5
                        have hfz101_6 := kf_ BK251.out 6
                        have hfz101_7 := kf_ BK251.out 7
                        have hfz101_8 := kf_ BK251.out 8
                        have hfz101_9 := kf_ BK251.out 9
                        have hfz101_10 := kf_ BK251.out 10
                        have hfz101_11 := kf_ BK251.out 11
                        have hfz101_12 := kf_ BK251.out 12
                        have hng1_ : gb251 ≠ go77 := fun e_ => Kd.R_ne HO254.out BK251.out (by decide) (by rw [e_]; rfl)
                        have hng2_ := Ne.symm hng1_
                        try go_wp2_with (first | (go_at_call 16; refine calls_of_args (args' := #[.agg #[.int .i64 a0_0, .int .i64 a0_1, .int .i64 a0_2, .slice (some ⟨go77, 0, none⟩) y258.length co93, .bool a0_4, .bool a0_5, .int .u64 a0_6, .int .u64 a0_7, .int .u64 a0_8, .int .u64 a0_9, .int .u64 a0_10, .int .u64 a0_11, .int .i64 a0_12]]) (by first | (rw [show y258.length = y252.length from (Kd.R_reads' HQ100.out).1.symm] <;> rfl) | rfl) ?_; (with_reducible refine (head_Check.calls kj28 a0_0 a0_1 a0_2 _ _ y258 a0_4 a0_5 a0_6 a0_7 a0_8 a0_9 a0_10 a0_11 a0_12 t259 _ ?side1 ?side2 A82.out).mono ?_); (case side1 => refine (Kd.R_reads' (e := 41) (base := w.heap.size) (ok := fun k_ => some k_ ≠ (.slice Ao41 y235.length co41 : Value).ownBlock) (n := y252.length) (c := co93) ?_).2.2; exact (by (with_reducible repeat (first | apply Kd.R_alloc | apply Kd.R_drewN | apply Kd.R_drew)); exact HQ100.out)); (case side2 => rw [show y258.length = y252.length from (Kd.R_reads' HQ100.out).1.symm]; exact (Kd.R_reads' HO254.out).2.1); rintro e w102 ⟨rfl, hb⟩; have n6_ := ak_ (bt_ (by repeat (first | (with_reducible first | exact HB.out | apply ba_ | apply bn_ | apply bd_ | refine below_set ?_ GB77.out | refine below_set ?_ GB77.out | refine below_set ?_ GB77.out | refine below_set ?_ GB77.out | refine below_set ?_ GB77.out | refine below_set ?_ GB77.out | refine below_set ?_ GB77.out | refine below_set ?_ GB77.out | refine below_set ?_ GB77.out | refine below_set ?_ GB77.out | refine below_set ?_ GB77.out | refine below_set ?_ GE220.out | refine below_set ?_ GE223.out | refine below_set ?_ GE238.out | refine below_set ?_ GE251.out) | exact HB.out)) hb); clear HB; have HB := n6_; clear n6_ hb))
                        go_ret
                        exact ⟨by first | rfl | (simp <;> rfl) | (simp only [← hji18, ← hji22, ← hji72]; first | rfl | (simp <;> rfl)) | (simp [*] <;> rfl), by repeat (first | (with_reducible first | exact HB.out | apply ba_ | apply bn_ | apply bd_ | refine below_set ?_ GE220.out | refine below_set ?_ GE223.out | refine below_set ?_ GE238.out | refine below_set ?_ GE251.out) | exact HB.out)⟩
                       ·replace c81 := Bool.eq_false_iff.mpr c81
                        subst c81
                        have H1 : (some false) = some r := by rw [if_neg (show ¬ (false = true) by decide)] at H; exact H
                        clear H
                        have H := H1
                        clear H1
                        exact absurd ((Option.some.inj H).trans hT.out) Bool.false_ne_true
                      ·rw [if_neg c79] at H
                       exact absurd H (by simp)
                     ·rw [if_neg c78] at H
                      exact absurd H (by simp)
                    ·rw [if_neg c76] at H
                     exact absurd H (by simp)
                   ·rw [if_neg c75] at H
                    exact absurd H (by simp)
                  ·rw [if_neg c74] at H
                   exact absurd H (by simp)
                 ·rw [if_neg c73] at H
                  exact absurd H (by simp)
                ·rw [if_neg c71] at H
                 exact absurd H (by simp)
           ·rw [if_neg c25] at H
            exact absurd H (by simp)
          ·rw [if_neg c24] at H
           exact absurd H (by simp)
         ·rw [if_neg c23] at H
          exact absurd H (by simp)
        ·rw [if_neg c21] at H
         exact absurd H (by simp)
       ·rw [if_neg c20] at H
        exact absurd H (by simp)
      ·rw [if_neg c19] at H
       exact absurd H (by simp)

end Go.Proofs.Ytoljdfgkkkpnbaa.MP
