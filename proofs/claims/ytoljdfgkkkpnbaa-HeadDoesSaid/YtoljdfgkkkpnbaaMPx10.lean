-- written by a program of this session (wip/tools/mprint.sh) for this seat
import Derived.Test.YtoljdfgkkkpnbaaMPx0
import Derived.Test.YtoljdfgkkkpnbaaMPx3
import Derived.Test.YtoljdfgkkkpnbaaMPx4
import Derived.Test.YtoljdfgkkkpnbaaMPx5
import Derived.Test.YtoljdfgkkkpnbaaMPx6
import Derived.Test.YtoljdfgkkkpnbaaMPx7
import Derived.Test.YtoljdfgkkkpnbaaMPx8
import Derived.Test.YtoljdfgkkkpnbaaMPx9
namespace Go.Proofs.Ytoljdfgkkkpnbaa.MP
open Go.RowKit Go.Proofs.YtoljdfgkkkpnbaaW.PrintWords Go.Proofs.YtoljdfgkkkpnbaaW.PrintLast Go.Proofs.YtoljdfgkkkpnbaaW.PrintMore
open Option (bind_eq_some_iff some.injEq)
open _root_.Go.Proofs.Try
open List (setIfInBounds_toArray set_cons_zero set_cons_succ map_toArray map_cons map_nil length_drop length_take)
attribute [local go_sem] max2_int min2_int max_two min_two max_three min_three max_four min_four
set_option linter.unusedVariables false
set_option linter.unusedSimpArgs false
def bA10 (k n : Nat) : Array Bool := (Array.range n).map fun i => decide (i < k)
mutual
def medlarlaw16_HeadDoes.j0 : Nat → List Int → Int → Bool → Bool → Int → Int → Int → List (S41) → Bool → Bool → Int → Int → Int → Int → Int → Int → Int → Int → Int → Int → List (S41) → Bool → Bool → Int → Int → Int → Int → Int → Int → Int → Option (Bool)
  | 0, _, _, _, _, _, _, _, _, _, _, _, _, _, _, _, _, _, _, _, _, _, _, _, _, _, _, _, _, _, _ => none
  | k + 1, x2, x3, x9, x50, x417000, x417001, x417002, x417003, x417004, x417005, x417006, x417007, x417008, x417009, x417010, x417011, x417012, x418000, x418001, x418002, x418003, x418004, x418005, x418006, x418007, x418008, x418009, x418010, x418011, x418012 => if x50 = true then (some x9) else ((head_Bytes.f k x417000 x417001 x417002 x417003 x417004 x417005 x417006 x417007 x417008 x417009 x417010 x417011 x417012).bind fun bt419 => ((medlarref16_Bytes.f k x417000 x417001 x417002 x417003 x417004 x417005 x417006 x417007 x417008 x417009 x417010 x417011 x417012).bind fun bt423 => ((head_From.f k x2).bind fun bt427 => ((medlarref16_From.f k x2).bind fun bt444 => ((head_Length.f x3).bind fun bt461 => ((medlarref16_Length.f x3).bind fun bt463 => ((medlarref16_SameBytes.f bt419.1 bt423.1).bind fun t465 => (if t465 = true then (if bt419.2 = bt423.2 then ((medlarref16_Same.f k bt427.1 bt427.2.1 bt427.2.2.1 bt427.2.2.2.1 bt427.2.2.2.2.1 bt427.2.2.2.2.2.1 bt427.2.2.2.2.2.2.1 bt427.2.2.2.2.2.2.2.1 bt427.2.2.2.2.2.2.2.2.1 bt427.2.2.2.2.2.2.2.2.2.1 bt427.2.2.2.2.2.2.2.2.2.2.1 bt427.2.2.2.2.2.2.2.2.2.2.2.1 bt427.2.2.2.2.2.2.2.2.2.2.2.2.1 bt444.1 bt444.2.1 bt444.2.2.1 bt444.2.2.2.1 bt444.2.2.2.2.1 bt444.2.2.2.2.2.1 bt444.2.2.2.2.2.2.1 bt444.2.2.2.2.2.2.2.1 bt444.2.2.2.2.2.2.2.2.1 bt444.2.2.2.2.2.2.2.2.2.1 bt444.2.2.2.2.2.2.2.2.2.2.1 bt444.2.2.2.2.2.2.2.2.2.2.2.1 bt444.2.2.2.2.2.2.2.2.2.2.2.2.1).bind fun t466 => (if t466 = true then (if bt427.2.2.2.2.2.2.2.2.2.2.2.2.2 = bt444.2.2.2.2.2.2.2.2.2.2.2.2.2 then (if bt461.1 = bt463.1 then (if bt461.2 = bt463.2 then ((head_Check.f k x417000 x417001 x417002 x417003 x417004 x417005 x417006 x417007 x417008 x417009 x417010 x417011 x417012).bind fun t467 => ((medlarref16_Check.f k x417000 x417001 x417002 x417003 x417004 x417005 x417006 x417007 x417008 x417009 x417010 x417011 x417012).bind fun t468 => (if t467 = t468 then ((head_Same.f k x417000 x417001 x417002 x417003 x417004 x417005 x417006 x417007 x417008 x417009 x417010 x417011 x417012 x418000 x418001 x418002 x418003 x418004 x418005 x418006 x418007 x418008 x418009 x418010 x418011 x418012).bind fun t469 => ((medlarref16_Same.f k x417000 x417001 x417002 x417003 x417004 x417005 x417006 x417007 x417008 x417009 x417010 x417011 x417012 x418000 x418001 x418002 x418003 x418004 x418005 x418006 x418007 x418008 x418009 x418010 x418011 x418012).bind fun t470 => (medlarlaw16_HeadDoes.j1 k x2 x9 (strOfNums x2) (t469 == t470) bt427.1 bt427.2.1 bt427.2.2.1 bt427.2.2.2.1 bt427.2.2.2.2.1 bt427.2.2.2.2.2.1 bt427.2.2.2.2.2.2.1 bt427.2.2.2.2.2.2.2.1 bt427.2.2.2.2.2.2.2.2.1 bt427.2.2.2.2.2.2.2.2.2.1 bt427.2.2.2.2.2.2.2.2.2.2.1 bt427.2.2.2.2.2.2.2.2.2.2.2.1 bt427.2.2.2.2.2.2.2.2.2.2.2.2.1))) else (medlarlaw16_HeadDoes.j1 k x2 x9 (strOfNums x2) false bt427.1 bt427.2.1 bt427.2.2.1 bt427.2.2.2.1 bt427.2.2.2.2.1 bt427.2.2.2.2.2.1 bt427.2.2.2.2.2.2.1 bt427.2.2.2.2.2.2.2.1 bt427.2.2.2.2.2.2.2.2.1 bt427.2.2.2.2.2.2.2.2.2.1 bt427.2.2.2.2.2.2.2.2.2.2.1 bt427.2.2.2.2.2.2.2.2.2.2.2.1 bt427.2.2.2.2.2.2.2.2.2.2.2.2.1)))) else (medlarlaw16_HeadDoes.j1 k x2 x9 (strOfNums x2) false bt427.1 bt427.2.1 bt427.2.2.1 bt427.2.2.2.1 bt427.2.2.2.2.1 bt427.2.2.2.2.2.1 bt427.2.2.2.2.2.2.1 bt427.2.2.2.2.2.2.2.1 bt427.2.2.2.2.2.2.2.2.1 bt427.2.2.2.2.2.2.2.2.2.1 bt427.2.2.2.2.2.2.2.2.2.2.1 bt427.2.2.2.2.2.2.2.2.2.2.2.1 bt427.2.2.2.2.2.2.2.2.2.2.2.2.1)) else (medlarlaw16_HeadDoes.j1 k x2 x9 (strOfNums x2) false bt427.1 bt427.2.1 bt427.2.2.1 bt427.2.2.2.1 bt427.2.2.2.2.1 bt427.2.2.2.2.2.1 bt427.2.2.2.2.2.2.1 bt427.2.2.2.2.2.2.2.1 bt427.2.2.2.2.2.2.2.2.1 bt427.2.2.2.2.2.2.2.2.2.1 bt427.2.2.2.2.2.2.2.2.2.2.1 bt427.2.2.2.2.2.2.2.2.2.2.2.1 bt427.2.2.2.2.2.2.2.2.2.2.2.2.1)) else (medlarlaw16_HeadDoes.j1 k x2 x9 (strOfNums x2) false bt427.1 bt427.2.1 bt427.2.2.1 bt427.2.2.2.1 bt427.2.2.2.2.1 bt427.2.2.2.2.2.1 bt427.2.2.2.2.2.2.1 bt427.2.2.2.2.2.2.2.1 bt427.2.2.2.2.2.2.2.2.1 bt427.2.2.2.2.2.2.2.2.2.1 bt427.2.2.2.2.2.2.2.2.2.2.1 bt427.2.2.2.2.2.2.2.2.2.2.2.1 bt427.2.2.2.2.2.2.2.2.2.2.2.2.1)) else (medlarlaw16_HeadDoes.j1 k x2 x9 (strOfNums x2) false bt427.1 bt427.2.1 bt427.2.2.1 bt427.2.2.2.1 bt427.2.2.2.2.1 bt427.2.2.2.2.2.1 bt427.2.2.2.2.2.2.1 bt427.2.2.2.2.2.2.2.1 bt427.2.2.2.2.2.2.2.2.1 bt427.2.2.2.2.2.2.2.2.2.1 bt427.2.2.2.2.2.2.2.2.2.2.1 bt427.2.2.2.2.2.2.2.2.2.2.2.1 bt427.2.2.2.2.2.2.2.2.2.2.2.2.1))) else (medlarlaw16_HeadDoes.j1 k x2 x9 (strOfNums x2) false bt427.1 bt427.2.1 bt427.2.2.1 bt427.2.2.2.1 bt427.2.2.2.2.1 bt427.2.2.2.2.2.1 bt427.2.2.2.2.2.2.1 bt427.2.2.2.2.2.2.2.1 bt427.2.2.2.2.2.2.2.2.1 bt427.2.2.2.2.2.2.2.2.2.1 bt427.2.2.2.2.2.2.2.2.2.2.1 bt427.2.2.2.2.2.2.2.2.2.2.2.1 bt427.2.2.2.2.2.2.2.2.2.2.2.2.1)) else (medlarlaw16_HeadDoes.j1 k x2 x9 (strOfNums x2) false bt427.1 bt427.2.1 bt427.2.2.1 bt427.2.2.2.1 bt427.2.2.2.2.1 bt427.2.2.2.2.2.1 bt427.2.2.2.2.2.2.1 bt427.2.2.2.2.2.2.2.1 bt427.2.2.2.2.2.2.2.2.1 bt427.2.2.2.2.2.2.2.2.2.1 bt427.2.2.2.2.2.2.2.2.2.2.1 bt427.2.2.2.2.2.2.2.2.2.2.2.1 bt427.2.2.2.2.2.2.2.2.2.2.2.2.1)))))))))
def medlarlaw16_HeadDoes.j1 : Nat → List Int → Bool → ByteArray → Bool → Int → Int → Int → List (S41) → Bool → Bool → Int → Int → Int → Int → Int → Int → Int → Option (Bool)
  | 0, _, _, _, _, _, _, _, _, _, _, _, _, _, _, _, _, _ => none
  | k + 1, x2, x9, x10, x23, x444000, x444001, x444002, x444003, x444004, x444005, x444006, x444007, x444008, x444009, x444010, x444011, x444012 => medlarlaw16_HeadDoes.l0 k x2 x9 x10 x23 (x444003.length : Int) 0 x444000 x444001 x444002 x444003 x444004 x444005 x444006 x444007 x444008 x444009 x444010 x444011 x444012
def medlarlaw16_HeadDoes.l0 : Nat → List Int → Bool → ByteArray → Bool → Int → Int → Int → Int → Int → List (S41) → Bool → Bool → Int → Int → Int → Int → Int → Int → Int → Option (Bool)
  | 0, _, _, _, _, _, _, _, _, _, _, _, _, _, _, _, _, _, _, _ => none
  | k + 1, x2, x9, x10, x23, x130, x131, x444000, x444001, x444002, x444003, x444004, x444005, x444006, x444007, x444008, x444009, x444010, x444011, x444012 => if x131 < x130 then (if 0 ≤ x131 then (if x131 < (x444003.length : Int) then (medlarlaw16_HeadDoes.l0 k x2 x9 x10 x23 x130 (wrap64 (x131 + 1)) x444000 x444001 x444002 (x444003.set (x131 : Int).toNat (⟨(⟨IntKind.u64.wrap (((rd_T41 x444003 x131).f0.f0) + 1), (rd_T41 x444003 x131).f0.f1⟩ : S39), (⟨(rd_T41 x444003 x131).f1.f0, (rd_T41 x444003 x131).f1.f1, (⟨(rd_T41 x444003 x131).f1.f2.f0, (rd_T41 x444003 x131).f1.f2.f1⟩ : S25), (⟨(⟨(rd_T41 x444003 x131).f1.f3.f0.f0, (rd_T41 x444003 x131).f1.f3.f0.f1⟩ : S25), (⟨(rd_T41 x444003 x131).f1.f3.f1.f0, (rd_T41 x444003 x131).f1.f3.f1.f1⟩ : S25)⟩ : S27), (rd_T41 x444003 x131).f1.f4⟩ : S29)⟩ : S41)) x444004 x444005 x444006 x444007 x444008 x444009 x444010 x444011 x444012) else (none)) else (none)) else (if x9 = true then (if x23 = true then (some ((strOfNums x2).toList == x10.toList)) else (some false)) else (some false))
end
def medlarlaw16_HeadDoes.f (k : Nat) (a0_0 : Int) (a0_1 : Int) (a0_2 : Int) (l0_3 : List (S41)) (a0_4 : Bool) (a0_5 : Bool) (a0_6 : Int) (a0_7 : Int) (a0_8 : Int) (a0_9 : Int) (a0_10 : Int) (a0_11 : Int) (a0_12 : Int) (a1_0 : Int) (a1_1 : Int) (a1_2 : Int) (l1_3 : List (S41)) (a1_4 : Bool) (a1_5 : Bool) (a1_6 : Int) (a1_7 : Int) (a1_8 : Int) (a1_9 : Int) (a1_10 : Int) (a1_11 : Int) (a1_12 : Int) (l2 : List Int) (a3 : Int) : Option (Bool) := (medlarlaw16_live.f k).bind fun t418 => (if (l0_3.length : Int) > 200 then (medlarlaw16_HeadDoes.j0 k l2 a3 t418 true a0_0 a0_1 a0_2 l0_3 a0_4 a0_5 a0_6 a0_7 a0_8 a0_9 a0_10 a0_11 a0_12 a1_0 a1_1 a1_2 l1_3 a1_4 a1_5 a1_6 a1_7 a1_8 a1_9 a1_10 a1_11 a1_12) else (if (l1_3.length : Int) > 200 then (medlarlaw16_HeadDoes.j0 k l2 a3 t418 true a0_0 a0_1 a0_2 l0_3 a0_4 a0_5 a0_6 a0_7 a0_8 a0_9 a0_10 a0_11 a0_12 a1_0 a1_1 a1_2 l1_3 a1_4 a1_5 a1_6 a1_7 a1_8 a1_9 a1_10 a1_11 a1_12) else (if (l2.length : Int) > 9000 then (if (l2.length : Int) ≤ 2097152 then (medlarlaw16_HeadDoes.j0 k l2 a3 t418 true a0_0 a0_1 a0_2 l0_3 a0_4 a0_5 a0_6 a0_7 a0_8 a0_9 a0_10 a0_11 a0_12 a1_0 a1_1 a1_2 l1_3 a1_4 a1_5 a1_6 a1_7 a1_8 a1_9 a1_10 a1_11 a1_12) else (medlarlaw16_HeadDoes.j0 k l2 a3 t418 (decide ((l2.length : Int) > 2097157)) a0_0 a0_1 a0_2 l0_3 a0_4 a0_5 a0_6 a0_7 a0_8 a0_9 a0_10 a0_11 a0_12 a1_0 a1_1 a1_2 l1_3 a1_4 a1_5 a1_6 a1_7 a1_8 a1_9 a1_10 a1_11 a1_12)) else (medlarlaw16_HeadDoes.j0 k l2 a3 t418 (decide ((l2.length : Int) > 2097157)) a0_0 a0_1 a0_2 l0_3 a0_4 a0_5 a0_6 a0_7 a0_8 a0_9 a0_10 a0_11 a0_12 a1_0 a1_1 a1_2 l1_3 a1_4 a1_5 a1_6 a1_7 a1_8 a1_9 a1_10 a1_11 a1_12))))
theorem medlarlaw16_HeadDoes.mono_l : ∀ k, (∀ y0 y1 y2 y3 y4 y5 y6 y7 y8 y9 y10 y11 y12 y13 y14 y15 y16 y17 y18 y19 y20 y21 y22 y23 y24 y25 y26 y27 y28 y29, LeO (medlarlaw16_HeadDoes.j0 k y0 y1 y2 y3 y4 y5 y6 y7 y8 y9 y10 y11 y12 y13 y14 y15 y16 y17 y18 y19 y20 y21 y22 y23 y24 y25 y26 y27 y28 y29) (medlarlaw16_HeadDoes.j0 (k + 1) y0 y1 y2 y3 y4 y5 y6 y7 y8 y9 y10 y11 y12 y13 y14 y15 y16 y17 y18 y19 y20 y21 y22 y23 y24 y25 y26 y27 y28 y29)) ∧ (∀ y0 y1 y2 y3 y4 y5 y6 y7 y8 y9 y10 y11 y12 y13 y14 y15 y16, LeO (medlarlaw16_HeadDoes.j1 k y0 y1 y2 y3 y4 y5 y6 y7 y8 y9 y10 y11 y12 y13 y14 y15 y16) (medlarlaw16_HeadDoes.j1 (k + 1) y0 y1 y2 y3 y4 y5 y6 y7 y8 y9 y10 y11 y12 y13 y14 y15 y16)) ∧ (∀ y0 y1 y2 y3 y4 y5 y6 y7 y8 y9 y10 y11 y12 y13 y14 y15 y16 y17 y18, LeO (medlarlaw16_HeadDoes.l0 k y0 y1 y2 y3 y4 y5 y6 y7 y8 y9 y10 y11 y12 y13 y14 y15 y16 y17 y18) (medlarlaw16_HeadDoes.l0 (k + 1) y0 y1 y2 y3 y4 y5 y6 y7 y8 y9 y10 y11 y12 y13 y14 y15 y16 y17 y18))
  | 0 => ⟨fun _ _ _ _ _ _ _ _ _ _ _ _ _ _ _ _ _ _ _ _ _ _ _ _ _ _ _ _ _ _ r h => by simp [medlarlaw16_HeadDoes.j0] at h, fun _ _ _ _ _ _ _ _ _ _ _ _ _ _ _ _ _ r h => by simp [medlarlaw16_HeadDoes.j1] at h, fun _ _ _ _ _ _ _ _ _ _ _ _ _ _ _ _ _ _ _ r h => by simp [medlarlaw16_HeadDoes.l0] at h⟩
  | k + 1 => by
   obtain ⟨ih0, ih1, ih2⟩ := medlarlaw16_HeadDoes.mono_l k
   refine ⟨?_, ?_, ?_⟩
   all_goals intros
   all_goals first | unfold medlarlaw16_HeadDoes.j0 | unfold medlarlaw16_HeadDoes.j1 | unfold medlarlaw16_HeadDoes.l0
   all_goals repeat' first | (with_reducible first | exact ih0 .. | exact ih1 .. | exact ih2 .. | exact head_Bytes.mono .. | exact head_Check.mono .. | exact head_From.mono .. | exact head_Same.mono .. | exact medlarlaw16_live.mono .. | exact medlarref16_Bytes.mono .. | exact medlarref16_Check.mono .. | exact medlarref16_From.mono .. | exact medlarref16_Same.mono .. | exact LeO.refl _ | exact LeO.none _ | refine LeO.ite ?_ ?_ | refine LeO.bind ?_ (fun _ => ?_)) | exact ih0 .. | exact ih1 .. | exact ih2 .. | exact head_Bytes.mono .. | exact head_Check.mono .. | exact head_From.mono .. | exact head_Same.mono .. | exact medlarlaw16_live.mono .. | exact medlarref16_Bytes.mono .. | exact medlarref16_Check.mono .. | exact medlarref16_From.mono .. | exact medlarref16_Same.mono .. | refine LeO.ite ?_ ?_ | refine LeO.bind ?_ (fun _ => ?_)
theorem medlarlaw16_HeadDoes.mono : ∀ a0 a1 a2 a3 a4 a5 a6 a7 a8 a9 a10 a11 a12 a13 a14 a15 a16 a17 a18 a19 a20 a21 a22 a23 a24 a25 a26 a27 k, LeO (medlarlaw16_HeadDoes.f k a0 a1 a2 a3 a4 a5 a6 a7 a8 a9 a10 a11 a12 a13 a14 a15 a16 a17 a18 a19 a20 a21 a22 a23 a24 a25 a26 a27) (medlarlaw16_HeadDoes.f (k + 1) a0 a1 a2 a3 a4 a5 a6 a7 a8 a9 a10 a11 a12 a13 a14 a15 a16 a17 a18 a19 a20 a21 a22 a23 a24 a25 a26 a27) := by
  intro a0 a1 a2 a3 a4 a5 a6 a7 a8 a9 a10 a11 a12 a13 a14 a15 a16 a17 a18 a19 a20 a21 a22 a23 a24 a25 a26 a27 k
  obtain ⟨ih0, ih1, ih2⟩ := medlarlaw16_HeadDoes.mono_l k
  unfold medlarlaw16_HeadDoes.f
  repeat' first | (with_reducible first | exact ih0 .. | exact ih1 .. | exact ih2 .. | exact head_Bytes.mono .. | exact head_Check.mono .. | exact head_From.mono .. | exact head_Same.mono .. | exact medlarlaw16_live.mono .. | exact medlarref16_Bytes.mono .. | exact medlarref16_Check.mono .. | exact medlarref16_From.mono .. | exact medlarref16_Same.mono .. | exact LeO.refl _ | exact LeO.none _ | refine LeO.ite ?_ ?_ | refine LeO.bind ?_ (fun _ => ?_)) | exact ih0 .. | exact ih1 .. | exact ih2 .. | exact head_Bytes.mono .. | exact head_Check.mono .. | exact head_From.mono .. | exact head_Same.mono .. | exact medlarlaw16_live.mono .. | exact medlarref16_Bytes.mono .. | exact medlarref16_Check.mono .. | exact medlarref16_From.mono .. | exact medlarref16_Same.mono .. | refine LeO.ite ?_ ?_ | refine LeO.bind ?_ (fun _ => ?_)
def medlarlaw16_HeadDoes.T11 : Bool × List (List Nat × List Nat) := (true, [([], []), ([], []), ([0, 1], [0, 1]), ([2, 2], [2]), ([3], [3]), ([3], [3]), ([4, 5, 3], [3, 4, 5]), ([3, 6], [3, 6]), ([7, 3], [7]), ([8], [8]), ([8], [8]), ([9, 10, 8, 8], [8, 9, 10]), ([8, 11], [8, 11]), ([12, 11], [12]), ([13], [13]), ([13], [13]), ([14, 15, 13], [13, 14, 15]), ([13, 16], [13, 16]), ([17, 13], [17]), ([18], [18]), ([18], [18]), ([19, 20, 18], [18, 19, 20]), ([18, 21], [18, 21]), ([22, 18], [22]), ([23], [23]), ([23], [23]), ([24, 25, 23], [23, 24, 25]), ([23, 26], [23, 26]), ([27, 23], [27]), ([28], [28]), ([29, 28, 28], [28, 29]), ([28], [28]), ([31, 30, 28], [28, 31]), ([30, 32, 28], [28, 30, 32]), ([28, 33], [28, 33]), ([34, 32], [34]), ([35], [35]), ([35], [35]), ([36, 37, 35, 35], [35, 36, 37]), ([35], [35]), ([35], [35]), ([39, 40, 38, 35], [35, 39, 40]), ([38, 41, 35], [35, 38, 41]), ([35, 42], [35, 42]), ([43, 41, 0, 1, 2, 3, 4, 5, 6, 7, 8, 9, 10, 11, 12, 13, 14, 15, 16, 17, 18, 19, 20, 21, 22, 23, 24, 25, 26, 27, 28, 29, 30, 31, 32, 33, 34, 35, 36, 37, 38, 39, 40, 41, 42, 43], [43])])
def medlarlaw16_HeadDoes.B11 : List Nat := [0, 0, 3, 7, 15, 15, 63, 127, 255, 511, 511, 2047, 4095, 8191, 16383, 16383, 65535, 131071, 262143, 524287, 524287, 2097151, 4194303, 8388607, 16777215, 16777215, 67108863, 134217727, 268435455, 536870911, 1073741823, 536870911, 4294967295, 8589934591, 17179869183, 34359738367, 68719476735, 68719476735, 274877906943, 68719476735, 68719476735, 2199023255551, 4398046511103, 8796093022207, 17592186044415]
theorem medlarlaw16_HeadDoes.tab11 : rtab .any (opsOf Try.f5 11) = medlarlaw16_HeadDoes.T11 := by kernel_rfl
theorem medlarlaw16_HeadDoes.bits11 : waitsOk medlarlaw16_HeadDoes.T11.2 medlarlaw16_HeadDoes.B11 = true := by kernel_rfl
theorem medlarlaw16_HeadDoes.nol : ∀ (k : Nat) {q0 : List Int} {q1 : Bool} {q2 : ByteArray} {q4 : Int} {q5 : Int} {q6 : Int} {q7 : Int} {q8 : Int} {q9 : List (S41)} {q10 : Bool} {q11 : Bool} {q12 : Int} {q13 : Int} {q14 : Int} {q15 : Int} {q16 : Int} {q17 : Int} {q18 : Int}, medlarlaw16_HeadDoes.l0 k q0 q1 q2 false q4 q5 q6 q7 q8 q9 q10 q11 q12 q13 q14 q15 q16 q17 q18 = some true → False
  | 0, _, _, _, _, _, _, _, _, _, _, _, _, _, _, _, _, _, _, h => by simp [medlarlaw16_HeadDoes.l0] at h
  | k + 1, _, _, _, _, _, _, _, _, _, _, _, _, _, _, _, _, _, _, h => by
   simp only [medlarlaw16_HeadDoes.l0] at h
   repeat' (split at h)
   all_goals first | exact medlarlaw16_HeadDoes.nol k h | simp_all
theorem medlarlaw16_HeadDoes.noj : ∀ {k : Nat} {q0 : List Int} {q1 : Bool} {q2 : ByteArray} {q4 : Int} {q5 : Int} {q6 : Int} {q7 : List (S41)} {q8 : Bool} {q9 : Bool} {q10 : Int} {q11 : Int} {q12 : Int} {q13 : Int} {q14 : Int} {q15 : Int} {q16 : Int}, medlarlaw16_HeadDoes.j1 k q0 q1 q2 false q4 q5 q6 q7 q8 q9 q10 q11 q12 q13 q14 q15 q16 = some true → False
  | 0, _, _, _, _, _, _, _, _, _, _, _, _, _, _, _, _, h => by simp [medlarlaw16_HeadDoes.j1] at h
  | k + 1, _, _, _, _, _, _, _, _, _, _, _, _, _, _, _, _, h => by
   simp only [medlarlaw16_HeadDoes.j1] at h
   exact medlarlaw16_HeadDoes.nol k h
set_option maxHeartbeats 8000000 in
set_option maxRecDepth 100000 in
theorem medlarlaw16_HeadDoes.calls (k : Nat) (a0_0 : Int) (a0_1 : Int) (a0_2 : Int) (A0_3 : Option Addr) (c0_3 : Nat) (l0_3 : List (S41)) (a0_4 : Bool) (a0_5 : Bool) (a0_6 : Int) (a0_7 : Int) (a0_8 : Int) (a0_9 : Int) (a0_10 : Int) (a0_11 : Int) (a0_12 : Int) (a1_0 : Int) (a1_1 : Int) (a1_2 : Int) (A1_3 : Option Addr) (c1_3 : Nat) (l1_3 : List (S41)) (a1_4 : Bool) (a1_5 : Bool) (a1_6 : Int) (a1_7 : Int) (a1_8 : Int) (a1_9 : Int) (a1_10 : Int) (a1_11 : Int) (a1_12 : Int) (A2 : Option Addr) (c2 : Nat) (l2 : List Int) (a3 : Int) (r : Bool) (w : World) (hr0_3 : Kd.C k41 w A0_3 l0_3.length l0_3) (hc0_3 : l0_3.length ≤ c0_3) (hr1_3 : Kd.C k41 w A1_3 l1_3.length l1_3) (hc1_3 : l1_3.length ≤ c1_3) (hr2 : Kd.C (Kd.int .u8) w A2 l2.length l2) (hc2 : l2.length ≤ c2) (h : medlarlaw16_HeadDoes.f k a0_0 a0_1 a0_2 l0_3 a0_4 a0_5 a0_6 a0_7 a0_8 a0_9 a0_10 a0_11 a0_12 a1_0 a1_1 a1_2 l1_3 a1_4 a1_5 a1_6 a1_7 a1_8 a1_9 a1_10 a1_11 a1_12 l2 a3 = some r) (hT : Aside0 (r = true)) :
   Calls Try.prog 5 #[.agg #[.int .i64 a0_0, .int .i64 a0_1, .int .i64 a0_2, .slice A0_3 l0_3.length c0_3, .bool a0_4, .bool a0_5, .int .u64 a0_6, .int .u64 a0_7, .int .u64 a0_8, .int .u64 a0_9, .int .u64 a0_10, .int .u64 a0_11, .int .i64 a0_12], .agg #[.int .i64 a1_0, .int .i64 a1_1, .int .i64 a1_2, .slice A1_3 l1_3.length c1_3, .bool a1_4, .bool a1_5, .int .u64 a1_6, .int .u64 a1_7, .int .u64 a1_8, .int .u64 a1_9, .int .u64 a1_10, .int .u64 a1_11, .int .i64 a1_12], .slice A2 l2.length c2, .int .i64 a3] w fun e w' => e = .returned (.bool r) ∧ Below w.heap.size w w' := by
  have hu31 := underlying31
  have HR0_3 := ak_ hr0_3
  have HC0_3 := ak_ hc0_3
  clear hr0_3 hc0_3
  have HR1_3 := ak_ hr1_3
  have HC1_3 := ak_ hc1_3
  clear hr1_3 hc1_3
  have HR2 := ak_ hr2
  have HC2 := ak_ hc2
  clear hr2 hc2
  have HB := ak_ (Below.refl w.heap.size w)
  have H : ((medlarlaw16_live.f k).bind fun t418 => (if (l0_3.length : Int) > 200 then (medlarlaw16_HeadDoes.j0 k l2 a3 t418 true a0_0 a0_1 a0_2 l0_3 a0_4 a0_5 a0_6 a0_7 a0_8 a0_9 a0_10 a0_11 a0_12 a1_0 a1_1 a1_2 l1_3 a1_4 a1_5 a1_6 a1_7 a1_8 a1_9 a1_10 a1_11 a1_12) else (if (l1_3.length : Int) > 200 then (medlarlaw16_HeadDoes.j0 k l2 a3 t418 true a0_0 a0_1 a0_2 l0_3 a0_4 a0_5 a0_6 a0_7 a0_8 a0_9 a0_10 a0_11 a0_12 a1_0 a1_1 a1_2 l1_3 a1_4 a1_5 a1_6 a1_7 a1_8 a1_9 a1_10 a1_11 a1_12) else (if (l2.length : Int) > 9000 then (if (l2.length : Int) ≤ 2097152 then (medlarlaw16_HeadDoes.j0 k l2 a3 t418 true a0_0 a0_1 a0_2 l0_3 a0_4 a0_5 a0_6 a0_7 a0_8 a0_9 a0_10 a0_11 a0_12 a1_0 a1_1 a1_2 l1_3 a1_4 a1_5 a1_6 a1_7 a1_8 a1_9 a1_10 a1_11 a1_12) else (medlarlaw16_HeadDoes.j0 k l2 a3 t418 (decide ((l2.length : Int) > 2097157)) a0_0 a0_1 a0_2 l0_3 a0_4 a0_5 a0_6 a0_7 a0_8 a0_9 a0_10 a0_11 a0_12 a1_0 a1_1 a1_2 l1_3 a1_4 a1_5 a1_6 a1_7 a1_8 a1_9 a1_10 a1_11 a1_12)) else (medlarlaw16_HeadDoes.j0 k l2 a3 t418 (decide ((l2.length : Int) > 2097157)) a0_0 a0_1 a0_2 l0_3 a0_4 a0_5 a0_6 a0_7 a0_8 a0_9 a0_10 a0_11 a0_12 a1_0 a1_1 a1_2 l1_3 a1_4 a1_5 a1_6 a1_7 a1_8 a1_9 a1_10 a1_11 a1_12))))) = some r := h
  clear h
  replace H := bind_eq_some_iff.mp H
  obtain ⟨t418, A50, H⟩ := H
  replace H : (if (l0_3.length : Int) > 200 then (medlarlaw16_HeadDoes.j0 k l2 a3 t418 true a0_0 a0_1 a0_2 l0_3 a0_4 a0_5 a0_6 a0_7 a0_8 a0_9 a0_10 a0_11 a0_12 a1_0 a1_1 a1_2 l1_3 a1_4 a1_5 a1_6 a1_7 a1_8 a1_9 a1_10 a1_11 a1_12) else (if (l1_3.length : Int) > 200 then (medlarlaw16_HeadDoes.j0 k l2 a3 t418 true a0_0 a0_1 a0_2 l0_3 a0_4 a0_5 a0_6 a0_7 a0_8 a0_9 a0_10 a0_11 a0_12 a1_0 a1_1 a1_2 l1_3 a1_4 a1_5 a1_6 a1_7 a1_8 a1_9 a1_10 a1_11 a1_12) else (if (l2.length : Int) > 9000 then (if (l2.length : Int) ≤ 2097152 then (medlarlaw16_HeadDoes.j0 k l2 a3 t418 true a0_0 a0_1 a0_2 l0_3 a0_4 a0_5 a0_6 a0_7 a0_8 a0_9 a0_10 a0_11 a0_12 a1_0 a1_1 a1_2 l1_3 a1_4 a1_5 a1_6 a1_7 a1_8 a1_9 a1_10 a1_11 a1_12) else (medlarlaw16_HeadDoes.j0 k l2 a3 t418 (decide ((l2.length : Int) > 2097157)) a0_0 a0_1 a0_2 l0_3 a0_4 a0_5 a0_6 a0_7 a0_8 a0_9 a0_10 a0_11 a0_12 a1_0 a1_1 a1_2 l1_3 a1_4 a1_5 a1_6 a1_7 a1_8 a1_9 a1_10 a1_11 a1_12)) else (medlarlaw16_HeadDoes.j0 k l2 a3 t418 (decide ((l2.length : Int) > 2097157)) a0_0 a0_1 a0_2 l0_3 a0_4 a0_5 a0_6 a0_7 a0_8 a0_9 a0_10 a0_11 a0_12 a1_0 a1_1 a1_2 l1_3 a1_4 a1_5 a1_6 a1_7 a1_8 a1_9 a1_10 a1_11 a1_12)))) = some r := H
  have A5 := ak_ A50
  clear A50
  have HC6 := ak_ H
  clear H
  go_enter func5, ntmps5
  go_upto_region 2 with (first | ((with_reducible refine gate_dst (N := 4) rfl ?_); (try (refine gate_guard (by rfl) ?_; dsimp only)); refine bx_ 4 #[.int .i64 a0_0, .int .i64 a0_1, .int .i64 a0_2, .slice A0_3 l0_3.length c0_3, .bool a0_4, .bool a0_5, .int .u64 a0_6, .int .u64 a0_7, .int .u64 a0_8, .int .u64 a0_9, .int .u64 a0_10, .int .u64 a0_11, .int .i64 a0_12] 31 ?_; intro gb416 hg w7 hbox hb; have BK416 := ak_ hbox; have GW416 := ak_ (gs_ hg HB); have GE416 := ak_ (gs_ hg HB); replace HB := ak_ (bt_ (bl_ HB) hb); clear hb hbox hg) | ((with_reducible refine gate_dst (N := 5) rfl ?_); (try (refine gate_guard (by rfl) ?_; dsimp only)); refine bx_ 5 #[.int .i64 a1_0, .int .i64 a1_1, .int .i64 a1_2, .slice A1_3 l1_3.length c1_3, .bool a1_4, .bool a1_5, .int .u64 a1_6, .int .u64 a1_7, .int .u64 a1_8, .int .u64 a1_9, .int .u64 a1_10, .int .u64 a1_11, .int .i64 a1_12] 31 ?_; intro gb417 hg w8 hbox hb; have BK417 := ak_ hbox; have GW417 := ak_ (gw1_ HB GE416 hg); have GE417 := ak_ (gw1_ HB GE416 hg); replace HB := ak_ (bt_ (bw1_ HB GE416) hb); have NB416_417 := ak_ (nl_ hg BK416); have NB417_416 := ak_ (nr_ hg BK416); replace BK416 := ak_ (kb_ (kl_ BK416) hb); clear hb hbox hg) | ((with_reducible refine gate_callee (f := 15) rfl ?_); refine gl_ (some 25) func15 #[] ?_; (with_reducible refine (medlarlaw16_live.calls k  t418 _ A5.out).mono ?_); rintro e w9 ⟨rfl, hb⟩; refine ⟨_, rfl, ?_⟩; replace BK416 := ak_ (kb_ (kl_ BK416) hb); replace BK417 := ak_ (kb_ (kl_ BK417) hb); replace HB := ak_ (bt_ (bw2_ HB GE416 GE417) hb); (try clear hb); (try clear hk)))
  (try simp only [Act.put, setIfInBounds_toArray, set_cons_zero, set_cons_succ])
  go_cut [50] (fun v50 wc => ∃ (kq : Nat) (x50_5 : Bool), v50 = .bool x50_5 ∧ Aside0 (medlarlaw16_HeadDoes.j0 kq l2 a3 t418 x50_5 a0_0 a0_1 a0_2 l0_3 a0_4 a0_5 a0_6 a0_7 a0_8 a0_9 a0_10 a0_11 a0_12 a1_0 a1_1 a1_2 l1_3 a1_4 a1_5 a1_6 a1_7 a1_8 a1_9 a1_10 a1_11 a1_12 = some r) ∧ Aside0 (kq ≤ k) ∧ Aside0 (wc.heap[gb416]? = some (.cells #[.int .i64 a0_0, .int .i64 a0_1, .int .i64 a0_2, (.slice A0_3 l0_3.length c0_3), .bool a0_4, .bool a0_5, .int .u64 a0_6, .int .u64 a0_7, .int .u64 a0_8, .int .u64 a0_9, .int .u64 a0_10, .int .u64 a0_11, .int .i64 a0_12] 31 (0, 0))) ∧ Aside0 (wc.heap[gb417]? = some (.cells #[.int .i64 a1_0, .int .i64 a1_1, .int .i64 a1_2, (.slice A1_3 l1_3.length c1_3), .bool a1_4, .bool a1_5, .int .u64 a1_6, .int .u64 a1_7, .int .u64 a1_8, .int .u64 a1_9, .int .u64 a1_10, .int .u64 a1_11, .int .i64 a1_12] 31 (0, 0))) ∧ Aside0 (Below w.heap.size w wc))
  case first =>
   have H := HC6.out
   clear HC6
   by_cases c10 : (l0_3.length : Int) > 200
   ·rw [if_pos c10] at H
    have c10b0 : decide (200 < (l0_3.length : Int)) = true := decide_eq_true c10
    have c10b1 : decide (200 < l0_3.length) = true := decide_eq_true (by omega)
    clear c10
    (first | rw [c10b0] | (simp only [i64_w, i32_w]; rw [c10b0]) | skip)
    have H' := ak_ H
    clear H
    have hnb11 := NB416_417.out
    have hnc11 := NB417_416.out
    obtain ⟨hcz12_0, hcz12_1, hcz12_2, hcz12_3, hcz12_4, hcz12_5, hcz12_6, hcz12_7, hcz12_8, hcz12_9, hcz12_10, hcz12_11, hcz12_12, hfz12_0, hfz12_1, hfz12_2, hfz12_3, hfz12_4, hfz12_5, hfz12_6, hfz12_7, hfz12_8, hfz12_9, hfz12_10, hfz12_11, hfz12_12⟩ := kc13_ BK416.out
    go_wp2
    go_wp2
    go_meet
    case rel => exact ⟨_, (true), rf_, H', ⟨by first | omega | exact Nat.le_refl _⟩, ⟨kl_ BK416⟩, ⟨kl_ BK417⟩, ⟨bw2_ HB GE416 GE417⟩⟩
   ·rw [if_neg c10] at H
    have c10b0 : decide (200 < (l0_3.length : Int)) = false := decide_eq_false c10
    have c10b1 : decide (200 < l0_3.length) = false := decide_eq_false (by omega)
    clear c10
    (first | rw [c10b0] | (simp only [i64_w, i32_w]; rw [c10b0]) | skip)
    by_cases c13 : (l1_3.length : Int) > 200
    ·rw [if_pos c13] at H
     have c13b0 : decide (200 < (l1_3.length : Int)) = true := decide_eq_true c13
     have c13b1 : decide (200 < l1_3.length) = true := decide_eq_true (by omega)
     clear c13
     have H' := ak_ H
     clear H
     have hnb14 := NB416_417.out
     have hnc14 := NB417_416.out
     obtain ⟨hcz15_0, hcz15_1, hcz15_2, hcz15_3, hcz15_4, hcz15_5, hcz15_6, hcz15_7, hcz15_8, hcz15_9, hcz15_10, hcz15_11, hcz15_12, hfz15_0, hfz15_1, hfz15_2, hfz15_3, hfz15_4, hfz15_5, hfz15_6, hfz15_7, hfz15_8, hfz15_9, hfz15_10, hfz15_11, hfz15_12⟩ := kc13_ BK416.out
     obtain ⟨hcz16_0, hcz16_1, hcz16_2, hcz16_3, hcz16_4, hcz16_5, hcz16_6, hcz16_7, hcz16_8, hcz16_9, hcz16_10, hcz16_11, hcz16_12, hfz16_0, hfz16_1, hfz16_2, hfz16_3, hfz16_4, hfz16_5, hfz16_6, hfz16_7, hfz16_8, hfz16_9, hfz16_10, hfz16_11, hfz16_12⟩ := kc13_ BK417.out
     go_wp2
     go_wp2
     go_meet
     case rel => exact ⟨_, (true), rf_, H', ⟨by first | omega | exact Nat.le_refl _⟩, ⟨kl_ BK416⟩, ⟨kl_ BK417⟩, ⟨bw2_ HB GE416 GE417⟩⟩
    ·rw [if_neg c13] at H
     have c13b0 : decide (200 < (l1_3.length : Int)) = false := decide_eq_false c13
     have c13b1 : decide (200 < l1_3.length) = false := decide_eq_false (by omega)
     clear c13
     by_cases c17 : (l2.length : Int) > 9000
     ·rw [if_pos c17] at H
      have c17b0 : decide (9000 < (l2.length : Int)) = true := decide_eq_true c17
      have c17b1 : decide (9000 < l2.length) = true := decide_eq_true (by omega)
      clear c17
      by_cases c18 : (l2.length : Int) ≤ 2097152
      ·rw [if_pos c18] at H
       have c18b0 := decide_eq_true c18
       have c18b1 : decide (l2.length ≤ 2097152) = true := decide_eq_true (by omega)
       clear c18
       have H' := ak_ H
       clear H
       have hnb19 := NB416_417.out
       have hnc19 := NB417_416.out
       obtain ⟨hcz20_0, hcz20_1, hcz20_2, hcz20_3, hcz20_4, hcz20_5, hcz20_6, hcz20_7, hcz20_8, hcz20_9, hcz20_10, hcz20_11, hcz20_12, hfz20_0, hfz20_1, hfz20_2, hfz20_3, hfz20_4, hfz20_5, hfz20_6, hfz20_7, hfz20_8, hfz20_9, hfz20_10, hfz20_11, hfz20_12⟩ := kc13_ BK416.out
       obtain ⟨hcz21_0, hcz21_1, hcz21_2, hcz21_3, hcz21_4, hcz21_5, hcz21_6, hcz21_7, hcz21_8, hcz21_9, hcz21_10, hcz21_11, hcz21_12, hfz21_0, hfz21_1, hfz21_2, hfz21_3, hfz21_4, hfz21_5, hfz21_6, hfz21_7, hfz21_8, hfz21_9, hfz21_10, hfz21_11, hfz21_12⟩ := kc13_ BK417.out
       go_wp2
       go_wp2
       go_meet
       case rel => exact ⟨_, (true), rf_, H', ⟨by first | omega | exact Nat.le_refl _⟩, ⟨kl_ BK416⟩, ⟨kl_ BK417⟩, ⟨bw2_ HB GE416 GE417⟩⟩
      ·rw [if_neg c18] at H
       have c18b0 := decide_eq_false c18
       have c18b1 : decide (l2.length ≤ 2097152) = false := decide_eq_false (by omega)
       clear c18
       have H' := ak_ H
       clear H
       have hnb22 := NB416_417.out
       have hnc22 := NB417_416.out
       obtain ⟨hcz23_0, hcz23_1, hcz23_2, hcz23_3, hcz23_4, hcz23_5, hcz23_6, hcz23_7, hcz23_8, hcz23_9, hcz23_10, hcz23_11, hcz23_12, hfz23_0, hfz23_1, hfz23_2, hfz23_3, hfz23_4, hfz23_5, hfz23_6, hfz23_7, hfz23_8, hfz23_9, hfz23_10, hfz23_11, hfz23_12⟩ := kc13_ BK416.out
       obtain ⟨hcz24_0, hcz24_1, hcz24_2, hcz24_3, hcz24_4, hcz24_5, hcz24_6, hcz24_7, hcz24_8, hcz24_9, hcz24_10, hcz24_11, hcz24_12, hfz24_0, hfz24_1, hfz24_2, hfz24_3, hfz24_4, hfz24_5, hfz24_6, hfz24_7, hfz24_8, hfz24_9, hfz24_10, hfz24_11, hfz24_12⟩ := kc13_ BK417.out
       go_wp2
       go_wp2
       go_meet
       case rel => exact ⟨_, (decide ((l2.length : Int) > 2097157)), rf_, H', ⟨by first | omega | exact Nat.le_refl _⟩, ⟨kl_ BK416⟩, ⟨kl_ BK417⟩, ⟨bw2_ HB GE416 GE417⟩⟩
     ·rw [if_neg c17] at H
      have c17b0 : decide (9000 < (l2.length : Int)) = false := decide_eq_false c17
      have c17b1 : decide (9000 < l2.length) = false := decide_eq_false (by omega)
      clear c17
      have H' := ak_ H
      clear H
      have hnb25 := NB416_417.out
      have hnc25 := NB417_416.out
      obtain ⟨hcz26_0, hcz26_1, hcz26_2, hcz26_3, hcz26_4, hcz26_5, hcz26_6, hcz26_7, hcz26_8, hcz26_9, hcz26_10, hcz26_11, hcz26_12, hfz26_0, hfz26_1, hfz26_2, hfz26_3, hfz26_4, hfz26_5, hfz26_6, hfz26_7, hfz26_8, hfz26_9, hfz26_10, hfz26_11, hfz26_12⟩ := kc13_ BK416.out
      obtain ⟨hcz27_0, hcz27_1, hcz27_2, hcz27_3, hcz27_4, hcz27_5, hcz27_6, hcz27_7, hcz27_8, hcz27_9, hcz27_10, hcz27_11, hcz27_12, hfz27_0, hfz27_1, hfz27_2, hfz27_3, hfz27_4, hfz27_5, hfz27_6, hfz27_7, hfz27_8, hfz27_9, hfz27_10, hfz27_11, hfz27_12⟩ := kc13_ BK417.out
      go_wp2
      go_wp2
      go_meet
      case rel => exact ⟨_, (decide ((l2.length : Int) > 2097157)), rf_, H', ⟨by first | omega | exact Nat.le_refl _⟩, ⟨kl_ BK416⟩, ⟨kl_ BK417⟩, ⟨bw2_ HB GE416 GE417⟩⟩
  case rest =>
   clear HC6
   try clear c1
   try clear c2
   try clear p2
   try clear c5
   try clear c10
   try clear c10b0
   try clear c10b1
   try clear c11
   try clear c13
   try clear c13b0
   try clear c13b1
   try clear c14
   try clear c15
   try clear c17
   try clear c17b0
   try clear c17b1
   try clear c18
   try clear c18b0
   try clear c18b1
   try clear c19
   try clear c22
   try clear c25
   try clear hcz12_0 hcz12_1 hcz12_10 hcz12_11 hcz12_12 hcz12_2 hcz12_3 hcz12_4 hcz12_5 hcz12_6 hcz12_7 hcz12_8 hcz12_9
   try clear hcz15_0 hcz15_1 hcz15_10 hcz15_11 hcz15_12 hcz15_2 hcz15_3 hcz15_4 hcz15_5 hcz15_6 hcz15_7 hcz15_8 hcz15_9
   try clear hcz16_0 hcz16_1 hcz16_10 hcz16_11 hcz16_12 hcz16_2 hcz16_3 hcz16_4 hcz16_5 hcz16_6 hcz16_7 hcz16_8 hcz16_9
   try clear hcz20_0 hcz20_1 hcz20_10 hcz20_11 hcz20_12 hcz20_2 hcz20_3 hcz20_4 hcz20_5 hcz20_6 hcz20_7 hcz20_8 hcz20_9
   try clear hcz21_0 hcz21_1 hcz21_10 hcz21_11 hcz21_12 hcz21_2 hcz21_3 hcz21_4 hcz21_5 hcz21_6 hcz21_7 hcz21_8 hcz21_9
   try clear hcz23_0 hcz23_1 hcz23_10 hcz23_11 hcz23_12 hcz23_2 hcz23_3 hcz23_4 hcz23_5 hcz23_6 hcz23_7 hcz23_8 hcz23_9
   try clear hcz24_0 hcz24_1 hcz24_10 hcz24_11 hcz24_12 hcz24_2 hcz24_3 hcz24_4 hcz24_5 hcz24_6 hcz24_7 hcz24_8 hcz24_9
   try clear hcz26_0 hcz26_1 hcz26_10 hcz26_11 hcz26_12 hcz26_2 hcz26_3 hcz26_4 hcz26_5 hcz26_6 hcz26_7 hcz26_8 hcz26_9
   try clear hcz27_0 hcz27_1 hcz27_10 hcz27_11 hcz27_12 hcz27_2 hcz27_3 hcz27_4 hcz27_5 hcz27_6 hcz27_7 hcz27_8 hcz27_9
   try clear hfz12_0 hfz12_1 hfz12_10 hfz12_11 hfz12_12 hfz12_2 hfz12_3 hfz12_4 hfz12_5 hfz12_6 hfz12_7 hfz12_8 hfz12_9
   try clear hfz15_0 hfz15_1 hfz15_10 hfz15_11 hfz15_12 hfz15_2 hfz15_3 hfz15_4 hfz15_5 hfz15_6 hfz15_7 hfz15_8 hfz15_9
   try clear hfz16_0 hfz16_1 hfz16_10 hfz16_11 hfz16_12 hfz16_2 hfz16_3 hfz16_4 hfz16_5 hfz16_6 hfz16_7 hfz16_8 hfz16_9
   try clear hfz20_0 hfz20_1 hfz20_10 hfz20_11 hfz20_12 hfz20_2 hfz20_3 hfz20_4 hfz20_5 hfz20_6 hfz20_7 hfz20_8 hfz20_9
   try clear hfz21_0 hfz21_1 hfz21_10 hfz21_11 hfz21_12 hfz21_2 hfz21_3 hfz21_4 hfz21_5 hfz21_6 hfz21_7 hfz21_8 hfz21_9
   try clear hfz23_0 hfz23_1 hfz23_10 hfz23_11 hfz23_12 hfz23_2 hfz23_3 hfz23_4 hfz23_5 hfz23_6 hfz23_7 hfz23_8 hfz23_9
   try clear hfz24_0 hfz24_1 hfz24_10 hfz24_11 hfz24_12 hfz24_2 hfz24_3 hfz24_4 hfz24_5 hfz24_6 hfz24_7 hfz24_8 hfz24_9
   try clear hfz26_0 hfz26_1 hfz26_10 hfz26_11 hfz26_12 hfz26_2 hfz26_3 hfz26_4 hfz26_5 hfz26_6 hfz26_7 hfz26_8 hfz26_9
   try clear hfz27_0 hfz27_1 hfz27_10 hfz27_11 hfz27_12 hfz27_2 hfz27_3 hfz27_4 hfz27_5 hfz27_6 hfz27_7 hfz27_8 hfz27_9
   obtain ⟨kq, x50_5, rfl, HA, HJ5, BK416, BK417, HB⟩ := hcut
   cases kq with
   | zero => exact absurd HA.out (by simp [medlarlaw16_HeadDoes.j0])
   | succ kj5 =>
    have H := HA.out
    clear HA
    simp only [medlarlaw16_HeadDoes.j0] at H
    by_cases c28 : x50_5 = true
    ·subst c28
     have H1 : (some t418) = some r := by rw [if_pos rfl] at H; exact H
     clear H
     have H := H1
     clear H1
     obtain rfl := Option.some.inj H
     go_wp2
     go_ret
     exact ea_ (bw2_ HB GE416 GE417)
    ·replace c28 := Bool.eq_false_iff.mpr c28
     subst c28
     have H1 : ((head_Bytes.f kj5 a0_0 a0_1 a0_2 l0_3 a0_4 a0_5 a0_6 a0_7 a0_8 a0_9 a0_10 a0_11 a0_12).bind fun bt419 => ((medlarref16_Bytes.f kj5 a0_0 a0_1 a0_2 l0_3 a0_4 a0_5 a0_6 a0_7 a0_8 a0_9 a0_10 a0_11 a0_12).bind fun bt423 => ((head_From.f kj5 l2).bind fun bt427 => ((medlarref16_From.f kj5 l2).bind fun bt444 => ((head_Length.f a3).bind fun bt461 => ((medlarref16_Length.f a3).bind fun bt463 => ((medlarref16_SameBytes.f bt419.1 bt423.1).bind fun t465 => (if t465 = true then (if bt419.2 = bt423.2 then ((medlarref16_Same.f kj5 bt427.1 bt427.2.1 bt427.2.2.1 bt427.2.2.2.1 bt427.2.2.2.2.1 bt427.2.2.2.2.2.1 bt427.2.2.2.2.2.2.1 bt427.2.2.2.2.2.2.2.1 bt427.2.2.2.2.2.2.2.2.1 bt427.2.2.2.2.2.2.2.2.2.1 bt427.2.2.2.2.2.2.2.2.2.2.1 bt427.2.2.2.2.2.2.2.2.2.2.2.1 bt427.2.2.2.2.2.2.2.2.2.2.2.2.1 bt444.1 bt444.2.1 bt444.2.2.1 bt444.2.2.2.1 bt444.2.2.2.2.1 bt444.2.2.2.2.2.1 bt444.2.2.2.2.2.2.1 bt444.2.2.2.2.2.2.2.1 bt444.2.2.2.2.2.2.2.2.1 bt444.2.2.2.2.2.2.2.2.2.1 bt444.2.2.2.2.2.2.2.2.2.2.1 bt444.2.2.2.2.2.2.2.2.2.2.2.1 bt444.2.2.2.2.2.2.2.2.2.2.2.2.1).bind fun t466 => (if t466 = true then (if bt427.2.2.2.2.2.2.2.2.2.2.2.2.2 = bt444.2.2.2.2.2.2.2.2.2.2.2.2.2 then (if bt461.1 = bt463.1 then (if bt461.2 = bt463.2 then ((head_Check.f kj5 a0_0 a0_1 a0_2 l0_3 a0_4 a0_5 a0_6 a0_7 a0_8 a0_9 a0_10 a0_11 a0_12).bind fun t467 => ((medlarref16_Check.f kj5 a0_0 a0_1 a0_2 l0_3 a0_4 a0_5 a0_6 a0_7 a0_8 a0_9 a0_10 a0_11 a0_12).bind fun t468 => (if t467 = t468 then ((head_Same.f kj5 a0_0 a0_1 a0_2 l0_3 a0_4 a0_5 a0_6 a0_7 a0_8 a0_9 a0_10 a0_11 a0_12 a1_0 a1_1 a1_2 l1_3 a1_4 a1_5 a1_6 a1_7 a1_8 a1_9 a1_10 a1_11 a1_12).bind fun t469 => ((medlarref16_Same.f kj5 a0_0 a0_1 a0_2 l0_3 a0_4 a0_5 a0_6 a0_7 a0_8 a0_9 a0_10 a0_11 a0_12 a1_0 a1_1 a1_2 l1_3 a1_4 a1_5 a1_6 a1_7 a1_8 a1_9 a1_10 a1_11 a1_12).bind fun t470 => (medlarlaw16_HeadDoes.j1 kj5 l2 t418 (strOfNums l2) (t469 == t470) bt427.1 bt427.2.1 bt427.2.2.1 bt427.2.2.2.1 bt427.2.2.2.2.1 bt427.2.2.2.2.2.1 bt427.2.2.2.2.2.2.1 bt427.2.2.2.2.2.2.2.1 bt427.2.2.2.2.2.2.2.2.1 bt427.2.2.2.2.2.2.2.2.2.1 bt427.2.2.2.2.2.2.2.2.2.2.1 bt427.2.2.2.2.2.2.2.2.2.2.2.1 bt427.2.2.2.2.2.2.2.2.2.2.2.2.1))) else (medlarlaw16_HeadDoes.j1 kj5 l2 t418 (strOfNums l2) false bt427.1 bt427.2.1 bt427.2.2.1 bt427.2.2.2.1 bt427.2.2.2.2.1 bt427.2.2.2.2.2.1 bt427.2.2.2.2.2.2.1 bt427.2.2.2.2.2.2.2.1 bt427.2.2.2.2.2.2.2.2.1 bt427.2.2.2.2.2.2.2.2.2.1 bt427.2.2.2.2.2.2.2.2.2.2.1 bt427.2.2.2.2.2.2.2.2.2.2.2.1 bt427.2.2.2.2.2.2.2.2.2.2.2.2.1)))) else (medlarlaw16_HeadDoes.j1 kj5 l2 t418 (strOfNums l2) false bt427.1 bt427.2.1 bt427.2.2.1 bt427.2.2.2.1 bt427.2.2.2.2.1 bt427.2.2.2.2.2.1 bt427.2.2.2.2.2.2.1 bt427.2.2.2.2.2.2.2.1 bt427.2.2.2.2.2.2.2.2.1 bt427.2.2.2.2.2.2.2.2.2.1 bt427.2.2.2.2.2.2.2.2.2.2.1 bt427.2.2.2.2.2.2.2.2.2.2.2.1 bt427.2.2.2.2.2.2.2.2.2.2.2.2.1)) else (medlarlaw16_HeadDoes.j1 kj5 l2 t418 (strOfNums l2) false bt427.1 bt427.2.1 bt427.2.2.1 bt427.2.2.2.1 bt427.2.2.2.2.1 bt427.2.2.2.2.2.1 bt427.2.2.2.2.2.2.1 bt427.2.2.2.2.2.2.2.1 bt427.2.2.2.2.2.2.2.2.1 bt427.2.2.2.2.2.2.2.2.2.1 bt427.2.2.2.2.2.2.2.2.2.2.1 bt427.2.2.2.2.2.2.2.2.2.2.2.1 bt427.2.2.2.2.2.2.2.2.2.2.2.2.1)) else (medlarlaw16_HeadDoes.j1 kj5 l2 t418 (strOfNums l2) false bt427.1 bt427.2.1 bt427.2.2.1 bt427.2.2.2.1 bt427.2.2.2.2.1 bt427.2.2.2.2.2.1 bt427.2.2.2.2.2.2.1 bt427.2.2.2.2.2.2.2.1 bt427.2.2.2.2.2.2.2.2.1 bt427.2.2.2.2.2.2.2.2.2.1 bt427.2.2.2.2.2.2.2.2.2.2.1 bt427.2.2.2.2.2.2.2.2.2.2.2.1 bt427.2.2.2.2.2.2.2.2.2.2.2.2.1)) else (medlarlaw16_HeadDoes.j1 kj5 l2 t418 (strOfNums l2) false bt427.1 bt427.2.1 bt427.2.2.1 bt427.2.2.2.1 bt427.2.2.2.2.1 bt427.2.2.2.2.2.1 bt427.2.2.2.2.2.2.1 bt427.2.2.2.2.2.2.2.1 bt427.2.2.2.2.2.2.2.2.1 bt427.2.2.2.2.2.2.2.2.2.1 bt427.2.2.2.2.2.2.2.2.2.2.1 bt427.2.2.2.2.2.2.2.2.2.2.2.1 bt427.2.2.2.2.2.2.2.2.2.2.2.2.1))) else (medlarlaw16_HeadDoes.j1 kj5 l2 t418 (strOfNums l2) false bt427.1 bt427.2.1 bt427.2.2.1 bt427.2.2.2.1 bt427.2.2.2.2.1 bt427.2.2.2.2.2.1 bt427.2.2.2.2.2.2.1 bt427.2.2.2.2.2.2.2.1 bt427.2.2.2.2.2.2.2.2.1 bt427.2.2.2.2.2.2.2.2.2.1 bt427.2.2.2.2.2.2.2.2.2.2.1 bt427.2.2.2.2.2.2.2.2.2.2.2.1 bt427.2.2.2.2.2.2.2.2.2.2.2.2.1)) else (medlarlaw16_HeadDoes.j1 kj5 l2 t418 (strOfNums l2) false bt427.1 bt427.2.1 bt427.2.2.1 bt427.2.2.2.1 bt427.2.2.2.2.1 bt427.2.2.2.2.2.1 bt427.2.2.2.2.2.2.1 bt427.2.2.2.2.2.2.2.1 bt427.2.2.2.2.2.2.2.2.1 bt427.2.2.2.2.2.2.2.2.2.1 bt427.2.2.2.2.2.2.2.2.2.2.1 bt427.2.2.2.2.2.2.2.2.2.2.2.1 bt427.2.2.2.2.2.2.2.2.2.2.2.2.1))))))))) = some r := by rw [if_neg (show ¬ (false = true) by decide)] at H; exact H
     clear H
     have H := H1
     clear H1
     replace H := bind_eq_some_iff.mp H
     obtain ⟨⟨t419, t422⟩, A290, H⟩ := H
     replace H : ((medlarref16_Bytes.f kj5 a0_0 a0_1 a0_2 l0_3 a0_4 a0_5 a0_6 a0_7 a0_8 a0_9 a0_10 a0_11 a0_12).bind fun bt423 => ((head_From.f kj5 l2).bind fun bt427 => ((medlarref16_From.f kj5 l2).bind fun bt444 => ((head_Length.f a3).bind fun bt461 => ((medlarref16_Length.f a3).bind fun bt463 => ((medlarref16_SameBytes.f t419 bt423.1).bind fun t465 => (if t465 = true then (if t422 = bt423.2 then ((medlarref16_Same.f kj5 bt427.1 bt427.2.1 bt427.2.2.1 bt427.2.2.2.1 bt427.2.2.2.2.1 bt427.2.2.2.2.2.1 bt427.2.2.2.2.2.2.1 bt427.2.2.2.2.2.2.2.1 bt427.2.2.2.2.2.2.2.2.1 bt427.2.2.2.2.2.2.2.2.2.1 bt427.2.2.2.2.2.2.2.2.2.2.1 bt427.2.2.2.2.2.2.2.2.2.2.2.1 bt427.2.2.2.2.2.2.2.2.2.2.2.2.1 bt444.1 bt444.2.1 bt444.2.2.1 bt444.2.2.2.1 bt444.2.2.2.2.1 bt444.2.2.2.2.2.1 bt444.2.2.2.2.2.2.1 bt444.2.2.2.2.2.2.2.1 bt444.2.2.2.2.2.2.2.2.1 bt444.2.2.2.2.2.2.2.2.2.1 bt444.2.2.2.2.2.2.2.2.2.2.1 bt444.2.2.2.2.2.2.2.2.2.2.2.1 bt444.2.2.2.2.2.2.2.2.2.2.2.2.1).bind fun t466 => (if t466 = true then (if bt427.2.2.2.2.2.2.2.2.2.2.2.2.2 = bt444.2.2.2.2.2.2.2.2.2.2.2.2.2 then (if bt461.1 = bt463.1 then (if bt461.2 = bt463.2 then ((head_Check.f kj5 a0_0 a0_1 a0_2 l0_3 a0_4 a0_5 a0_6 a0_7 a0_8 a0_9 a0_10 a0_11 a0_12).bind fun t467 => ((medlarref16_Check.f kj5 a0_0 a0_1 a0_2 l0_3 a0_4 a0_5 a0_6 a0_7 a0_8 a0_9 a0_10 a0_11 a0_12).bind fun t468 => (if t467 = t468 then ((head_Same.f kj5 a0_0 a0_1 a0_2 l0_3 a0_4 a0_5 a0_6 a0_7 a0_8 a0_9 a0_10 a0_11 a0_12 a1_0 a1_1 a1_2 l1_3 a1_4 a1_5 a1_6 a1_7 a1_8 a1_9 a1_10 a1_11 a1_12).bind fun t469 => ((medlarref16_Same.f kj5 a0_0 a0_1 a0_2 l0_3 a0_4 a0_5 a0_6 a0_7 a0_8 a0_9 a0_10 a0_11 a0_12 a1_0 a1_1 a1_2 l1_3 a1_4 a1_5 a1_6 a1_7 a1_8 a1_9 a1_10 a1_11 a1_12).bind fun t470 => (medlarlaw16_HeadDoes.j1 kj5 l2 t418 (strOfNums l2) (t469 == t470) bt427.1 bt427.2.1 bt427.2.2.1 bt427.2.2.2.1 bt427.2.2.2.2.1 bt427.2.2.2.2.2.1 bt427.2.2.2.2.2.2.1 bt427.2.2.2.2.2.2.2.1 bt427.2.2.2.2.2.2.2.2.1 bt427.2.2.2.2.2.2.2.2.2.1 bt427.2.2.2.2.2.2.2.2.2.2.1 bt427.2.2.2.2.2.2.2.2.2.2.2.1 bt427.2.2.2.2.2.2.2.2.2.2.2.2.1))) else (medlarlaw16_HeadDoes.j1 kj5 l2 t418 (strOfNums l2) false bt427.1 bt427.2.1 bt427.2.2.1 bt427.2.2.2.1 bt427.2.2.2.2.1 bt427.2.2.2.2.2.1 bt427.2.2.2.2.2.2.1 bt427.2.2.2.2.2.2.2.1 bt427.2.2.2.2.2.2.2.2.1 bt427.2.2.2.2.2.2.2.2.2.1 bt427.2.2.2.2.2.2.2.2.2.2.1 bt427.2.2.2.2.2.2.2.2.2.2.2.1 bt427.2.2.2.2.2.2.2.2.2.2.2.2.1)))) else (medlarlaw16_HeadDoes.j1 kj5 l2 t418 (strOfNums l2) false bt427.1 bt427.2.1 bt427.2.2.1 bt427.2.2.2.1 bt427.2.2.2.2.1 bt427.2.2.2.2.2.1 bt427.2.2.2.2.2.2.1 bt427.2.2.2.2.2.2.2.1 bt427.2.2.2.2.2.2.2.2.1 bt427.2.2.2.2.2.2.2.2.2.1 bt427.2.2.2.2.2.2.2.2.2.2.1 bt427.2.2.2.2.2.2.2.2.2.2.2.1 bt427.2.2.2.2.2.2.2.2.2.2.2.2.1)) else (medlarlaw16_HeadDoes.j1 kj5 l2 t418 (strOfNums l2) false bt427.1 bt427.2.1 bt427.2.2.1 bt427.2.2.2.1 bt427.2.2.2.2.1 bt427.2.2.2.2.2.1 bt427.2.2.2.2.2.2.1 bt427.2.2.2.2.2.2.2.1 bt427.2.2.2.2.2.2.2.2.1 bt427.2.2.2.2.2.2.2.2.2.1 bt427.2.2.2.2.2.2.2.2.2.2.1 bt427.2.2.2.2.2.2.2.2.2.2.2.1 bt427.2.2.2.2.2.2.2.2.2.2.2.2.1)) else (medlarlaw16_HeadDoes.j1 kj5 l2 t418 (strOfNums l2) false bt427.1 bt427.2.1 bt427.2.2.1 bt427.2.2.2.1 bt427.2.2.2.2.1 bt427.2.2.2.2.2.1 bt427.2.2.2.2.2.2.1 bt427.2.2.2.2.2.2.2.1 bt427.2.2.2.2.2.2.2.2.1 bt427.2.2.2.2.2.2.2.2.2.1 bt427.2.2.2.2.2.2.2.2.2.2.1 bt427.2.2.2.2.2.2.2.2.2.2.2.1 bt427.2.2.2.2.2.2.2.2.2.2.2.2.1)) else (medlarlaw16_HeadDoes.j1 kj5 l2 t418 (strOfNums l2) false bt427.1 bt427.2.1 bt427.2.2.1 bt427.2.2.2.1 bt427.2.2.2.2.1 bt427.2.2.2.2.2.1 bt427.2.2.2.2.2.2.1 bt427.2.2.2.2.2.2.2.1 bt427.2.2.2.2.2.2.2.2.1 bt427.2.2.2.2.2.2.2.2.2.1 bt427.2.2.2.2.2.2.2.2.2.2.1 bt427.2.2.2.2.2.2.2.2.2.2.2.1 bt427.2.2.2.2.2.2.2.2.2.2.2.2.1))) else (medlarlaw16_HeadDoes.j1 kj5 l2 t418 (strOfNums l2) false bt427.1 bt427.2.1 bt427.2.2.1 bt427.2.2.2.1 bt427.2.2.2.2.1 bt427.2.2.2.2.2.1 bt427.2.2.2.2.2.2.1 bt427.2.2.2.2.2.2.2.1 bt427.2.2.2.2.2.2.2.2.1 bt427.2.2.2.2.2.2.2.2.2.1 bt427.2.2.2.2.2.2.2.2.2.2.1 bt427.2.2.2.2.2.2.2.2.2.2.2.1 bt427.2.2.2.2.2.2.2.2.2.2.2.2.1)) else (medlarlaw16_HeadDoes.j1 kj5 l2 t418 (strOfNums l2) false bt427.1 bt427.2.1 bt427.2.2.1 bt427.2.2.2.1 bt427.2.2.2.2.1 bt427.2.2.2.2.2.1 bt427.2.2.2.2.2.2.1 bt427.2.2.2.2.2.2.2.1 bt427.2.2.2.2.2.2.2.2.1 bt427.2.2.2.2.2.2.2.2.2.1 bt427.2.2.2.2.2.2.2.2.2.2.1 bt427.2.2.2.2.2.2.2.2.2.2.2.1 bt427.2.2.2.2.2.2.2.2.2.2.2.2.1)))))))) = some r := H
     have A29 := ak_ A290
     clear A290
     replace H := bind_eq_some_iff.mp H
     obtain ⟨⟨t423, t426⟩, A300, H⟩ := H
     replace H : ((head_From.f kj5 l2).bind fun bt427 => ((medlarref16_From.f kj5 l2).bind fun bt444 => ((head_Length.f a3).bind fun bt461 => ((medlarref16_Length.f a3).bind fun bt463 => ((medlarref16_SameBytes.f t419 t423).bind fun t465 => (if t465 = true then (if t422 = t426 then ((medlarref16_Same.f kj5 bt427.1 bt427.2.1 bt427.2.2.1 bt427.2.2.2.1 bt427.2.2.2.2.1 bt427.2.2.2.2.2.1 bt427.2.2.2.2.2.2.1 bt427.2.2.2.2.2.2.2.1 bt427.2.2.2.2.2.2.2.2.1 bt427.2.2.2.2.2.2.2.2.2.1 bt427.2.2.2.2.2.2.2.2.2.2.1 bt427.2.2.2.2.2.2.2.2.2.2.2.1 bt427.2.2.2.2.2.2.2.2.2.2.2.2.1 bt444.1 bt444.2.1 bt444.2.2.1 bt444.2.2.2.1 bt444.2.2.2.2.1 bt444.2.2.2.2.2.1 bt444.2.2.2.2.2.2.1 bt444.2.2.2.2.2.2.2.1 bt444.2.2.2.2.2.2.2.2.1 bt444.2.2.2.2.2.2.2.2.2.1 bt444.2.2.2.2.2.2.2.2.2.2.1 bt444.2.2.2.2.2.2.2.2.2.2.2.1 bt444.2.2.2.2.2.2.2.2.2.2.2.2.1).bind fun t466 => (if t466 = true then (if bt427.2.2.2.2.2.2.2.2.2.2.2.2.2 = bt444.2.2.2.2.2.2.2.2.2.2.2.2.2 then (if bt461.1 = bt463.1 then (if bt461.2 = bt463.2 then ((head_Check.f kj5 a0_0 a0_1 a0_2 l0_3 a0_4 a0_5 a0_6 a0_7 a0_8 a0_9 a0_10 a0_11 a0_12).bind fun t467 => ((medlarref16_Check.f kj5 a0_0 a0_1 a0_2 l0_3 a0_4 a0_5 a0_6 a0_7 a0_8 a0_9 a0_10 a0_11 a0_12).bind fun t468 => (if t467 = t468 then ((head_Same.f kj5 a0_0 a0_1 a0_2 l0_3 a0_4 a0_5 a0_6 a0_7 a0_8 a0_9 a0_10 a0_11 a0_12 a1_0 a1_1 a1_2 l1_3 a1_4 a1_5 a1_6 a1_7 a1_8 a1_9 a1_10 a1_11 a1_12).bind fun t469 => ((medlarref16_Same.f kj5 a0_0 a0_1 a0_2 l0_3 a0_4 a0_5 a0_6 a0_7 a0_8 a0_9 a0_10 a0_11 a0_12 a1_0 a1_1 a1_2 l1_3 a1_4 a1_5 a1_6 a1_7 a1_8 a1_9 a1_10 a1_11 a1_12).bind fun t470 => (medlarlaw16_HeadDoes.j1 kj5 l2 t418 (strOfNums l2) (t469 == t470) bt427.1 bt427.2.1 bt427.2.2.1 bt427.2.2.2.1 bt427.2.2.2.2.1 bt427.2.2.2.2.2.1 bt427.2.2.2.2.2.2.1 bt427.2.2.2.2.2.2.2.1 bt427.2.2.2.2.2.2.2.2.1 bt427.2.2.2.2.2.2.2.2.2.1 bt427.2.2.2.2.2.2.2.2.2.2.1 bt427.2.2.2.2.2.2.2.2.2.2.2.1 bt427.2.2.2.2.2.2.2.2.2.2.2.2.1))) else (medlarlaw16_HeadDoes.j1 kj5 l2 t418 (strOfNums l2) false bt427.1 bt427.2.1 bt427.2.2.1 bt427.2.2.2.1 bt427.2.2.2.2.1 bt427.2.2.2.2.2.1 bt427.2.2.2.2.2.2.1 bt427.2.2.2.2.2.2.2.1 bt427.2.2.2.2.2.2.2.2.1 bt427.2.2.2.2.2.2.2.2.2.1 bt427.2.2.2.2.2.2.2.2.2.2.1 bt427.2.2.2.2.2.2.2.2.2.2.2.1 bt427.2.2.2.2.2.2.2.2.2.2.2.2.1)))) else (medlarlaw16_HeadDoes.j1 kj5 l2 t418 (strOfNums l2) false bt427.1 bt427.2.1 bt427.2.2.1 bt427.2.2.2.1 bt427.2.2.2.2.1 bt427.2.2.2.2.2.1 bt427.2.2.2.2.2.2.1 bt427.2.2.2.2.2.2.2.1 bt427.2.2.2.2.2.2.2.2.1 bt427.2.2.2.2.2.2.2.2.2.1 bt427.2.2.2.2.2.2.2.2.2.2.1 bt427.2.2.2.2.2.2.2.2.2.2.2.1 bt427.2.2.2.2.2.2.2.2.2.2.2.2.1)) else (medlarlaw16_HeadDoes.j1 kj5 l2 t418 (strOfNums l2) false bt427.1 bt427.2.1 bt427.2.2.1 bt427.2.2.2.1 bt427.2.2.2.2.1 bt427.2.2.2.2.2.1 bt427.2.2.2.2.2.2.1 bt427.2.2.2.2.2.2.2.1 bt427.2.2.2.2.2.2.2.2.1 bt427.2.2.2.2.2.2.2.2.2.1 bt427.2.2.2.2.2.2.2.2.2.2.1 bt427.2.2.2.2.2.2.2.2.2.2.2.1 bt427.2.2.2.2.2.2.2.2.2.2.2.2.1)) else (medlarlaw16_HeadDoes.j1 kj5 l2 t418 (strOfNums l2) false bt427.1 bt427.2.1 bt427.2.2.1 bt427.2.2.2.1 bt427.2.2.2.2.1 bt427.2.2.2.2.2.1 bt427.2.2.2.2.2.2.1 bt427.2.2.2.2.2.2.2.1 bt427.2.2.2.2.2.2.2.2.1 bt427.2.2.2.2.2.2.2.2.2.1 bt427.2.2.2.2.2.2.2.2.2.2.1 bt427.2.2.2.2.2.2.2.2.2.2.2.1 bt427.2.2.2.2.2.2.2.2.2.2.2.2.1)) else (medlarlaw16_HeadDoes.j1 kj5 l2 t418 (strOfNums l2) false bt427.1 bt427.2.1 bt427.2.2.1 bt427.2.2.2.1 bt427.2.2.2.2.1 bt427.2.2.2.2.2.1 bt427.2.2.2.2.2.2.1 bt427.2.2.2.2.2.2.2.1 bt427.2.2.2.2.2.2.2.2.1 bt427.2.2.2.2.2.2.2.2.2.1 bt427.2.2.2.2.2.2.2.2.2.2.1 bt427.2.2.2.2.2.2.2.2.2.2.2.1 bt427.2.2.2.2.2.2.2.2.2.2.2.2.1))) else (medlarlaw16_HeadDoes.j1 kj5 l2 t418 (strOfNums l2) false bt427.1 bt427.2.1 bt427.2.2.1 bt427.2.2.2.1 bt427.2.2.2.2.1 bt427.2.2.2.2.2.1 bt427.2.2.2.2.2.2.1 bt427.2.2.2.2.2.2.2.1 bt427.2.2.2.2.2.2.2.2.1 bt427.2.2.2.2.2.2.2.2.2.1 bt427.2.2.2.2.2.2.2.2.2.2.1 bt427.2.2.2.2.2.2.2.2.2.2.2.1 bt427.2.2.2.2.2.2.2.2.2.2.2.2.1)) else (medlarlaw16_HeadDoes.j1 kj5 l2 t418 (strOfNums l2) false bt427.1 bt427.2.1 bt427.2.2.1 bt427.2.2.2.1 bt427.2.2.2.2.1 bt427.2.2.2.2.2.1 bt427.2.2.2.2.2.2.1 bt427.2.2.2.2.2.2.2.1 bt427.2.2.2.2.2.2.2.2.1 bt427.2.2.2.2.2.2.2.2.2.1 bt427.2.2.2.2.2.2.2.2.2.2.1 bt427.2.2.2.2.2.2.2.2.2.2.2.1 bt427.2.2.2.2.2.2.2.2.2.2.2.2.1))))))) = some r := H
     have A30 := ak_ A300
     clear A300
     replace H := bind_eq_some_iff.mp H
     obtain ⟨⟨t427, t428, t429, t430, t433, t434, t435, t436, t437, t438, t439, t440, t441, t442⟩, A310, H⟩ := H
     replace H : ((medlarref16_From.f kj5 l2).bind fun bt444 => ((head_Length.f a3).bind fun bt461 => ((medlarref16_Length.f a3).bind fun bt463 => ((medlarref16_SameBytes.f t419 t423).bind fun t465 => (if t465 = true then (if t422 = t426 then ((medlarref16_Same.f kj5 t427 t428 t429 t430 t433 t434 t435 t436 t437 t438 t439 t440 t441 bt444.1 bt444.2.1 bt444.2.2.1 bt444.2.2.2.1 bt444.2.2.2.2.1 bt444.2.2.2.2.2.1 bt444.2.2.2.2.2.2.1 bt444.2.2.2.2.2.2.2.1 bt444.2.2.2.2.2.2.2.2.1 bt444.2.2.2.2.2.2.2.2.2.1 bt444.2.2.2.2.2.2.2.2.2.2.1 bt444.2.2.2.2.2.2.2.2.2.2.2.1 bt444.2.2.2.2.2.2.2.2.2.2.2.2.1).bind fun t466 => (if t466 = true then (if t442 = bt444.2.2.2.2.2.2.2.2.2.2.2.2.2 then (if bt461.1 = bt463.1 then (if bt461.2 = bt463.2 then ((head_Check.f kj5 a0_0 a0_1 a0_2 l0_3 a0_4 a0_5 a0_6 a0_7 a0_8 a0_9 a0_10 a0_11 a0_12).bind fun t467 => ((medlarref16_Check.f kj5 a0_0 a0_1 a0_2 l0_3 a0_4 a0_5 a0_6 a0_7 a0_8 a0_9 a0_10 a0_11 a0_12).bind fun t468 => (if t467 = t468 then ((head_Same.f kj5 a0_0 a0_1 a0_2 l0_3 a0_4 a0_5 a0_6 a0_7 a0_8 a0_9 a0_10 a0_11 a0_12 a1_0 a1_1 a1_2 l1_3 a1_4 a1_5 a1_6 a1_7 a1_8 a1_9 a1_10 a1_11 a1_12).bind fun t469 => ((medlarref16_Same.f kj5 a0_0 a0_1 a0_2 l0_3 a0_4 a0_5 a0_6 a0_7 a0_8 a0_9 a0_10 a0_11 a0_12 a1_0 a1_1 a1_2 l1_3 a1_4 a1_5 a1_6 a1_7 a1_8 a1_9 a1_10 a1_11 a1_12).bind fun t470 => (medlarlaw16_HeadDoes.j1 kj5 l2 t418 (strOfNums l2) (t469 == t470) t427 t428 t429 t430 t433 t434 t435 t436 t437 t438 t439 t440 t441))) else (medlarlaw16_HeadDoes.j1 kj5 l2 t418 (strOfNums l2) false t427 t428 t429 t430 t433 t434 t435 t436 t437 t438 t439 t440 t441)))) else (medlarlaw16_HeadDoes.j1 kj5 l2 t418 (strOfNums l2) false t427 t428 t429 t430 t433 t434 t435 t436 t437 t438 t439 t440 t441)) else (medlarlaw16_HeadDoes.j1 kj5 l2 t418 (strOfNums l2) false t427 t428 t429 t430 t433 t434 t435 t436 t437 t438 t439 t440 t441)) else (medlarlaw16_HeadDoes.j1 kj5 l2 t418 (strOfNums l2) false t427 t428 t429 t430 t433 t434 t435 t436 t437 t438 t439 t440 t441)) else (medlarlaw16_HeadDoes.j1 kj5 l2 t418 (strOfNums l2) false t427 t428 t429 t430 t433 t434 t435 t436 t437 t438 t439 t440 t441))) else (medlarlaw16_HeadDoes.j1 kj5 l2 t418 (strOfNums l2) false t427 t428 t429 t430 t433 t434 t435 t436 t437 t438 t439 t440 t441)) else (medlarlaw16_HeadDoes.j1 kj5 l2 t418 (strOfNums l2) false t427 t428 t429 t430 t433 t434 t435 t436 t437 t438 t439 t440 t441)))))) = some r := H
     have A31 := ak_ A310
     clear A310
     replace H := bind_eq_some_iff.mp H
     obtain ⟨⟨t444, t445, t446, t447, t450, t451, t452, t453, t454, t455, t456, t457, t458, t459⟩, A320, H⟩ := H
     replace H : ((head_Length.f a3).bind fun bt461 => ((medlarref16_Length.f a3).bind fun bt463 => ((medlarref16_SameBytes.f t419 t423).bind fun t465 => (if t465 = true then (if t422 = t426 then ((medlarref16_Same.f kj5 t427 t428 t429 t430 t433 t434 t435 t436 t437 t438 t439 t440 t441 t444 t445 t446 t447 t450 t451 t452 t453 t454 t455 t456 t457 t458).bind fun t466 => (if t466 = true then (if t442 = t459 then (if bt461.1 = bt463.1 then (if bt461.2 = bt463.2 then ((head_Check.f kj5 a0_0 a0_1 a0_2 l0_3 a0_4 a0_5 a0_6 a0_7 a0_8 a0_9 a0_10 a0_11 a0_12).bind fun t467 => ((medlarref16_Check.f kj5 a0_0 a0_1 a0_2 l0_3 a0_4 a0_5 a0_6 a0_7 a0_8 a0_9 a0_10 a0_11 a0_12).bind fun t468 => (if t467 = t468 then ((head_Same.f kj5 a0_0 a0_1 a0_2 l0_3 a0_4 a0_5 a0_6 a0_7 a0_8 a0_9 a0_10 a0_11 a0_12 a1_0 a1_1 a1_2 l1_3 a1_4 a1_5 a1_6 a1_7 a1_8 a1_9 a1_10 a1_11 a1_12).bind fun t469 => ((medlarref16_Same.f kj5 a0_0 a0_1 a0_2 l0_3 a0_4 a0_5 a0_6 a0_7 a0_8 a0_9 a0_10 a0_11 a0_12 a1_0 a1_1 a1_2 l1_3 a1_4 a1_5 a1_6 a1_7 a1_8 a1_9 a1_10 a1_11 a1_12).bind fun t470 => (medlarlaw16_HeadDoes.j1 kj5 l2 t418 (strOfNums l2) (t469 == t470) t427 t428 t429 t430 t433 t434 t435 t436 t437 t438 t439 t440 t441))) else (medlarlaw16_HeadDoes.j1 kj5 l2 t418 (strOfNums l2) false t427 t428 t429 t430 t433 t434 t435 t436 t437 t438 t439 t440 t441)))) else (medlarlaw16_HeadDoes.j1 kj5 l2 t418 (strOfNums l2) false t427 t428 t429 t430 t433 t434 t435 t436 t437 t438 t439 t440 t441)) else (medlarlaw16_HeadDoes.j1 kj5 l2 t418 (strOfNums l2) false t427 t428 t429 t430 t433 t434 t435 t436 t437 t438 t439 t440 t441)) else (medlarlaw16_HeadDoes.j1 kj5 l2 t418 (strOfNums l2) false t427 t428 t429 t430 t433 t434 t435 t436 t437 t438 t439 t440 t441)) else (medlarlaw16_HeadDoes.j1 kj5 l2 t418 (strOfNums l2) false t427 t428 t429 t430 t433 t434 t435 t436 t437 t438 t439 t440 t441))) else (medlarlaw16_HeadDoes.j1 kj5 l2 t418 (strOfNums l2) false t427 t428 t429 t430 t433 t434 t435 t436 t437 t438 t439 t440 t441)) else (medlarlaw16_HeadDoes.j1 kj5 l2 t418 (strOfNums l2) false t427 t428 t429 t430 t433 t434 t435 t436 t437 t438 t439 t440 t441))))) = some r := H
     have A32 := ak_ A320
     clear A320
     replace H := bind_eq_some_iff.mp H
     obtain ⟨⟨t461, t462⟩, A330, H⟩ := H
     replace H : ((medlarref16_Length.f a3).bind fun bt463 => ((medlarref16_SameBytes.f t419 t423).bind fun t465 => (if t465 = true then (if t422 = t426 then ((medlarref16_Same.f kj5 t427 t428 t429 t430 t433 t434 t435 t436 t437 t438 t439 t440 t441 t444 t445 t446 t447 t450 t451 t452 t453 t454 t455 t456 t457 t458).bind fun t466 => (if t466 = true then (if t442 = t459 then (if t461 = bt463.1 then (if t462 = bt463.2 then ((head_Check.f kj5 a0_0 a0_1 a0_2 l0_3 a0_4 a0_5 a0_6 a0_7 a0_8 a0_9 a0_10 a0_11 a0_12).bind fun t467 => ((medlarref16_Check.f kj5 a0_0 a0_1 a0_2 l0_3 a0_4 a0_5 a0_6 a0_7 a0_8 a0_9 a0_10 a0_11 a0_12).bind fun t468 => (if t467 = t468 then ((head_Same.f kj5 a0_0 a0_1 a0_2 l0_3 a0_4 a0_5 a0_6 a0_7 a0_8 a0_9 a0_10 a0_11 a0_12 a1_0 a1_1 a1_2 l1_3 a1_4 a1_5 a1_6 a1_7 a1_8 a1_9 a1_10 a1_11 a1_12).bind fun t469 => ((medlarref16_Same.f kj5 a0_0 a0_1 a0_2 l0_3 a0_4 a0_5 a0_6 a0_7 a0_8 a0_9 a0_10 a0_11 a0_12 a1_0 a1_1 a1_2 l1_3 a1_4 a1_5 a1_6 a1_7 a1_8 a1_9 a1_10 a1_11 a1_12).bind fun t470 => (medlarlaw16_HeadDoes.j1 kj5 l2 t418 (strOfNums l2) (t469 == t470) t427 t428 t429 t430 t433 t434 t435 t436 t437 t438 t439 t440 t441))) else (medlarlaw16_HeadDoes.j1 kj5 l2 t418 (strOfNums l2) false t427 t428 t429 t430 t433 t434 t435 t436 t437 t438 t439 t440 t441)))) else (medlarlaw16_HeadDoes.j1 kj5 l2 t418 (strOfNums l2) false t427 t428 t429 t430 t433 t434 t435 t436 t437 t438 t439 t440 t441)) else (medlarlaw16_HeadDoes.j1 kj5 l2 t418 (strOfNums l2) false t427 t428 t429 t430 t433 t434 t435 t436 t437 t438 t439 t440 t441)) else (medlarlaw16_HeadDoes.j1 kj5 l2 t418 (strOfNums l2) false t427 t428 t429 t430 t433 t434 t435 t436 t437 t438 t439 t440 t441)) else (medlarlaw16_HeadDoes.j1 kj5 l2 t418 (strOfNums l2) false t427 t428 t429 t430 t433 t434 t435 t436 t437 t438 t439 t440 t441))) else (medlarlaw16_HeadDoes.j1 kj5 l2 t418 (strOfNums l2) false t427 t428 t429 t430 t433 t434 t435 t436 t437 t438 t439 t440 t441)) else (medlarlaw16_HeadDoes.j1 kj5 l2 t418 (strOfNums l2) false t427 t428 t429 t430 t433 t434 t435 t436 t437 t438 t439 t440 t441)))) = some r := H
     have A33 := ak_ A330
     clear A330
     replace H := bind_eq_some_iff.mp H
     obtain ⟨⟨t463, t464⟩, A340, H⟩ := H
     replace H : ((medlarref16_SameBytes.f t419 t423).bind fun t465 => (if t465 = true then (if t422 = t426 then ((medlarref16_Same.f kj5 t427 t428 t429 t430 t433 t434 t435 t436 t437 t438 t439 t440 t441 t444 t445 t446 t447 t450 t451 t452 t453 t454 t455 t456 t457 t458).bind fun t466 => (if t466 = true then (if t442 = t459 then (if t461 = t463 then (if t462 = t464 then ((head_Check.f kj5 a0_0 a0_1 a0_2 l0_3 a0_4 a0_5 a0_6 a0_7 a0_8 a0_9 a0_10 a0_11 a0_12).bind fun t467 => ((medlarref16_Check.f kj5 a0_0 a0_1 a0_2 l0_3 a0_4 a0_5 a0_6 a0_7 a0_8 a0_9 a0_10 a0_11 a0_12).bind fun t468 => (if t467 = t468 then ((head_Same.f kj5 a0_0 a0_1 a0_2 l0_3 a0_4 a0_5 a0_6 a0_7 a0_8 a0_9 a0_10 a0_11 a0_12 a1_0 a1_1 a1_2 l1_3 a1_4 a1_5 a1_6 a1_7 a1_8 a1_9 a1_10 a1_11 a1_12).bind fun t469 => ((medlarref16_Same.f kj5 a0_0 a0_1 a0_2 l0_3 a0_4 a0_5 a0_6 a0_7 a0_8 a0_9 a0_10 a0_11 a0_12 a1_0 a1_1 a1_2 l1_3 a1_4 a1_5 a1_6 a1_7 a1_8 a1_9 a1_10 a1_11 a1_12).bind fun t470 => (medlarlaw16_HeadDoes.j1 kj5 l2 t418 (strOfNums l2) (t469 == t470) t427 t428 t429 t430 t433 t434 t435 t436 t437 t438 t439 t440 t441))) else (medlarlaw16_HeadDoes.j1 kj5 l2 t418 (strOfNums l2) false t427 t428 t429 t430 t433 t434 t435 t436 t437 t438 t439 t440 t441)))) else (medlarlaw16_HeadDoes.j1 kj5 l2 t418 (strOfNums l2) false t427 t428 t429 t430 t433 t434 t435 t436 t437 t438 t439 t440 t441)) else (medlarlaw16_HeadDoes.j1 kj5 l2 t418 (strOfNums l2) false t427 t428 t429 t430 t433 t434 t435 t436 t437 t438 t439 t440 t441)) else (medlarlaw16_HeadDoes.j1 kj5 l2 t418 (strOfNums l2) false t427 t428 t429 t430 t433 t434 t435 t436 t437 t438 t439 t440 t441)) else (medlarlaw16_HeadDoes.j1 kj5 l2 t418 (strOfNums l2) false t427 t428 t429 t430 t433 t434 t435 t436 t437 t438 t439 t440 t441))) else (medlarlaw16_HeadDoes.j1 kj5 l2 t418 (strOfNums l2) false t427 t428 t429 t430 t433 t434 t435 t436 t437 t438 t439 t440 t441)) else (medlarlaw16_HeadDoes.j1 kj5 l2 t418 (strOfNums l2) false t427 t428 t429 t430 t433 t434 t435 t436 t437 t438 t439 t440 t441))) = some r := H
     have A34 := ak_ A340
     clear A340
     have HC35 := ak_ H
     clear H
     have hcv36 := Kd.C_string (P := Try.prog) (A := A2) (c := c2) underlying35 underlying5 underlying9 (Kd.C_below HR2.out HB.out)
     have hnb37 := NB416_417.out
     have hnc37 := NB417_416.out
     obtain ⟨hcz38_0, hcz38_1, hcz38_2, hcz38_3, hcz38_4, hcz38_5, hcz38_6, hcz38_7, hcz38_8, hcz38_9, hcz38_10, hcz38_11, hcz38_12, hfz38_0, hfz38_1, hfz38_2, hfz38_3, hfz38_4, hfz38_5, hfz38_6, hfz38_7, hfz38_8, hfz38_9, hfz38_10, hfz38_11, hfz38_12⟩ := kc13_ BK416.out
     go_upto_region 11 with (first | ((with_reducible refine gate_callee (f := 17) rfl ?_); refine gl_ (some 56) func17 #[.agg #[.int .i64 a0_0, .int .i64 a0_1, .int .i64 a0_2, .slice A0_3 l0_3.length c0_3, .bool a0_4, .bool a0_5, .int .u64 a0_6, .int .u64 a0_7, .int .u64 a0_8, .int .u64 a0_9, .int .u64 a0_10, .int .u64 a0_11, .int .i64 a0_12]] ?_; (with_reducible refine (head_Bytes.calls kj5 a0_0 a0_1 a0_2 _ _ l0_3 a0_4 a0_5 a0_6 a0_7 a0_8 a0_9 a0_10 a0_11 a0_12 t419 t422 _ ?side1 ?side2 A29.out).mono ?_); (case side1 => repeat (first | exact (Kd.C_below HR0_3.out HB.out) | (with_reducible refine Kd.C_alloc ?_ _) | (with_reducible refine Kd.C_drewN ?_ _) | (with_reducible refine Kd.C_drew ?_))); (case side2 => exact HC0_3.out); rintro e w39 ⟨v420, rfl, ho0, hb⟩; refine ⟨_, rfl, ?_⟩; have HO421 := ak_ (Kd.R_lower ho0 (bz_ (bw2_ HB GE416 GE417))); replace BK416 := ak_ (kb_ (kl_ BK416) hb); replace BK417 := ak_ (kb_ (kl_ BK417) hb); replace HB := ak_ (bt_ (bw2_ HB GE416 GE417) hb); (try clear hb); (try clear hk); (try clear ho0); have hcz40_0 := kq_ BK416.out 0 rfl; have hcz40_1 := kq_ BK416.out 1 rfl; have hcz40_2 := kq_ BK416.out 2 rfl; have hcz40_3 := kq_ BK416.out 3 rfl; have hcz40_4 := kq_ BK416.out 4 rfl; have hcz40_5 := kq_ BK416.out 5 rfl; have hcz40_6 := kq_ BK416.out 6 rfl; have hcz40_7 := kq_ BK416.out 7 rfl; have hcz40_8 := kq_ BK416.out 8 rfl; have hcz40_9 := kq_ BK416.out 9 rfl; have hcz40_10 := kq_ BK416.out 10 rfl; have hcz40_11 := kq_ BK416.out 11 rfl; have hcz40_12 := kq_ BK416.out 12 rfl; have hfz40_0 := kf_ BK416.out 0; have hfz40_1 := kf_ BK416.out 1; have hfz40_2 := kf_ BK416.out 2; have hfz40_3 := kf_ BK416.out 3; have hfz40_4 := kf_ BK416.out 4; have hfz40_5 := kf_ BK416.out 5; have hfz40_6 := kf_ BK416.out 6; have hfz40_7 := kf_ BK416.out 7; have hfz40_8 := kf_ BK416.out 8; have hfz40_9 := kf_ BK416.out 9; have hfz40_10 := kf_ BK416.out 10; have hfz40_11 := kf_ BK416.out 11; have hfz40_12 := kf_ BK416.out 12) | ((with_reducible refine gate_callee (f := 20) rfl ?_); refine gl_ (some 61) func20 #[.agg #[.int .i64 a0_0, .int .i64 a0_1, .int .i64 a0_2, .slice A0_3 l0_3.length c0_3, .bool a0_4, .bool a0_5, .int .u64 a0_6, .int .u64 a0_7, .int .u64 a0_8, .int .u64 a0_9, .int .u64 a0_10, .int .u64 a0_11, .int .i64 a0_12]] ?_; (with_reducible refine (medlarref16_Bytes.calls kj5 a0_0 a0_1 a0_2 _ _ l0_3 a0_4 a0_5 a0_6 a0_7 a0_8 a0_9 a0_10 a0_11 a0_12 t423 t426 _ ?side1 ?side2 A30.out).mono ?_); (case side1 => repeat (first | exact (Kd.C_below HR0_3.out HB.out) | (with_reducible refine Kd.C_alloc ?_ _) | (with_reducible refine Kd.C_drewN ?_ _) | (with_reducible refine Kd.C_drew ?_))); (case side2 => exact HC0_3.out); rintro e w41 ⟨v424, rfl, ho0, hb⟩; refine ⟨_, rfl, ?_⟩; have HO425 := ak_ (Kd.R_lower (Kd.R_new' ho0 (Kd.R_lt (rl_ HO421))) (bz_ (bw2_ HB GE416 GE417))); replace HO421 := ak_ (Kd.R_elder' (rl_ HO421) (Kd.R_base ho0) hb); replace BK416 := ak_ (kb_ (kl_ BK416) hb); replace BK417 := ak_ (kb_ (kl_ BK417) hb); replace HB := ak_ (bt_ (bw2_ HB GE416 GE417) hb); (try clear hb); (try clear hk); (try clear ho0)) | ((with_reducible refine gate_callee (f := 19) rfl ?_); refine gl_ (some 66) func19 #[.slice A2 l2.length c2] ?_; (with_reducible refine (head_From.calls kj5 _ _ l2 t427 t428 t429 t430 t433 t434 t435 t436 t437 t438 t439 t440 t441 t442 _ ?side1 ?side2 A31.out).mono ?_); (case side1 => repeat (first | exact (Kd.C_below HR2.out HB.out) | (with_reducible refine Kd.C_alloc ?_ _) | (with_reducible refine Kd.C_drewN ?_ _) | (with_reducible refine Kd.C_drew ?_))); (case side2 => exact HC2.out); rintro e w42 ⟨v431, rfl, ho0, hb⟩; refine ⟨_, rfl, ?_⟩; replace HO421 := ak_ (Kd.R_below (rl_ HO421) hb); replace HO425 := ak_ (Kd.R_below (rl_ HO425) hb); have HO432 := ak_ (Kd.R_lower ho0 (bz_ (bw2_ HB GE416 GE417))); replace BK416 := ak_ (kb_ (kl_ BK416) hb); replace BK417 := ak_ (kb_ (kl_ BK417) hb); replace HB := ak_ (bt_ (bw2_ HB GE416 GE417) hb); (try clear hb); (try clear hk); (try clear ho0)) | ((with_reducible refine gate_dst (N := 15) rfl ?_); (try (refine gate_guard (by rfl) ?_; dsimp only)); refine bx_ 15 #[.int .i64 0, .int .i64 0, .int .i64 0, .slice none 0 0, .bool false, .bool false, .int .u64 0, .int .u64 0, .int .u64 0, .int .u64 0, .int .u64 0, .int .u64 0, .int .i64 0] 31 ?_; intro gb443 hg w43 hbox hb; replace HO421 := ak_ (Kd.R_below (rl_ HO421) hb); replace HO425 := ak_ (Kd.R_below (rl_ HO425) hb); replace HO432 := ak_ (Kd.R_below (rl_ HO432) hb); have BK443 := ak_ hbox; have GW443 := ak_ (gw2_ HB GE416 GE417 hg); have GE443 := ak_ (gw2_ HB GE416 GE417 hg); replace HB := ak_ (bt_ (bw2_ HB GE416 GE417) hb); have NB416_443 := ak_ (nl_ hg BK416); have NB443_416 := ak_ (nr_ hg BK416); replace BK416 := ak_ (kb_ (kl_ BK416) hb); have NB417_443 := ak_ (nl_ hg BK417); have NB443_417 := ak_ (nr_ hg BK417); replace BK417 := ak_ (kb_ (kl_ BK417) hb); clear hb hbox hg; have hnb44 := NB443_416.out; have hnc44 := NB416_443.out; have hnb45 := NB443_417.out; have hnc45 := NB417_443.out; have hcz46_0 := kq_ BK443.out 0 rfl; have hcz46_1 := kq_ BK443.out 1 rfl; have hcz46_2 := kq_ BK443.out 2 rfl; have hcz46_3 := kq_ BK443.out 3 rfl; have hcz46_4 := kq_ BK443.out 4 rfl; have hcz46_5 := kq_ BK443.out 5 rfl; have hcz46_6 := kq_ BK443.out 6 rfl; have hcz46_7 := kq_ BK443.out 7 rfl; have hcz46_8 := kq_ BK443.out 8 rfl; have hcz46_9 := kq_ BK443.out 9 rfl; have hcz46_10 := kq_ BK443.out 10 rfl; have hcz46_11 := kq_ BK443.out 11 rfl; have hcz46_12 := kq_ BK443.out 12 rfl; have hfz46_0 := kf_ BK443.out 0; have hfz46_1 := kf_ BK443.out 1; have hfz46_2 := kf_ BK443.out 2; have hfz46_3 := kf_ BK443.out 3; have hfz46_4 := kf_ BK443.out 4; have hfz46_5 := kf_ BK443.out 5; have hfz46_6 := kf_ BK443.out 6; have hfz46_7 := kf_ BK443.out 7; have hfz46_8 := kf_ BK443.out 8; have hfz46_9 := kf_ BK443.out 9; have hfz46_10 := kf_ BK443.out 10; have hfz46_11 := kf_ BK443.out 11; have hfz46_12 := kf_ BK443.out 12; obtain ⟨Ao47, co47, eo47⟩ := Kd.R_slice HO432.out; subst eo47) | ((with_reducible refine gate_callee (f := 21) rfl ?_); refine gl_ (some 71) func21 #[.slice A2 l2.length c2] ?_; (with_reducible refine (medlarref16_From.calls kj5 _ _ l2 t444 t445 t446 t447 t450 t451 t452 t453 t454 t455 t456 t457 t458 t459 _ ?side1 ?side2 A32.out).mono ?_); (case side1 => exact Kd.C_below HR2.out (bw3_ HB GE416 GE417 GE443)); (case side2 => exact HC2.out); rintro e w48 ⟨v448, rfl, ho0, hb⟩; refine ⟨_, rfl, ?_⟩; replace HO421 := ak_ (Kd.R_below (by (with_reducible repeat (first | apply Kd.R_alloc | apply Kd.R_drewN | apply Kd.R_drew)); exact (Kd.R_mono (Kd.R_far (p := ⟨gb443, 12, none⟩) (Kd.R_far (p := ⟨gb443, 11, none⟩) (Kd.R_far (p := ⟨gb443, 10, none⟩) (Kd.R_far (p := ⟨gb443, 9, none⟩) (Kd.R_far (p := ⟨gb443, 8, none⟩) (Kd.R_far (p := ⟨gb443, 7, none⟩) (Kd.R_far (p := ⟨gb443, 6, none⟩) (Kd.R_far (p := ⟨gb443, 5, none⟩) (Kd.R_far (p := ⟨gb443, 4, none⟩) (Kd.R_far (p := ⟨gb443, 3, none⟩) (Kd.R_far (p := ⟨gb443, 2, none⟩) (Kd.R_far (p := ⟨gb443, 1, none⟩) (Kd.R_far (p := ⟨gb443, 0, none⟩) (Kd.R_types HO421.out BK443.out (by decide)) (fun _ hk => hk.2) (.int .i64 t427)) (fun _ hk => hk.2) (.int .i64 t428)) (fun _ hk => hk.2) (.int .i64 t429)) (fun _ hk => hk.2) (.slice Ao47 t430.length co47)) (fun _ hk => hk.2) (.bool t433)) (fun _ hk => hk.2) (.bool t434)) (fun _ hk => hk.2) (.int .u64 t435)) (fun _ hk => hk.2) (.int .u64 t436)) (fun _ hk => hk.2) (.int .u64 t437)) (fun _ hk => hk.2) (.int .u64 t438)) (fun _ hk => hk.2) (.int .u64 t439)) (fun _ hk => hk.2) (.int .u64 t440)) (fun _ hk => hk.2) (.int .i64 t441)) (fun _ h_ => h_.1))) hb); replace HO425 := ak_ (Kd.R_below (by (with_reducible repeat (first | apply Kd.R_alloc | apply Kd.R_drewN | apply Kd.R_drew)); exact (Kd.R_mono (Kd.R_far (p := ⟨gb443, 12, none⟩) (Kd.R_far (p := ⟨gb443, 11, none⟩) (Kd.R_far (p := ⟨gb443, 10, none⟩) (Kd.R_far (p := ⟨gb443, 9, none⟩) (Kd.R_far (p := ⟨gb443, 8, none⟩) (Kd.R_far (p := ⟨gb443, 7, none⟩) (Kd.R_far (p := ⟨gb443, 6, none⟩) (Kd.R_far (p := ⟨gb443, 5, none⟩) (Kd.R_far (p := ⟨gb443, 4, none⟩) (Kd.R_far (p := ⟨gb443, 3, none⟩) (Kd.R_far (p := ⟨gb443, 2, none⟩) (Kd.R_far (p := ⟨gb443, 1, none⟩) (Kd.R_far (p := ⟨gb443, 0, none⟩) (Kd.R_types HO425.out BK443.out (by decide)) (fun _ hk => hk.2) (.int .i64 t427)) (fun _ hk => hk.2) (.int .i64 t428)) (fun _ hk => hk.2) (.int .i64 t429)) (fun _ hk => hk.2) (.slice Ao47 t430.length co47)) (fun _ hk => hk.2) (.bool t433)) (fun _ hk => hk.2) (.bool t434)) (fun _ hk => hk.2) (.int .u64 t435)) (fun _ hk => hk.2) (.int .u64 t436)) (fun _ hk => hk.2) (.int .u64 t437)) (fun _ hk => hk.2) (.int .u64 t438)) (fun _ hk => hk.2) (.int .u64 t439)) (fun _ hk => hk.2) (.int .u64 t440)) (fun _ hk => hk.2) (.int .i64 t441)) (fun _ h_ => h_.1))) hb); have HO449 := ak_ (Kd.R_lower (Kd.R_new' ho0 (Kd.R_lt (by (with_reducible repeat (first | apply Kd.R_alloc | apply Kd.R_drewN | apply Kd.R_drew)); exact (Kd.R_mono (Kd.R_far (p := ⟨gb443, 12, none⟩) (Kd.R_far (p := ⟨gb443, 11, none⟩) (Kd.R_far (p := ⟨gb443, 10, none⟩) (Kd.R_far (p := ⟨gb443, 9, none⟩) (Kd.R_far (p := ⟨gb443, 8, none⟩) (Kd.R_far (p := ⟨gb443, 7, none⟩) (Kd.R_far (p := ⟨gb443, 6, none⟩) (Kd.R_far (p := ⟨gb443, 5, none⟩) (Kd.R_far (p := ⟨gb443, 4, none⟩) (Kd.R_far (p := ⟨gb443, 3, none⟩) (Kd.R_far (p := ⟨gb443, 2, none⟩) (Kd.R_far (p := ⟨gb443, 1, none⟩) (Kd.R_far (p := ⟨gb443, 0, none⟩) (Kd.R_types HO432.out BK443.out (by decide)) (fun _ hk => hk.2) (.int .i64 t427)) (fun _ hk => hk.2) (.int .i64 t428)) (fun _ hk => hk.2) (.int .i64 t429)) (fun _ hk => hk.2) (.slice Ao47 t430.length co47)) (fun _ hk => hk.2) (.bool t433)) (fun _ hk => hk.2) (.bool t434)) (fun _ hk => hk.2) (.int .u64 t435)) (fun _ hk => hk.2) (.int .u64 t436)) (fun _ hk => hk.2) (.int .u64 t437)) (fun _ hk => hk.2) (.int .u64 t438)) (fun _ hk => hk.2) (.int .u64 t439)) (fun _ hk => hk.2) (.int .u64 t440)) (fun _ hk => hk.2) (.int .i64 t441)) (fun _ h_ => h_.1))))) (bz_ (bw3_ HB GE416 GE417 GE443))); replace HO432 := ak_ (Kd.R_elder' (by (with_reducible repeat (first | apply Kd.R_alloc | apply Kd.R_drewN | apply Kd.R_drew)); exact (Kd.R_mono (Kd.R_far (p := ⟨gb443, 12, none⟩) (Kd.R_far (p := ⟨gb443, 11, none⟩) (Kd.R_far (p := ⟨gb443, 10, none⟩) (Kd.R_far (p := ⟨gb443, 9, none⟩) (Kd.R_far (p := ⟨gb443, 8, none⟩) (Kd.R_far (p := ⟨gb443, 7, none⟩) (Kd.R_far (p := ⟨gb443, 6, none⟩) (Kd.R_far (p := ⟨gb443, 5, none⟩) (Kd.R_far (p := ⟨gb443, 4, none⟩) (Kd.R_far (p := ⟨gb443, 3, none⟩) (Kd.R_far (p := ⟨gb443, 2, none⟩) (Kd.R_far (p := ⟨gb443, 1, none⟩) (Kd.R_far (p := ⟨gb443, 0, none⟩) (Kd.R_types HO432.out BK443.out (by decide)) (fun _ hk => hk.2) (.int .i64 t427)) (fun _ hk => hk.2) (.int .i64 t428)) (fun _ hk => hk.2) (.int .i64 t429)) (fun _ hk => hk.2) (.slice Ao47 t430.length co47)) (fun _ hk => hk.2) (.bool t433)) (fun _ hk => hk.2) (.bool t434)) (fun _ hk => hk.2) (.int .u64 t435)) (fun _ hk => hk.2) (.int .u64 t436)) (fun _ hk => hk.2) (.int .u64 t437)) (fun _ hk => hk.2) (.int .u64 t438)) (fun _ hk => hk.2) (.int .u64 t439)) (fun _ hk => hk.2) (.int .u64 t440)) (fun _ hk => hk.2) (.int .i64 t441)) (fun _ h_ => h_.1))) (Kd.R_base ho0) hb); replace BK416 := ak_ (kb_ (g := gb416) (o := .cells #[.int .i64 a0_0, .int .i64 a0_1, .int .i64 a0_2, .slice A0_3 l0_3.length c0_3, .bool a0_4, .bool a0_5, .int .u64 a0_6, .int .u64 a0_7, .int .u64 a0_8, .int .u64 a0_9, .int .u64 a0_10, .int .u64 a0_11, .int .i64 a0_12] 31 (0, 0)) (by (with_reducible repeat (first | refine kn_ ?_ _ | refine kd_ ?_ | refine ka_ ?_ _)); (iterate 13 refine blk_far ?_ NB416_443.out _); exact BK416.out) hb); replace BK417 := ak_ (kb_ (g := gb417) (o := .cells #[.int .i64 a1_0, .int .i64 a1_1, .int .i64 a1_2, .slice A1_3 l1_3.length c1_3, .bool a1_4, .bool a1_5, .int .u64 a1_6, .int .u64 a1_7, .int .u64 a1_8, .int .u64 a1_9, .int .u64 a1_10, .int .u64 a1_11, .int .i64 a1_12] 31 (0, 0)) (by (with_reducible repeat (first | refine kn_ ?_ _ | refine kd_ ?_ | refine ka_ ?_ _)); (iterate 13 refine blk_far ?_ NB417_443.out _); exact BK417.out) hb); replace BK443 := ak_ (kb_ (g := gb443) (o := .cells #[.int .i64 t427, .int .i64 t428, .int .i64 t429, .slice Ao47 t430.length co47, .bool t433, .bool t434, .int .u64 t435, .int .u64 t436, .int .u64 t437, .int .u64 t438, .int .u64 t439, .int .u64 t440, .int .i64 t441] 31 (0, 0)) (by (with_reducible repeat (first | refine kn_ ?_ _ | refine kd_ ?_ | refine ka_ ?_ _)); exact sC_blk BK443.out rfl rfl) hb); replace HB := ak_ (bt_ (bw3_ HB GE416 GE417 GE443) hb); (try clear hb); (try clear hk); (try clear ho0)) | ((with_reducible refine gate_dst (N := 17) rfl ?_); (try (refine gate_guard (by rfl) ?_; dsimp only)); refine bx_ 17 #[.int .i64 0, .int .i64 0, .int .i64 0, .slice none 0 0, .bool false, .bool false, .int .u64 0, .int .u64 0, .int .u64 0, .int .u64 0, .int .u64 0, .int .u64 0, .int .i64 0] 31 ?_; intro gb460 hg w49 hbox hb; replace HO421 := ak_ (Kd.R_below (rl_ HO421) hb); replace HO425 := ak_ (Kd.R_below (rl_ HO425) hb); replace HO432 := ak_ (Kd.R_below (rl_ HO432) hb); replace HO449 := ak_ (Kd.R_below (rl_ HO449) hb); have BK460 := ak_ hbox; have GW460 := ak_ (gw3_ HB GE416 GE417 GE443 hg); have GE460 := ak_ (gw3_ HB GE416 GE417 GE443 hg); replace HB := ak_ (bt_ (bw3_ HB GE416 GE417 GE443) hb); have NB416_460 := ak_ (nl_ hg BK416); have NB460_416 := ak_ (nr_ hg BK416); replace BK416 := ak_ (kb_ (kl_ BK416) hb); have NB417_460 := ak_ (nl_ hg BK417); have NB460_417 := ak_ (nr_ hg BK417); replace BK417 := ak_ (kb_ (kl_ BK417) hb); have NB443_460 := ak_ (nl_ hg BK443); have NB460_443 := ak_ (nr_ hg BK443); replace BK443 := ak_ (kb_ (kl_ BK443) hb); clear hb hbox hg; have hnb50 := NB460_416.out; have hnc50 := NB416_460.out; have hnb51 := NB460_417.out; have hnc51 := NB417_460.out; have hnb52 := NB460_443.out; have hnc52 := NB443_460.out; have hcz53_0 := kq_ BK460.out 0 rfl; have hcz53_1 := kq_ BK460.out 1 rfl; have hcz53_2 := kq_ BK460.out 2 rfl; have hcz53_3 := kq_ BK460.out 3 rfl; have hcz53_4 := kq_ BK460.out 4 rfl; have hcz53_5 := kq_ BK460.out 5 rfl; have hcz53_6 := kq_ BK460.out 6 rfl; have hcz53_7 := kq_ BK460.out 7 rfl; have hcz53_8 := kq_ BK460.out 8 rfl; have hcz53_9 := kq_ BK460.out 9 rfl; have hcz53_10 := kq_ BK460.out 10 rfl; have hcz53_11 := kq_ BK460.out 11 rfl; have hcz53_12 := kq_ BK460.out 12 rfl; have hfz53_0 := kf_ BK460.out 0; have hfz53_1 := kf_ BK460.out 1; have hfz53_2 := kf_ BK460.out 2; have hfz53_3 := kf_ BK460.out 3; have hfz53_4 := kf_ BK460.out 4; have hfz53_5 := kf_ BK460.out 5; have hfz53_6 := kf_ BK460.out 6; have hfz53_7 := kf_ BK460.out 7; have hfz53_8 := kf_ BK460.out 8; have hfz53_9 := kf_ BK460.out 9; have hfz53_10 := kf_ BK460.out 10; have hfz53_11 := kf_ BK460.out 11; have hfz53_12 := kf_ BK460.out 12; obtain ⟨Ao54, co54, eo54⟩ := Kd.R_slice HO449.out; subst eo54) | ((with_reducible refine gate_callee (f := 18) rfl ?_); refine gl_ (some 76) func18 #[.int .i64 a3] ?_; (with_reducible refine (head_Length.calls a3 t461 t462 _ A33.out).mono ?_); rintro e w' ⟨rfl, ⟨nda_, rfl⟩⟩; refine ⟨_, rfl, ?_⟩) | ((with_reducible refine gate_callee (f := 22) rfl ?_); refine gl_ (some 81) func22 #[.int .i64 a3] ?_; (with_reducible refine (medlarref16_Length.calls a3 t463 t464 _ A34.out).mono ?_); rintro e w' ⟨rfl, ⟨ndb_, rfl⟩⟩; refine ⟨_, rfl, ?_⟩))
     go_upto_region 11 with (first | ((with_reducible refine gate_callee (f := 17) rfl ?_); refine gl_ (some 56) func17 #[.agg #[.int .i64 a0_0, .int .i64 a0_1, .int .i64 a0_2, .slice A0_3 l0_3.length c0_3, .bool a0_4, .bool a0_5, .int .u64 a0_6, .int .u64 a0_7, .int .u64 a0_8, .int .u64 a0_9, .int .u64 a0_10, .int .u64 a0_11, .int .i64 a0_12]] ?_; (with_reducible refine (head_Bytes.calls kj5 a0_0 a0_1 a0_2 _ _ l0_3 a0_4 a0_5 a0_6 a0_7 a0_8 a0_9 a0_10 a0_11 a0_12 t419 t422 _ ?side1 ?side2 A29.out).mono ?_); (case side1 => repeat (first | exact (Kd.C_below HR0_3.out HB.out) | (with_reducible refine Kd.C_alloc ?_ _) | (with_reducible refine Kd.C_drewN ?_ _) | (with_reducible refine Kd.C_drew ?_))); (case side2 => exact HC0_3.out); rintro e w39 ⟨v420, rfl, ho0, hb⟩; refine ⟨_, rfl, ?_⟩; have HO421 := ak_ (Kd.R_lower ho0 (bz_ (bw2_ HB GE416 GE417))); replace BK416 := ak_ (kb_ (kl_ BK416) hb); replace BK417 := ak_ (kb_ (kl_ BK417) hb); replace HB := ak_ (bt_ (bw2_ HB GE416 GE417) hb); (try clear hb); (try clear hk); (try clear ho0); obtain ⟨hcz40_0, hcz40_1, hcz40_2, hcz40_3, hcz40_4, hcz40_5, hcz40_6, hcz40_7, hcz40_8, hcz40_9, hcz40_10, hcz40_11, hcz40_12, hfz40_0, hfz40_1, hfz40_2, hfz40_3, hfz40_4, hfz40_5, hfz40_6, hfz40_7, hfz40_8, hfz40_9, hfz40_10, hfz40_11, hfz40_12⟩ := kc13_ BK416.out) | ((with_reducible refine gate_callee (f := 20) rfl ?_); refine gl_ (some 61) func20 #[.agg #[.int .i64 a0_0, .int .i64 a0_1, .int .i64 a0_2, .slice A0_3 l0_3.length c0_3, .bool a0_4, .bool a0_5, .int .u64 a0_6, .int .u64 a0_7, .int .u64 a0_8, .int .u64 a0_9, .int .u64 a0_10, .int .u64 a0_11, .int .i64 a0_12]] ?_; (with_reducible refine (medlarref16_Bytes.calls kj5 a0_0 a0_1 a0_2 _ _ l0_3 a0_4 a0_5 a0_6 a0_7 a0_8 a0_9 a0_10 a0_11 a0_12 t423 t426 _ ?side1 ?side2 A30.out).mono ?_); (case side1 => repeat (first | exact (Kd.C_below HR0_3.out HB.out) | (with_reducible refine Kd.C_alloc ?_ _) | (with_reducible refine Kd.C_drewN ?_ _) | (with_reducible refine Kd.C_drew ?_))); (case side2 => exact HC0_3.out); rintro e w41 ⟨v424, rfl, ho0, hb⟩; refine ⟨_, rfl, ?_⟩; have HO425 := ak_ (Kd.R_lower (Kd.R_new' ho0 (Kd.R_lt (rl_ HO421))) (bz_ (bw2_ HB GE416 GE417))); replace HO421 := ak_ (Kd.R_elder' (rl_ HO421) (Kd.R_base ho0) hb); replace BK416 := ak_ (kb_ (kl_ BK416) hb); replace BK417 := ak_ (kb_ (kl_ BK417) hb); replace HB := ak_ (bt_ (bw2_ HB GE416 GE417) hb); (try clear hb); (try clear hk); (try clear ho0)) | ((with_reducible refine gate_callee (f := 19) rfl ?_); refine gl_ (some 66) func19 #[.slice A2 l2.length c2] ?_; (with_reducible refine (head_From.calls kj5 _ _ l2 t427 t428 t429 t430 t433 t434 t435 t436 t437 t438 t439 t440 t441 t442 _ ?side1 ?side2 A31.out).mono ?_); (case side1 => repeat (first | exact (Kd.C_below HR2.out HB.out) | (with_reducible refine Kd.C_alloc ?_ _) | (with_reducible refine Kd.C_drewN ?_ _) | (with_reducible refine Kd.C_drew ?_))); (case side2 => exact HC2.out); rintro e w42 ⟨v431, rfl, ho0, hb⟩; refine ⟨_, rfl, ?_⟩; replace HO421 := ak_ (Kd.R_below (rl_ HO421) hb); replace HO425 := ak_ (Kd.R_below (rl_ HO425) hb); have HO432 := ak_ (Kd.R_lower ho0 (bz_ (bw2_ HB GE416 GE417))); replace BK416 := ak_ (kb_ (kl_ BK416) hb); replace BK417 := ak_ (kb_ (kl_ BK417) hb); replace HB := ak_ (bt_ (bw2_ HB GE416 GE417) hb); (try clear hb); (try clear hk); (try clear ho0)) | ((with_reducible refine gate_dst (N := 15) rfl ?_); (try (refine gate_guard (by rfl) ?_; dsimp only)); refine bx_ 15 #[.int .i64 0, .int .i64 0, .int .i64 0, .slice none 0 0, .bool false, .bool false, .int .u64 0, .int .u64 0, .int .u64 0, .int .u64 0, .int .u64 0, .int .u64 0, .int .i64 0] 31 ?_; intro gb443 hg w43 hbox hb; replace HO421 := ak_ (Kd.R_below (rl_ HO421) hb); replace HO425 := ak_ (Kd.R_below (rl_ HO425) hb); replace HO432 := ak_ (Kd.R_below (rl_ HO432) hb); have BK443 := ak_ hbox; have GW443 := ak_ (gw2_ HB GE416 GE417 hg); have GE443 := ak_ (gw2_ HB GE416 GE417 hg); replace HB := ak_ (bt_ (bw2_ HB GE416 GE417) hb); have NB416_443 := ak_ (nl_ hg BK416); have NB443_416 := ak_ (nr_ hg BK416); replace BK416 := ak_ (kb_ (kl_ BK416) hb); have NB417_443 := ak_ (nl_ hg BK417); have NB443_417 := ak_ (nr_ hg BK417); replace BK417 := ak_ (kb_ (kl_ BK417) hb); clear hb hbox hg; have hnb44 := NB443_416.out; have hnc44 := NB416_443.out; have hnb45 := NB443_417.out; have hnc45 := NB417_443.out; obtain ⟨hcz46_0, hcz46_1, hcz46_2, hcz46_3, hcz46_4, hcz46_5, hcz46_6, hcz46_7, hcz46_8, hcz46_9, hcz46_10, hcz46_11, hcz46_12, hfz46_0, hfz46_1, hfz46_2, hfz46_3, hfz46_4, hfz46_5, hfz46_6, hfz46_7, hfz46_8, hfz46_9, hfz46_10, hfz46_11, hfz46_12⟩ := kc13_ BK443.out; obtain ⟨Ao47, co47, eo47⟩ := Kd.R_slice HO432.out; subst eo47) | ((with_reducible refine gate_callee (f := 21) rfl ?_); refine gl_ (some 71) func21 #[.slice A2 l2.length c2] ?_; (with_reducible refine (medlarref16_From.calls kj5 _ _ l2 t444 t445 t446 t447 t450 t451 t452 t453 t454 t455 t456 t457 t458 t459 _ ?side1 ?side2 A32.out).mono ?_); (case side1 => exact Kd.C_below HR2.out (bw3_ HB GE416 GE417 GE443)); (case side2 => exact HC2.out); rintro e w48 ⟨v448, rfl, ho0, hb⟩; refine ⟨_, rfl, ?_⟩; replace HO421 := ak_ (Kd.R_below (by (with_reducible repeat (first | apply Kd.R_alloc | apply Kd.R_drewN | apply Kd.R_drew)); exact (Kd.R_mono (Kd.R_far (p := ⟨gb443, 12, none⟩) (Kd.R_far (p := ⟨gb443, 11, none⟩) (Kd.R_far (p := ⟨gb443, 10, none⟩) (Kd.R_far (p := ⟨gb443, 9, none⟩) (Kd.R_far (p := ⟨gb443, 8, none⟩) (Kd.R_far (p := ⟨gb443, 7, none⟩) (Kd.R_far (p := ⟨gb443, 6, none⟩) (Kd.R_far (p := ⟨gb443, 5, none⟩) (Kd.R_far (p := ⟨gb443, 4, none⟩) (Kd.R_far (p := ⟨gb443, 3, none⟩) (Kd.R_far (p := ⟨gb443, 2, none⟩) (Kd.R_far (p := ⟨gb443, 1, none⟩) (Kd.R_far (p := ⟨gb443, 0, none⟩) (Kd.R_types HO421.out BK443.out (by decide)) (fun _ hk => hk.2) (.int .i64 t427)) (fun _ hk => hk.2) (.int .i64 t428)) (fun _ hk => hk.2) (.int .i64 t429)) (fun _ hk => hk.2) (.slice Ao47 t430.length co47)) (fun _ hk => hk.2) (.bool t433)) (fun _ hk => hk.2) (.bool t434)) (fun _ hk => hk.2) (.int .u64 t435)) (fun _ hk => hk.2) (.int .u64 t436)) (fun _ hk => hk.2) (.int .u64 t437)) (fun _ hk => hk.2) (.int .u64 t438)) (fun _ hk => hk.2) (.int .u64 t439)) (fun _ hk => hk.2) (.int .u64 t440)) (fun _ hk => hk.2) (.int .i64 t441)) (fun _ h_ => h_.1))) hb); replace HO425 := ak_ (Kd.R_below (by (with_reducible repeat (first | apply Kd.R_alloc | apply Kd.R_drewN | apply Kd.R_drew)); exact (Kd.R_mono (Kd.R_far (p := ⟨gb443, 12, none⟩) (Kd.R_far (p := ⟨gb443, 11, none⟩) (Kd.R_far (p := ⟨gb443, 10, none⟩) (Kd.R_far (p := ⟨gb443, 9, none⟩) (Kd.R_far (p := ⟨gb443, 8, none⟩) (Kd.R_far (p := ⟨gb443, 7, none⟩) (Kd.R_far (p := ⟨gb443, 6, none⟩) (Kd.R_far (p := ⟨gb443, 5, none⟩) (Kd.R_far (p := ⟨gb443, 4, none⟩) (Kd.R_far (p := ⟨gb443, 3, none⟩) (Kd.R_far (p := ⟨gb443, 2, none⟩) (Kd.R_far (p := ⟨gb443, 1, none⟩) (Kd.R_far (p := ⟨gb443, 0, none⟩) (Kd.R_types HO425.out BK443.out (by decide)) (fun _ hk => hk.2) (.int .i64 t427)) (fun _ hk => hk.2) (.int .i64 t428)) (fun _ hk => hk.2) (.int .i64 t429)) (fun _ hk => hk.2) (.slice Ao47 t430.length co47)) (fun _ hk => hk.2) (.bool t433)) (fun _ hk => hk.2) (.bool t434)) (fun _ hk => hk.2) (.int .u64 t435)) (fun _ hk => hk.2) (.int .u64 t436)) (fun _ hk => hk.2) (.int .u64 t437)) (fun _ hk => hk.2) (.int .u64 t438)) (fun _ hk => hk.2) (.int .u64 t439)) (fun _ hk => hk.2) (.int .u64 t440)) (fun _ hk => hk.2) (.int .i64 t441)) (fun _ h_ => h_.1))) hb); have HO449 := ak_ (Kd.R_lower (Kd.R_new' ho0 (Kd.R_lt (by (with_reducible repeat (first | apply Kd.R_alloc | apply Kd.R_drewN | apply Kd.R_drew)); exact (Kd.R_mono (Kd.R_far (p := ⟨gb443, 12, none⟩) (Kd.R_far (p := ⟨gb443, 11, none⟩) (Kd.R_far (p := ⟨gb443, 10, none⟩) (Kd.R_far (p := ⟨gb443, 9, none⟩) (Kd.R_far (p := ⟨gb443, 8, none⟩) (Kd.R_far (p := ⟨gb443, 7, none⟩) (Kd.R_far (p := ⟨gb443, 6, none⟩) (Kd.R_far (p := ⟨gb443, 5, none⟩) (Kd.R_far (p := ⟨gb443, 4, none⟩) (Kd.R_far (p := ⟨gb443, 3, none⟩) (Kd.R_far (p := ⟨gb443, 2, none⟩) (Kd.R_far (p := ⟨gb443, 1, none⟩) (Kd.R_far (p := ⟨gb443, 0, none⟩) (Kd.R_types HO432.out BK443.out (by decide)) (fun _ hk => hk.2) (.int .i64 t427)) (fun _ hk => hk.2) (.int .i64 t428)) (fun _ hk => hk.2) (.int .i64 t429)) (fun _ hk => hk.2) (.slice Ao47 t430.length co47)) (fun _ hk => hk.2) (.bool t433)) (fun _ hk => hk.2) (.bool t434)) (fun _ hk => hk.2) (.int .u64 t435)) (fun _ hk => hk.2) (.int .u64 t436)) (fun _ hk => hk.2) (.int .u64 t437)) (fun _ hk => hk.2) (.int .u64 t438)) (fun _ hk => hk.2) (.int .u64 t439)) (fun _ hk => hk.2) (.int .u64 t440)) (fun _ hk => hk.2) (.int .i64 t441)) (fun _ h_ => h_.1))))) (bz_ (bw3_ HB GE416 GE417 GE443))); replace HO432 := ak_ (Kd.R_elder' (by (with_reducible repeat (first | apply Kd.R_alloc | apply Kd.R_drewN | apply Kd.R_drew)); exact (Kd.R_mono (Kd.R_far (p := ⟨gb443, 12, none⟩) (Kd.R_far (p := ⟨gb443, 11, none⟩) (Kd.R_far (p := ⟨gb443, 10, none⟩) (Kd.R_far (p := ⟨gb443, 9, none⟩) (Kd.R_far (p := ⟨gb443, 8, none⟩) (Kd.R_far (p := ⟨gb443, 7, none⟩) (Kd.R_far (p := ⟨gb443, 6, none⟩) (Kd.R_far (p := ⟨gb443, 5, none⟩) (Kd.R_far (p := ⟨gb443, 4, none⟩) (Kd.R_far (p := ⟨gb443, 3, none⟩) (Kd.R_far (p := ⟨gb443, 2, none⟩) (Kd.R_far (p := ⟨gb443, 1, none⟩) (Kd.R_far (p := ⟨gb443, 0, none⟩) (Kd.R_types HO432.out BK443.out (by decide)) (fun _ hk => hk.2) (.int .i64 t427)) (fun _ hk => hk.2) (.int .i64 t428)) (fun _ hk => hk.2) (.int .i64 t429)) (fun _ hk => hk.2) (.slice Ao47 t430.length co47)) (fun _ hk => hk.2) (.bool t433)) (fun _ hk => hk.2) (.bool t434)) (fun _ hk => hk.2) (.int .u64 t435)) (fun _ hk => hk.2) (.int .u64 t436)) (fun _ hk => hk.2) (.int .u64 t437)) (fun _ hk => hk.2) (.int .u64 t438)) (fun _ hk => hk.2) (.int .u64 t439)) (fun _ hk => hk.2) (.int .u64 t440)) (fun _ hk => hk.2) (.int .i64 t441)) (fun _ h_ => h_.1))) (Kd.R_base ho0) hb); replace BK416 := ak_ (kb_ (g := gb416) (o := .cells #[.int .i64 a0_0, .int .i64 a0_1, .int .i64 a0_2, .slice A0_3 l0_3.length c0_3, .bool a0_4, .bool a0_5, .int .u64 a0_6, .int .u64 a0_7, .int .u64 a0_8, .int .u64 a0_9, .int .u64 a0_10, .int .u64 a0_11, .int .i64 a0_12] 31 (0, 0)) (by (with_reducible repeat (first | refine kn_ ?_ _ | refine kd_ ?_ | refine ka_ ?_ _)); (iterate 13 refine blk_far ?_ NB416_443.out _); exact BK416.out) hb); replace BK417 := ak_ (kb_ (g := gb417) (o := .cells #[.int .i64 a1_0, .int .i64 a1_1, .int .i64 a1_2, .slice A1_3 l1_3.length c1_3, .bool a1_4, .bool a1_5, .int .u64 a1_6, .int .u64 a1_7, .int .u64 a1_8, .int .u64 a1_9, .int .u64 a1_10, .int .u64 a1_11, .int .i64 a1_12] 31 (0, 0)) (by (with_reducible repeat (first | refine kn_ ?_ _ | refine kd_ ?_ | refine ka_ ?_ _)); (iterate 13 refine blk_far ?_ NB417_443.out _); exact BK417.out) hb); replace BK443 := ak_ (kb_ (g := gb443) (o := .cells #[.int .i64 t427, .int .i64 t428, .int .i64 t429, .slice Ao47 t430.length co47, .bool t433, .bool t434, .int .u64 t435, .int .u64 t436, .int .u64 t437, .int .u64 t438, .int .u64 t439, .int .u64 t440, .int .i64 t441] 31 (0, 0)) (by (with_reducible repeat (first | refine kn_ ?_ _ | refine kd_ ?_ | refine ka_ ?_ _)); exact sC_blk BK443.out rfl rfl) hb); replace HB := ak_ (bt_ (bw3_ HB GE416 GE417 GE443) hb); (try clear hb); (try clear hk); (try clear ho0)) | ((with_reducible refine gate_dst (N := 17) rfl ?_); (try (refine gate_guard (by rfl) ?_; dsimp only)); refine bx_ 17 #[.int .i64 0, .int .i64 0, .int .i64 0, .slice none 0 0, .bool false, .bool false, .int .u64 0, .int .u64 0, .int .u64 0, .int .u64 0, .int .u64 0, .int .u64 0, .int .i64 0] 31 ?_; intro gb460 hg w49 hbox hb; replace HO421 := ak_ (Kd.R_below (rl_ HO421) hb); replace HO425 := ak_ (Kd.R_below (rl_ HO425) hb); replace HO432 := ak_ (Kd.R_below (rl_ HO432) hb); replace HO449 := ak_ (Kd.R_below (rl_ HO449) hb); have BK460 := ak_ hbox; have GW460 := ak_ (gw3_ HB GE416 GE417 GE443 hg); have GE460 := ak_ (gw3_ HB GE416 GE417 GE443 hg); replace HB := ak_ (bt_ (bw3_ HB GE416 GE417 GE443) hb); have NB416_460 := ak_ (nl_ hg BK416); have NB460_416 := ak_ (nr_ hg BK416); replace BK416 := ak_ (kb_ (kl_ BK416) hb); have NB417_460 := ak_ (nl_ hg BK417); have NB460_417 := ak_ (nr_ hg BK417); replace BK417 := ak_ (kb_ (kl_ BK417) hb); have NB443_460 := ak_ (nl_ hg BK443); have NB460_443 := ak_ (nr_ hg BK443); replace BK443 := ak_ (kb_ (kl_ BK443) hb); clear hb hbox hg; have hnb50 := NB460_416.out; have hnc50 := NB416_460.out; have hnb51 := NB460_417.out; have hnc51 := NB417_460.out; have hnb52 := NB460_443.out; have hnc52 := NB443_460.out; obtain ⟨hcz53_0, hcz53_1, hcz53_2, hcz53_3, hcz53_4, hcz53_5, hcz53_6, hcz53_7, hcz53_8, hcz53_9, hcz53_10, hcz53_11, hcz53_12, hfz53_0, hfz53_1, hfz53_2, hfz53_3, hfz53_4, hfz53_5, hfz53_6, hfz53_7, hfz53_8, hfz53_9, hfz53_10, hfz53_11, hfz53_12⟩ := kc13_ BK460.out; obtain ⟨Ao54, co54, eo54⟩ := Kd.R_slice HO449.out; subst eo54) | ((with_reducible refine gate_callee (f := 18) rfl ?_); refine gl_ (some 76) func18 #[.int .i64 a3] ?_; (with_reducible refine (head_Length.calls a3 t461 t462 _ A33.out).mono ?_); rintro e w' ⟨rfl, ⟨nda_, rfl⟩⟩; refine ⟨_, rfl, ?_⟩) | ((with_reducible refine gate_callee (f := 22) rfl ?_); refine gl_ (some 81) func22 #[.int .i64 a3] ?_; (with_reducible refine (medlarref16_Length.calls a3 t463 t464 _ A34.out).mono ?_); rintro e w' ⟨rfl, ⟨ndb_, rfl⟩⟩; refine ⟨_, rfl, ?_⟩))
     (try simp only [Act.put, setIfInBounds_toArray, set_cons_zero, set_cons_succ])
     go_cut [23] (fun v23 wc => ∃ (kq : Nat) (x23_34 : Bool), v23 = .bool x23_34 ∧ Aside0 (medlarlaw16_HeadDoes.j1 kq l2 t418 (strOfNums l2) x23_34 t427 t428 t429 t430 t433 t434 t435 t436 t437 t438 t439 t440 t441 = some r) ∧ Aside0 (kq ≤ kj5) ∧ Aside0 (Kd.R k41 41 wc w.heap.size (fun k_ => some k_ ≠ ((.slice Ao54 t447.length co54) : Value).ownBlock) (.slice Ao47 t430.length co47) t430) ∧ Aside0 (Kd.R k41 41 wc w.heap.size (fun k_ => some k_ ≠ ((.slice Ao47 t430.length co47) : Value).ownBlock) (.slice Ao54 t447.length co54) t447) ∧ Aside0 (wc.heap[gb416]? = some (.cells #[.int .i64 a0_0, .int .i64 a0_1, .int .i64 a0_2, (.slice A0_3 l0_3.length c0_3), .bool a0_4, .bool a0_5, .int .u64 a0_6, .int .u64 a0_7, .int .u64 a0_8, .int .u64 a0_9, .int .u64 a0_10, .int .u64 a0_11, .int .i64 a0_12] 31 (0, 0))) ∧ Aside0 (wc.heap[gb417]? = some (.cells #[.int .i64 a1_0, .int .i64 a1_1, .int .i64 a1_2, (.slice A1_3 l1_3.length c1_3), .bool a1_4, .bool a1_5, .int .u64 a1_6, .int .u64 a1_7, .int .u64 a1_8, .int .u64 a1_9, .int .u64 a1_10, .int .u64 a1_11, .int .i64 a1_12] 31 (0, 0))) ∧ Aside0 (wc.heap[gb443]? = some (.cells #[.int .i64 t427, .int .i64 t428, .int .i64 t429, (.slice Ao47 t430.length co47), .bool t433, .bool t434, .int .u64 t435, .int .u64 t436, .int .u64 t437, .int .u64 t438, .int .u64 t439, .int .u64 t440, .int .i64 t441] 31 (0, 0))) ∧ Aside0 (wc.heap[gb460]? = some (.cells #[.int .i64 t444, .int .i64 t445, .int .i64 t446, (.slice Ao54 t447.length co54), .bool t450, .bool t451, .int .u64 t452, .int .u64 t453, .int .u64 t454, .int .u64 t455, .int .u64 t456, .int .u64 t457, .int .i64 t458] 31 (0, 0))) ∧ Aside0 (Below w.heap.size w wc))
     case first =>
      have H := HC35.out
      clear HC35
      replace H := bind_eq_some_iff.mp H
      obtain ⟨t465, A550, H⟩ := H
      replace H : (if t465 = true then (if t422 = t426 then ((medlarref16_Same.f kj5 t427 t428 t429 t430 t433 t434 t435 t436 t437 t438 t439 t440 t441 t444 t445 t446 t447 t450 t451 t452 t453 t454 t455 t456 t457 t458).bind fun t466 => (if t466 = true then (if t442 = t459 then (if t461 = t463 then (if t462 = t464 then ((head_Check.f kj5 a0_0 a0_1 a0_2 l0_3 a0_4 a0_5 a0_6 a0_7 a0_8 a0_9 a0_10 a0_11 a0_12).bind fun t467 => ((medlarref16_Check.f kj5 a0_0 a0_1 a0_2 l0_3 a0_4 a0_5 a0_6 a0_7 a0_8 a0_9 a0_10 a0_11 a0_12).bind fun t468 => (if t467 = t468 then ((head_Same.f kj5 a0_0 a0_1 a0_2 l0_3 a0_4 a0_5 a0_6 a0_7 a0_8 a0_9 a0_10 a0_11 a0_12 a1_0 a1_1 a1_2 l1_3 a1_4 a1_5 a1_6 a1_7 a1_8 a1_9 a1_10 a1_11 a1_12).bind fun t469 => ((medlarref16_Same.f kj5 a0_0 a0_1 a0_2 l0_3 a0_4 a0_5 a0_6 a0_7 a0_8 a0_9 a0_10 a0_11 a0_12 a1_0 a1_1 a1_2 l1_3 a1_4 a1_5 a1_6 a1_7 a1_8 a1_9 a1_10 a1_11 a1_12).bind fun t470 => (medlarlaw16_HeadDoes.j1 kj5 l2 t418 (strOfNums l2) (t469 == t470) t427 t428 t429 t430 t433 t434 t435 t436 t437 t438 t439 t440 t441))) else (medlarlaw16_HeadDoes.j1 kj5 l2 t418 (strOfNums l2) false t427 t428 t429 t430 t433 t434 t435 t436 t437 t438 t439 t440 t441)))) else (medlarlaw16_HeadDoes.j1 kj5 l2 t418 (strOfNums l2) false t427 t428 t429 t430 t433 t434 t435 t436 t437 t438 t439 t440 t441)) else (medlarlaw16_HeadDoes.j1 kj5 l2 t418 (strOfNums l2) false t427 t428 t429 t430 t433 t434 t435 t436 t437 t438 t439 t440 t441)) else (medlarlaw16_HeadDoes.j1 kj5 l2 t418 (strOfNums l2) false t427 t428 t429 t430 t433 t434 t435 t436 t437 t438 t439 t440 t441)) else (medlarlaw16_HeadDoes.j1 kj5 l2 t418 (strOfNums l2) false t427 t428 t429 t430 t433 t434 t435 t436 t437 t438 t439 t440 t441))) else (medlarlaw16_HeadDoes.j1 kj5 l2 t418 (strOfNums l2) false t427 t428 t429 t430 t433 t434 t435 t436 t437 t438 t439 t440 t441)) else (medlarlaw16_HeadDoes.j1 kj5 l2 t418 (strOfNums l2) false t427 t428 t429 t430 t433 t434 t435 t436 t437 t438 t439 t440 t441)) = some r := H
      have A55 := ak_ A550
      clear A550
      by_cases c56 : t465 = true
      ·subst c56
       have H1 : (if t422 = t426 then ((medlarref16_Same.f kj5 t427 t428 t429 t430 t433 t434 t435 t436 t437 t438 t439 t440 t441 t444 t445 t446 t447 t450 t451 t452 t453 t454 t455 t456 t457 t458).bind fun t466 => (if t466 = true then (if t442 = t459 then (if t461 = t463 then (if t462 = t464 then ((head_Check.f kj5 a0_0 a0_1 a0_2 l0_3 a0_4 a0_5 a0_6 a0_7 a0_8 a0_9 a0_10 a0_11 a0_12).bind fun t467 => ((medlarref16_Check.f kj5 a0_0 a0_1 a0_2 l0_3 a0_4 a0_5 a0_6 a0_7 a0_8 a0_9 a0_10 a0_11 a0_12).bind fun t468 => (if t467 = t468 then ((head_Same.f kj5 a0_0 a0_1 a0_2 l0_3 a0_4 a0_5 a0_6 a0_7 a0_8 a0_9 a0_10 a0_11 a0_12 a1_0 a1_1 a1_2 l1_3 a1_4 a1_5 a1_6 a1_7 a1_8 a1_9 a1_10 a1_11 a1_12).bind fun t469 => ((medlarref16_Same.f kj5 a0_0 a0_1 a0_2 l0_3 a0_4 a0_5 a0_6 a0_7 a0_8 a0_9 a0_10 a0_11 a0_12 a1_0 a1_1 a1_2 l1_3 a1_4 a1_5 a1_6 a1_7 a1_8 a1_9 a1_10 a1_11 a1_12).bind fun t470 => (medlarlaw16_HeadDoes.j1 kj5 l2 t418 (strOfNums l2) (t469 == t470) t427 t428 t429 t430 t433 t434 t435 t436 t437 t438 t439 t440 t441))) else (medlarlaw16_HeadDoes.j1 kj5 l2 t418 (strOfNums l2) false t427 t428 t429 t430 t433 t434 t435 t436 t437 t438 t439 t440 t441)))) else (medlarlaw16_HeadDoes.j1 kj5 l2 t418 (strOfNums l2) false t427 t428 t429 t430 t433 t434 t435 t436 t437 t438 t439 t440 t441)) else (medlarlaw16_HeadDoes.j1 kj5 l2 t418 (strOfNums l2) false t427 t428 t429 t430 t433 t434 t435 t436 t437 t438 t439 t440 t441)) else (medlarlaw16_HeadDoes.j1 kj5 l2 t418 (strOfNums l2) false t427 t428 t429 t430 t433 t434 t435 t436 t437 t438 t439 t440 t441)) else (medlarlaw16_HeadDoes.j1 kj5 l2 t418 (strOfNums l2) false t427 t428 t429 t430 t433 t434 t435 t436 t437 t438 t439 t440 t441))) else (medlarlaw16_HeadDoes.j1 kj5 l2 t418 (strOfNums l2) false t427 t428 t429 t430 t433 t434 t435 t436 t437 t438 t439 t440 t441)) = some r := by rw [if_pos rfl] at H; exact H
       clear H
       have H := H1
       clear H1
       by_cases c57 : t422 = t426
       ·rw [if_pos c57] at H
        have c57b0 : (t422 == t426) = true := beq_iff_eq.mpr c57
        have c57b1 : (t422 != t426) = false := bne_eq_false_iff_eq.mpr c57
        clear c57
        (first | rw [c57b0] | (simp only [i64_w, i32_w]; rw [c57b0]) | skip)
        replace H := bind_eq_some_iff.mp H
        obtain ⟨t466, A580, H⟩ := H
        replace H : (if t466 = true then (if t442 = t459 then (if t461 = t463 then (if t462 = t464 then ((head_Check.f kj5 a0_0 a0_1 a0_2 l0_3 a0_4 a0_5 a0_6 a0_7 a0_8 a0_9 a0_10 a0_11 a0_12).bind fun t467 => ((medlarref16_Check.f kj5 a0_0 a0_1 a0_2 l0_3 a0_4 a0_5 a0_6 a0_7 a0_8 a0_9 a0_10 a0_11 a0_12).bind fun t468 => (if t467 = t468 then ((head_Same.f kj5 a0_0 a0_1 a0_2 l0_3 a0_4 a0_5 a0_6 a0_7 a0_8 a0_9 a0_10 a0_11 a0_12 a1_0 a1_1 a1_2 l1_3 a1_4 a1_5 a1_6 a1_7 a1_8 a1_9 a1_10 a1_11 a1_12).bind fun t469 => ((medlarref16_Same.f kj5 a0_0 a0_1 a0_2 l0_3 a0_4 a0_5 a0_6 a0_7 a0_8 a0_9 a0_10 a0_11 a0_12 a1_0 a1_1 a1_2 l1_3 a1_4 a1_5 a1_6 a1_7 a1_8 a1_9 a1_10 a1_11 a1_12).bind fun t470 => (medlarlaw16_HeadDoes.j1 kj5 l2 t418 (strOfNums l2) (t469 == t470) t427 t428 t429 t430 t433 t434 t435 t436 t437 t438 t439 t440 t441))) else (medlarlaw16_HeadDoes.j1 kj5 l2 t418 (strOfNums l2) false t427 t428 t429 t430 t433 t434 t435 t436 t437 t438 t439 t440 t441)))) else (medlarlaw16_HeadDoes.j1 kj5 l2 t418 (strOfNums l2) false t427 t428 t429 t430 t433 t434 t435 t436 t437 t438 t439 t440 t441)) else (medlarlaw16_HeadDoes.j1 kj5 l2 t418 (strOfNums l2) false t427 t428 t429 t430 t433 t434 t435 t436 t437 t438 t439 t440 t441)) else (medlarlaw16_HeadDoes.j1 kj5 l2 t418 (strOfNums l2) false t427 t428 t429 t430 t433 t434 t435 t436 t437 t438 t439 t440 t441)) else (medlarlaw16_HeadDoes.j1 kj5 l2 t418 (strOfNums l2) false t427 t428 t429 t430 t433 t434 t435 t436 t437 t438 t439 t440 t441)) = some r := H
        have A58 := ak_ A580
        clear A580
        by_cases c59 : t466 = true
        ·subst c59
         have H1 : (if t442 = t459 then (if t461 = t463 then (if t462 = t464 then ((head_Check.f kj5 a0_0 a0_1 a0_2 l0_3 a0_4 a0_5 a0_6 a0_7 a0_8 a0_9 a0_10 a0_11 a0_12).bind fun t467 => ((medlarref16_Check.f kj5 a0_0 a0_1 a0_2 l0_3 a0_4 a0_5 a0_6 a0_7 a0_8 a0_9 a0_10 a0_11 a0_12).bind fun t468 => (if t467 = t468 then ((head_Same.f kj5 a0_0 a0_1 a0_2 l0_3 a0_4 a0_5 a0_6 a0_7 a0_8 a0_9 a0_10 a0_11 a0_12 a1_0 a1_1 a1_2 l1_3 a1_4 a1_5 a1_6 a1_7 a1_8 a1_9 a1_10 a1_11 a1_12).bind fun t469 => ((medlarref16_Same.f kj5 a0_0 a0_1 a0_2 l0_3 a0_4 a0_5 a0_6 a0_7 a0_8 a0_9 a0_10 a0_11 a0_12 a1_0 a1_1 a1_2 l1_3 a1_4 a1_5 a1_6 a1_7 a1_8 a1_9 a1_10 a1_11 a1_12).bind fun t470 => (medlarlaw16_HeadDoes.j1 kj5 l2 t418 (strOfNums l2) (t469 == t470) t427 t428 t429 t430 t433 t434 t435 t436 t437 t438 t439 t440 t441))) else (medlarlaw16_HeadDoes.j1 kj5 l2 t418 (strOfNums l2) false t427 t428 t429 t430 t433 t434 t435 t436 t437 t438 t439 t440 t441)))) else (medlarlaw16_HeadDoes.j1 kj5 l2 t418 (strOfNums l2) false t427 t428 t429 t430 t433 t434 t435 t436 t437 t438 t439 t440 t441)) else (medlarlaw16_HeadDoes.j1 kj5 l2 t418 (strOfNums l2) false t427 t428 t429 t430 t433 t434 t435 t436 t437 t438 t439 t440 t441)) else (medlarlaw16_HeadDoes.j1 kj5 l2 t418 (strOfNums l2) false t427 t428 t429 t430 t433 t434 t435 t436 t437 t438 t439 t440 t441)) = some r := by rw [if_pos rfl] at H; exact H
         clear H
         have H := H1
         clear H1
         by_cases c60 : t442 = t459
         ·rw [if_pos c60] at H
          have c60b0 : (t442 == t459) = true := beq_iff_eq.mpr c60
          have c60b1 : (t442 != t459) = false := bne_eq_false_iff_eq.mpr c60
          clear c60
          by_cases c61 : t461 = t463
          ·rw [if_pos c61] at H
           have c61b0 : (t461 == t463) = true := beq_iff_eq.mpr c61
           have c61b1 : (t461 != t463) = false := bne_eq_false_iff_eq.mpr c61
           clear c61
           by_cases c62 : t462 = t464
           ·rw [if_pos c62] at H
            have c62b0 : (t462 == t464) = true := beq_iff_eq.mpr c62
            have c62b1 : (t462 != t464) = false := bne_eq_false_iff_eq.mpr c62
            clear c62
            replace H := bind_eq_some_iff.mp H
            obtain ⟨t467, A630, H⟩ := H
            replace H : ((medlarref16_Check.f kj5 a0_0 a0_1 a0_2 l0_3 a0_4 a0_5 a0_6 a0_7 a0_8 a0_9 a0_10 a0_11 a0_12).bind fun t468 => (if t467 = t468 then ((head_Same.f kj5 a0_0 a0_1 a0_2 l0_3 a0_4 a0_5 a0_6 a0_7 a0_8 a0_9 a0_10 a0_11 a0_12 a1_0 a1_1 a1_2 l1_3 a1_4 a1_5 a1_6 a1_7 a1_8 a1_9 a1_10 a1_11 a1_12).bind fun t469 => ((medlarref16_Same.f kj5 a0_0 a0_1 a0_2 l0_3 a0_4 a0_5 a0_6 a0_7 a0_8 a0_9 a0_10 a0_11 a0_12 a1_0 a1_1 a1_2 l1_3 a1_4 a1_5 a1_6 a1_7 a1_8 a1_9 a1_10 a1_11 a1_12).bind fun t470 => (medlarlaw16_HeadDoes.j1 kj5 l2 t418 (strOfNums l2) (t469 == t470) t427 t428 t429 t430 t433 t434 t435 t436 t437 t438 t439 t440 t441))) else (medlarlaw16_HeadDoes.j1 kj5 l2 t418 (strOfNums l2) false t427 t428 t429 t430 t433 t434 t435 t436 t437 t438 t439 t440 t441))) = some r := H
            have A63 := ak_ A630
            clear A630
            replace H := bind_eq_some_iff.mp H
            obtain ⟨t468, A640, H⟩ := H
            replace H : (if t467 = t468 then ((head_Same.f kj5 a0_0 a0_1 a0_2 l0_3 a0_4 a0_5 a0_6 a0_7 a0_8 a0_9 a0_10 a0_11 a0_12 a1_0 a1_1 a1_2 l1_3 a1_4 a1_5 a1_6 a1_7 a1_8 a1_9 a1_10 a1_11 a1_12).bind fun t469 => ((medlarref16_Same.f kj5 a0_0 a0_1 a0_2 l0_3 a0_4 a0_5 a0_6 a0_7 a0_8 a0_9 a0_10 a0_11 a0_12 a1_0 a1_1 a1_2 l1_3 a1_4 a1_5 a1_6 a1_7 a1_8 a1_9 a1_10 a1_11 a1_12).bind fun t470 => (medlarlaw16_HeadDoes.j1 kj5 l2 t418 (strOfNums l2) (t469 == t470) t427 t428 t429 t430 t433 t434 t435 t436 t437 t438 t439 t440 t441))) else (medlarlaw16_HeadDoes.j1 kj5 l2 t418 (strOfNums l2) false t427 t428 t429 t430 t433 t434 t435 t436 t437 t438 t439 t440 t441)) = some r := H
            have A64 := ak_ A640
            clear A640
            by_cases c65 : t467 = t468
            ·rw [if_pos c65] at H
             have c65b0 : (t467 == t468) = true := beq_iff_eq.mpr c65
             have c65b1 : (t467 != t468) = false := bne_eq_false_iff_eq.mpr c65
             clear c65
             replace H := bind_eq_some_iff.mp H
             obtain ⟨t469, A660, H⟩ := H
             replace H : ((medlarref16_Same.f kj5 a0_0 a0_1 a0_2 l0_3 a0_4 a0_5 a0_6 a0_7 a0_8 a0_9 a0_10 a0_11 a0_12 a1_0 a1_1 a1_2 l1_3 a1_4 a1_5 a1_6 a1_7 a1_8 a1_9 a1_10 a1_11 a1_12).bind fun t470 => (medlarlaw16_HeadDoes.j1 kj5 l2 t418 (strOfNums l2) (t469 == t470) t427 t428 t429 t430 t433 t434 t435 t436 t437 t438 t439 t440 t441)) = some r := H
             have A66 := ak_ A660
             clear A660
             replace H := bind_eq_some_iff.mp H
             obtain ⟨t470, A670, H⟩ := H
             replace H : (medlarlaw16_HeadDoes.j1 kj5 l2 t418 (strOfNums l2) (t469 == t470) t427 t428 t429 t430 t433 t434 t435 t436 t437 t438 t439 t440 t441) = some r := H
             have A67 := ak_ A670
             clear A670
             have H' := ak_ H
             clear H
             try go_wp2
             obtain ⟨w68, e_⟩ : ∃ w_, sC_ gb460 0 [.int .i64 t444, .int .i64 t445, .int .i64 t446, .slice Ao54 t447.length co54, .bool t450, .bool t451, .int .u64 t452, .int .u64 t453, .int .u64 t454, .int .u64 t455, .int .u64 t456, .int .u64 t457, .int .i64 t458] w49 = w_ := ⟨_, rfl⟩
             have n0_ : Aside0 (Kd.R (Kd.int .u8) 5 w68 w.heap.size (fun k_ => some k_ ≠ (v424 : Value).ownBlock) v420 t419) := ⟨Kd.R_mono (sC_far (Kd.R_types HO421.out BK460.out (by decide)) (fun _ hk => hk.2) e_) (fun _ hk => hk.1.2)⟩
             have n1_ : Aside0 (Kd.R (Kd.int .u8) 5 w68 w.heap.size (fun k_ => some k_ ≠ (v420 : Value).ownBlock) v424 t423) := ⟨Kd.R_mono (sC_far (Kd.R_types HO425.out BK460.out (by decide)) (fun _ hk => hk.2) e_) (fun _ hk => hk.1.2)⟩
             have n2_ : Aside0 (Kd.R k41 41 w68 w.heap.size (fun k_ => some k_ ≠ (.slice Ao54 t447.length co54 : Value).ownBlock) (.slice Ao47 t430.length co47) t430) := ⟨Kd.R_mono (sC_far (Kd.R_types HO432.out BK460.out (by decide)) (fun _ hk => hk.2) e_) (fun _ hk => hk.1.2)⟩
             have n3_ : Aside0 (Kd.R k41 41 w68 w.heap.size (fun k_ => some k_ ≠ (.slice Ao47 t430.length co47 : Value).ownBlock) (.slice Ao54 t447.length co54) t447) := ⟨Kd.R_mono (sC_far (Kd.R_types HO449.out BK460.out (by decide)) (fun _ hk => hk.2) e_) (fun _ hk => hk.1.2)⟩
             have n4_ : Aside0 (w68.heap[gb416]? = some (.cells #[.int .i64 a0_0, .int .i64 a0_1, .int .i64 a0_2, .slice A0_3 l0_3.length c0_3, .bool a0_4, .bool a0_5, .int .u64 a0_6, .int .u64 a0_7, .int .u64 a0_8, .int .u64 a0_9, .int .u64 a0_10, .int .u64 a0_11, .int .i64 a0_12] 31 (0, 0))) := ⟨sC_other BK416.out NB416_460.out e_⟩
             have n5_ : Aside0 (w68.heap[gb417]? = some (.cells #[.int .i64 a1_0, .int .i64 a1_1, .int .i64 a1_2, .slice A1_3 l1_3.length c1_3, .bool a1_4, .bool a1_5, .int .u64 a1_6, .int .u64 a1_7, .int .u64 a1_8, .int .u64 a1_9, .int .u64 a1_10, .int .u64 a1_11, .int .i64 a1_12] 31 (0, 0))) := ⟨sC_other BK417.out NB417_460.out e_⟩
             have n6_ : Aside0 (w68.heap[gb443]? = some (.cells #[.int .i64 t427, .int .i64 t428, .int .i64 t429, .slice Ao47 t430.length co47, .bool t433, .bool t434, .int .u64 t435, .int .u64 t436, .int .u64 t437, .int .u64 t438, .int .u64 t439, .int .u64 t440, .int .i64 t441] 31 (0, 0))) := ⟨sC_other BK443.out NB443_460.out e_⟩
             have n7_ : Aside0 (w68.heap[gb460]? = some (.cells #[.int .i64 t444, .int .i64 t445, .int .i64 t446, .slice Ao54 t447.length co54, .bool t450, .bool t451, .int .u64 t452, .int .u64 t453, .int .u64 t454, .int .u64 t455, .int .u64 t456, .int .u64 t457, .int .i64 t458] 31 (0, 0))) := ⟨sC_blk BK460.out rfl e_⟩
             have n8_ : Aside0 (Below w.heap.size w w68) := ⟨sC_below GE460.out HB.out e_⟩
             (try clear HO421)
             (try clear HO425)
             (try clear HO432)
             (try clear HO449)
             (try clear BK416)
             (try clear BK417)
             (try clear BK443)
             (try clear BK460)
             (try clear HB)
             simp only [sC_, Nat.reduceAdd] at e_
             rw [e_]
             clear e_
             have HO421 := n0_
             have HO425 := n1_
             have HO432 := n2_
             have HO449 := n3_
             have BK416 := n4_
             have BK417 := n5_
             have BK443 := n6_
             have BK460 := n7_
             have HB := n8_
             clear n0_ n1_ n2_ n3_ n4_ n5_ n6_ n7_ n8_
             replace HO421 := ak_ (Kd.R_drewN HO421.out (nda_ + ndb_))
             replace HO425 := ak_ (Kd.R_drewN HO425.out (nda_ + ndb_))
             replace HO432 := ak_ (Kd.R_drewN HO432.out (nda_ + ndb_))
             replace HO449 := ak_ (Kd.R_drewN HO449.out (nda_ + ndb_))
             replace BK416 := ak_ (kn_ BK416.out (nda_ + ndb_))
             replace BK417 := ak_ (kn_ BK417.out (nda_ + ndb_))
             replace BK443 := ak_ (kn_ BK443.out (nda_ + ndb_))
             replace BK460 := ak_ (kn_ BK460.out (nda_ + ndb_))
             replace HB := ak_ (bn_ HB.out (nda_ + ndb_))
             generalize w68.drewN (nda_ + ndb_) = w68 at HO421 HO425 HO432 HO449 BK416 BK417 BK443 BK460 HB ⊢
             replace HO421 := ak_ (Kd.R_drew HO421.out)
             replace HO425 := ak_ (Kd.R_drew HO425.out)
             replace HO432 := ak_ (Kd.R_drew HO432.out)
             replace HO449 := ak_ (Kd.R_drew HO449.out)
             replace BK416 := ak_ (kd_ BK416.out)
             replace BK417 := ak_ (kd_ BK417.out)
             replace BK443 := ak_ (kd_ BK443.out)
             replace BK460 := ak_ (kd_ BK460.out)
             replace HB := ak_ (bd_ HB.out)
             obtain ⟨Ao70, co70, eo70⟩ := Kd.R_slice HO421.out
             (first | subst eo70 | (injection eo70 with f1_ f2_ f3_; have f4_ := f1_.symm; have f5_ := f3_.symm; clear f1_ f2_ f3_; subst f4_; subst f5_))
             obtain ⟨Ao71, co71, eo71⟩ := Kd.R_slice HO425.out
             (first | subst eo71 | (injection eo71 with f1_ f2_ f3_; have f4_ := f1_.symm; have f5_ := f3_.symm; clear f1_ f2_ f3_; subst f4_; subst f5_))
             refine start_ (n := 45) (S := fun w' => w'.cell? ⟨gb443, 0, none⟩ = some (.int .i64 t427) ∧ w'.cell? ⟨gb443, 1, none⟩ = some (.int .i64 t428) ∧ w'.cell? ⟨gb443, 2, none⟩ = some (.int .i64 t429) ∧ w'.cell? ⟨gb443, 3, none⟩ = some (.slice Ao47 t430.length co47) ∧ w'.cell? ⟨gb443, 4, none⟩ = some (.bool t433) ∧ w'.cell? ⟨gb443, 5, none⟩ = some (.bool t434) ∧ w'.cell? ⟨gb443, 6, none⟩ = some (.int .u64 t435) ∧ w'.cell? ⟨gb443, 7, none⟩ = some (.int .u64 t436) ∧ w'.cell? ⟨gb443, 8, none⟩ = some (.int .u64 t437) ∧ w'.cell? ⟨gb443, 9, none⟩ = some (.int .u64 t438) ∧ w'.cell? ⟨gb443, 10, none⟩ = some (.int .u64 t439) ∧ w'.cell? ⟨gb443, 11, none⟩ = some (.int .u64 t440) ∧ w'.cell? ⟨gb443, 12, none⟩ = some (.int .i64 t441) ∧ w'.cell? ⟨gb460, 0, none⟩ = some (.int .i64 t444) ∧ w'.cell? ⟨gb460, 1, none⟩ = some (.int .i64 t445) ∧ w'.cell? ⟨gb460, 2, none⟩ = some (.int .i64 t446) ∧ w'.cell? ⟨gb460, 3, none⟩ = some (.slice Ao54 t447.length co54) ∧ w'.cell? ⟨gb460, 4, none⟩ = some (.bool t450) ∧ w'.cell? ⟨gb460, 5, none⟩ = some (.bool t451) ∧ w'.cell? ⟨gb460, 6, none⟩ = some (.int .u64 t452) ∧ w'.cell? ⟨gb460, 7, none⟩ = some (.int .u64 t453) ∧ w'.cell? ⟨gb460, 8, none⟩ = some (.int .u64 t454) ∧ w'.cell? ⟨gb460, 9, none⟩ = some (.int .u64 t455) ∧ w'.cell? ⟨gb460, 10, none⟩ = some (.int .u64 t456) ∧ w'.cell? ⟨gb460, 11, none⟩ = some (.int .u64 t457) ∧ w'.cell? ⟨gb460, 12, none⟩ = some (.int .i64 t458) ∧ w'.cell? ⟨gb416, 0, none⟩ = some (.int .i64 a0_0) ∧ w'.cell? ⟨gb416, 1, none⟩ = some (.int .i64 a0_1) ∧ w'.cell? ⟨gb416, 2, none⟩ = some (.int .i64 a0_2) ∧ w'.cell? ⟨gb416, 3, none⟩ = some (.slice A0_3 l0_3.length c0_3) ∧ w'.cell? ⟨gb416, 4, none⟩ = some (.bool a0_4) ∧ w'.cell? ⟨gb416, 5, none⟩ = some (.bool a0_5) ∧ w'.cell? ⟨gb416, 6, none⟩ = some (.int .u64 a0_6) ∧ w'.cell? ⟨gb416, 7, none⟩ = some (.int .u64 a0_7) ∧ w'.cell? ⟨gb416, 8, none⟩ = some (.int .u64 a0_8) ∧ w'.cell? ⟨gb416, 9, none⟩ = some (.int .u64 a0_9) ∧ w'.cell? ⟨gb416, 10, none⟩ = some (.int .u64 a0_10) ∧ w'.cell? ⟨gb416, 11, none⟩ = some (.int .u64 a0_11) ∧ w'.cell? ⟨gb416, 12, none⟩ = some (.int .i64 a0_12) ∧ w'.cell? ⟨gb417, 0, none⟩ = some (.int .i64 a1_0) ∧ w'.cell? ⟨gb417, 1, none⟩ = some (.int .i64 a1_1) ∧ w'.cell? ⟨gb417, 2, none⟩ = some (.int .i64 a1_2) ∧ w'.cell? ⟨gb417, 3, none⟩ = some (.slice A1_3 l1_3.length c1_3) ∧ w'.cell? ⟨gb417, 4, none⟩ = some (.bool a1_4) ∧ w'.cell? ⟨gb417, 5, none⟩ = some (.bool a1_5) ∧ w'.cell? ⟨gb417, 6, none⟩ = some (.int .u64 a1_6) ∧ w'.cell? ⟨gb417, 7, none⟩ = some (.int .u64 a1_7) ∧ w'.cell? ⟨gb417, 8, none⟩ = some (.int .u64 a1_8) ∧ w'.cell? ⟨gb417, 9, none⟩ = some (.int .u64 a1_9) ∧ w'.cell? ⟨gb417, 10, none⟩ = some (.int .u64 a1_10) ∧ w'.cell? ⟨gb417, 11, none⟩ = some (.int .u64 a1_11) ∧ w'.cell? ⟨gb417, 12, none⟩ = some (.int .i64 a1_12)) (ds := []) #[false, false, false, false, false, false, false, false, false, false, false, false, false, false, false, false, false, false, false, false, false, false, false, false, false, false, false, false, false, false, false, false, false, false, false, false, false, false, false, false, false, false, false, false, false] (by kernel_rfl) rfl rfl ⟨kq_ BK443.out 0 rfl, kq_ BK443.out 1 rfl, kq_ BK443.out 2 rfl, kq_ BK443.out 3 rfl, kq_ BK443.out 4 rfl, kq_ BK443.out 5 rfl, kq_ BK443.out 6 rfl, kq_ BK443.out 7 rfl, kq_ BK443.out 8 rfl, kq_ BK443.out 9 rfl, kq_ BK443.out 10 rfl, kq_ BK443.out 11 rfl, kq_ BK443.out 12 rfl, kq_ BK460.out 0 rfl, kq_ BK460.out 1 rfl, kq_ BK460.out 2 rfl, kq_ BK460.out 3 rfl, kq_ BK460.out 4 rfl, kq_ BK460.out 5 rfl, kq_ BK460.out 6 rfl, kq_ BK460.out 7 rfl, kq_ BK460.out 8 rfl, kq_ BK460.out 9 rfl, kq_ BK460.out 10 rfl, kq_ BK460.out 11 rfl, kq_ BK460.out 12 rfl, kq_ BK416.out 0 rfl, kq_ BK416.out 1 rfl, kq_ BK416.out 2 rfl, kq_ BK416.out 3 rfl, kq_ BK416.out 4 rfl, kq_ BK416.out 5 rfl, kq_ BK416.out 6 rfl, kq_ BK416.out 7 rfl, kq_ BK416.out 8 rfl, kq_ BK416.out 9 rfl, kq_ BK416.out 10 rfl, kq_ BK416.out 11 rfl, kq_ BK416.out 12 rfl, kq_ BK417.out 0 rfl, kq_ BK417.out 1 rfl, kq_ BK417.out 2 rfl, kq_ BK417.out 3 rfl, kq_ BK417.out 4 rfl, kq_ BK417.out 5 rfl, kq_ BK417.out 6 rfl, kq_ BK417.out 7 rfl, kq_ BK417.out 8 rfl, kq_ BK417.out 9 rfl, kq_ BK417.out 10 rfl, kq_ BK417.out 11 rfl, kq_ BK417.out 12 rfl⟩ (fun hHeld => ?_); refine with_tabW medlarlaw16_HeadDoes.tab11 medlarlaw16_HeadDoes.bits11 (fun HT_ HW_ => ?_)
             generalize w68.drew = w69 at HO421 HO425 HO432 HO449 BK416 BK417 BK443 BK460 HB hHeld ⊢
             refine pu_ HT_ 0 (some 84) (bA10 1 45) ?_
             refine pu_ HT_ 1 (some 85) (bA10 2 45) ?_
             refine one_ (i := 2) (N := some 86) (bA10 3 45) rfl rfl (one_of HT_.out (by kernel_rfl)) (by decide) (fun K hK => ?_)
             refine gg_ func23 #[.slice Ao70 t419.length co70, .slice Ao71 t423.length co71] ?_
             with_reducible refine (medlarref16_SameBytes.calls _ _ t419 _ _ t423 true _ ?side1 ?side2 ?side3 ?side4 A55.out).mono ?_
             (case side1 => repeat (first | exact (Kd.R_reads' HO421.out).2.2 | (with_reducible refine Kd.C_alloc ?_ _) | (with_reducible refine Kd.C_drewN ?_ _) | (with_reducible refine Kd.C_drew ?_)))
             (case side2 => exact (Kd.R_reads' HO421.out).2.1)
             (case side3 => repeat (first | exact (Kd.R_reads' HO425.out).2.2 | (with_reducible refine Kd.C_alloc ?_ _) | (with_reducible refine Kd.C_drewN ?_ _) | (with_reducible refine Kd.C_drew ?_)))
             (case side4 => exact (Kd.R_reads' HO425.out).2.1)
             rintro e w' ⟨rfl, ⟨nd, rfl⟩⟩
             refine ⟨_, rfl, ?_⟩
             refine hK.out _ _ ⟨kq_ BK443.out 0 rfl, kq_ BK443.out 1 rfl, kq_ BK443.out 2 rfl, kq_ BK443.out 3 rfl, kq_ BK443.out 4 rfl, kq_ BK443.out 5 rfl, kq_ BK443.out 6 rfl, kq_ BK443.out 7 rfl, kq_ BK443.out 8 rfl, kq_ BK443.out 9 rfl, kq_ BK443.out 10 rfl, kq_ BK443.out 11 rfl, kq_ BK443.out 12 rfl, kq_ BK460.out 0 rfl, kq_ BK460.out 1 rfl, kq_ BK460.out 2 rfl, kq_ BK460.out 3 rfl, kq_ BK460.out 4 rfl, kq_ BK460.out 5 rfl, kq_ BK460.out 6 rfl, kq_ BK460.out 7 rfl, kq_ BK460.out 8 rfl, kq_ BK460.out 9 rfl, kq_ BK460.out 10 rfl, kq_ BK460.out 11 rfl, kq_ BK460.out 12 rfl, kq_ BK416.out 0 rfl, kq_ BK416.out 1 rfl, kq_ BK416.out 2 rfl, kq_ BK416.out 3 rfl, kq_ BK416.out 4 rfl, kq_ BK416.out 5 rfl, kq_ BK416.out 6 rfl, kq_ BK416.out 7 rfl, kq_ BK416.out 8 rfl, kq_ BK416.out 9 rfl, kq_ BK416.out 10 rfl, kq_ BK416.out 11 rfl, kq_ BK416.out 12 rfl, kq_ BK417.out 0 rfl, kq_ BK417.out 1 rfl, kq_ BK417.out 2 rfl, kq_ BK417.out 3 rfl, kq_ BK417.out 4 rfl, kq_ BK417.out 5 rfl, kq_ BK417.out 6 rfl, kq_ BK417.out 7 rfl, kq_ BK417.out 8 rfl, kq_ BK417.out 9 rfl, kq_ BK417.out 10 rfl, kq_ BK417.out 11 rfl, kq_ BK417.out 12 rfl⟩ (fun hHeld => ?_)
             clear hK K
             refine norm_ (a' := ?_) ?_ ?_
             rotate_left
             ·show Act.put _ (some 86) _ = _
              simp only [Act.put, setIfInBounds_toArray, set_cons_zero, set_cons_succ, i64_w, i32_w]
              rfl
             refine pu_ HT_ 3 (some 87) (bA10 4 45) ?_
             refine pu_ HT_ 4 (some 88) (bA10 5 45) ?_
             refine pu_ HT_ 5 (some 89) (bA10 6 45) ?_
             refine pu_ HT_ 6 (some 90) (bA10 7 45) ?_
             refine pu_ HT_ 7 (some 91) (bA10 8 45) ?_
             refine pu_ HT_ 8 (some 92) (bA10 9 45) ?_
             refine tk_ HT_ HW_ hHeld 9 (some 93) (bA10 10 45) rfl (by rintro w' ⟨s0, s1, s2, s3, s4, s5, s6, s7, s8, s9, s10, s11, s12, s13, s14, s15, s16, s17, s18, s19, s20, s21, s22, s23, s24, s25, s26, s27, s28, s29, s30, s31, s32, s33, s34, s35, s36, s37, s38, s39, s40, s41, s42, s43, s44, s45, s46, s47, s48, s49, s50, s51⟩; go_simp; with_reducible rfl) ?_
             refine tk_ HT_ HW_ hHeld 10 (some 94) (bA10 11 45) rfl (by rintro w' ⟨s0, s1, s2, s3, s4, s5, s6, s7, s8, s9, s10, s11, s12, s13, s14, s15, s16, s17, s18, s19, s20, s21, s22, s23, s24, s25, s26, s27, s28, s29, s30, s31, s32, s33, s34, s35, s36, s37, s38, s39, s40, s41, s42, s43, s44, s45, s46, s47, s48, s49, s50, s51⟩; go_simp; with_reducible rfl) ?_
             refine one_ (i := 11) (N := some 95) (bA10 12 45) rfl rfl (one_of HT_.out (by kernel_rfl)) (by decide) (fun K hK => ?_)
             refine gg_ func24 #[.agg #[.int .i64 t427, .int .i64 t428, .int .i64 t429, .slice Ao47 t430.length co47, .bool t433, .bool t434, .int .u64 t435, .int .u64 t436, .int .u64 t437, .int .u64 t438, .int .u64 t439, .int .u64 t440, .int .i64 t441], .agg #[.int .i64 t444, .int .i64 t445, .int .i64 t446, .slice Ao54 t447.length co54, .bool t450, .bool t451, .int .u64 t452, .int .u64 t453, .int .u64 t454, .int .u64 t455, .int .u64 t456, .int .u64 t457, .int .i64 t458]] ?_
             with_reducible refine (medlarref16_Same.calls kj5 t427 t428 t429 _ _ t430 t433 t434 t435 t436 t437 t438 t439 t440 t441 t444 t445 t446 _ _ t447 t450 t451 t452 t453 t454 t455 t456 t457 t458 true _ ?side1 ?side2 ?side3 ?side4 A58.out).mono ?_
             (case side1 => repeat (first | exact (Kd.R_reads' HO432.out).2.2 | (with_reducible refine Kd.C_alloc ?_ _) | (with_reducible refine Kd.C_drewN ?_ _) | (with_reducible refine Kd.C_drew ?_)))
             (case side2 => exact (Kd.R_reads' HO432.out).2.1)
             (case side3 => repeat (first | exact (Kd.R_reads' HO449.out).2.2 | (with_reducible refine Kd.C_alloc ?_ _) | (with_reducible refine Kd.C_drewN ?_ _) | (with_reducible refine Kd.C_drew ?_)))
             (case side4 => exact (Kd.R_reads' HO449.out).2.1)
             rintro e w72 ⟨rfl, hb⟩
             refine ⟨_, rfl, ?_⟩
             replace HO421 := ak_ (Kd.R_below (rl_ HO421) hb)
             replace HO425 := ak_ (Kd.R_below (rl_ HO425) hb)
             replace HO432 := ak_ (Kd.R_below (rl_ HO432) hb)
             replace HO449 := ak_ (Kd.R_below (rl_ HO449) hb)
             replace BK416 := ak_ (kb_ (kl_ BK416) hb)
             replace BK417 := ak_ (kb_ (kl_ BK417) hb)
             replace BK443 := ak_ (kb_ (kl_ BK443) hb)
             replace BK460 := ak_ (kb_ (kl_ BK460) hb)
             replace HB := ak_ (bt_ (bw4_ HB GE416 GE417 GE443 GE460) hb)
             (try clear hb)
             (try clear hb2)
             (try clear hk)
             (try clear hi)
             refine hK.out _ _ ⟨kq_ BK443.out 0 rfl, kq_ BK443.out 1 rfl, kq_ BK443.out 2 rfl, kq_ BK443.out 3 rfl, kq_ BK443.out 4 rfl, kq_ BK443.out 5 rfl, kq_ BK443.out 6 rfl, kq_ BK443.out 7 rfl, kq_ BK443.out 8 rfl, kq_ BK443.out 9 rfl, kq_ BK443.out 10 rfl, kq_ BK443.out 11 rfl, kq_ BK443.out 12 rfl, kq_ BK460.out 0 rfl, kq_ BK460.out 1 rfl, kq_ BK460.out 2 rfl, kq_ BK460.out 3 rfl, kq_ BK460.out 4 rfl, kq_ BK460.out 5 rfl, kq_ BK460.out 6 rfl, kq_ BK460.out 7 rfl, kq_ BK460.out 8 rfl, kq_ BK460.out 9 rfl, kq_ BK460.out 10 rfl, kq_ BK460.out 11 rfl, kq_ BK460.out 12 rfl, kq_ BK416.out 0 rfl, kq_ BK416.out 1 rfl, kq_ BK416.out 2 rfl, kq_ BK416.out 3 rfl, kq_ BK416.out 4 rfl, kq_ BK416.out 5 rfl, kq_ BK416.out 6 rfl, kq_ BK416.out 7 rfl, kq_ BK416.out 8 rfl, kq_ BK416.out 9 rfl, kq_ BK416.out 10 rfl, kq_ BK416.out 11 rfl, kq_ BK416.out 12 rfl, kq_ BK417.out 0 rfl, kq_ BK417.out 1 rfl, kq_ BK417.out 2 rfl, kq_ BK417.out 3 rfl, kq_ BK417.out 4 rfl, kq_ BK417.out 5 rfl, kq_ BK417.out 6 rfl, kq_ BK417.out 7 rfl, kq_ BK417.out 8 rfl, kq_ BK417.out 9 rfl, kq_ BK417.out 10 rfl, kq_ BK417.out 11 rfl, kq_ BK417.out 12 rfl⟩ (fun hHeld => ?_)
             clear hK K
             refine norm_ (a' := ?_) ?_ ?_
             rotate_left
             ·show Act.put _ (some 95) _ = _
              simp only [Act.put, setIfInBounds_toArray, set_cons_zero, set_cons_succ, i64_w, i32_w]
              rfl
             refine pu_ HT_ 12 (some 96) (bA10 13 45) ?_
             refine pu_ HT_ 13 (some 97) (bA10 14 45) ?_
             refine pu_ HT_ 14 (some 98) (bA10 15 45) ?_
             refine pu_ HT_ 15 (some 99) (bA10 16 45) ?_
             refine pu_ HT_ 16 (some 100) (bA10 17 45) ?_
             refine pu_ HT_ 17 (some 101) (bA10 18 45) ?_
             refine pu_ HT_ 18 (some 102) (bA10 19 45) ?_
             refine pu_ HT_ 19 (some 103) (bA10 20 45) ?_
             refine pu_ HT_ 20 (some 104) (bA10 21 45) ?_
             refine pu_ HT_ 21 (some 105) (bA10 22 45) ?_
             refine pu_ HT_ 22 (some 106) (bA10 23 45) ?_
             refine pu_ HT_ 23 (some 107) (bA10 24 45) ?_
             refine pu_ HT_ 24 (some 108) (bA10 25 45) ?_
             refine pu_ HT_ 25 (some 109) (bA10 26 45) ?_
             refine pu_ HT_ 26 (some 110) (bA10 27 45) ?_
             refine pu_ HT_ 27 (some 111) (bA10 28 45) ?_
             refine pu_ HT_ 28 (some 112) (bA10 29 45) ?_
             refine tk_ HT_ HW_ hHeld 29 (some 113) (bA10 30 45) rfl (by rintro w' ⟨s0, s1, s2, s3, s4, s5, s6, s7, s8, s9, s10, s11, s12, s13, s14, s15, s16, s17, s18, s19, s20, s21, s22, s23, s24, s25, s26, s27, s28, s29, s30, s31, s32, s33, s34, s35, s36, s37, s38, s39, s40, s41, s42, s43, s44, s45, s46, s47, s48, s49, s50, s51⟩; go_simp; with_reducible rfl) ?_
             refine tk_ HT_ HW_ hHeld 31 (some 115) #[true, true, true, true, true, true, true, true, true, true, true, true, true, true, true, true, true, true, true, true, true, true, true, true, true, true, true, true, true, true, false, true, false, false, false, false, false, false, false, false, false, false, false, false, false] rfl (by rintro w' ⟨s0, s1, s2, s3, s4, s5, s6, s7, s8, s9, s10, s11, s12, s13, s14, s15, s16, s17, s18, s19, s20, s21, s22, s23, s24, s25, s26, s27, s28, s29, s30, s31, s32, s33, s34, s35, s36, s37, s38, s39, s40, s41, s42, s43, s44, s45, s46, s47, s48, s49, s50, s51⟩; go_simp; with_reducible rfl) ?_
             refine one_ (i := 30) (N := some 114) (bA10 32 45) rfl rfl (one_of HT_.out (by kernel_rfl)) (by decide) (fun K hK => ?_)
             refine gg_ func16 #[.agg #[.int .i64 a0_0, .int .i64 a0_1, .int .i64 a0_2, .slice A0_3 l0_3.length c0_3, .bool a0_4, .bool a0_5, .int .u64 a0_6, .int .u64 a0_7, .int .u64 a0_8, .int .u64 a0_9, .int .u64 a0_10, .int .u64 a0_11, .int .i64 a0_12]] ?_
             with_reducible refine (head_Check.calls kj5 a0_0 a0_1 a0_2 _ _ l0_3 a0_4 a0_5 a0_6 a0_7 a0_8 a0_9 a0_10 a0_11 a0_12 t467 _ ?side1 ?side2 A63.out).mono ?_
             (case side1 => repeat (first | exact (Kd.C_below HR0_3.out HB.out) | (with_reducible refine Kd.C_alloc ?_ _) | (with_reducible refine Kd.C_drewN ?_ _) | (with_reducible refine Kd.C_drew ?_)))
             (case side2 => exact HC0_3.out)
             rintro e w73 ⟨rfl, hb⟩
             refine ⟨_, rfl, ?_⟩
             replace HO421 := ak_ (Kd.R_below (rl_ HO421) hb)
             replace HO425 := ak_ (Kd.R_below (rl_ HO425) hb)
             replace HO432 := ak_ (Kd.R_below (rl_ HO432) hb)
             replace HO449 := ak_ (Kd.R_below (rl_ HO449) hb)
             replace BK416 := ak_ (kb_ (kl_ BK416) hb)
             replace BK417 := ak_ (kb_ (kl_ BK417) hb)
             replace BK443 := ak_ (kb_ (kl_ BK443) hb)
             replace BK460 := ak_ (kb_ (kl_ BK460) hb)
             replace HB := ak_ (bt_ (bw4_ HB GE416 GE417 GE443 GE460) hb)
             (try clear hb)
             (try clear hb2)
             (try clear hk)
             (try clear hi)
             refine hK.out _ _ ⟨kq_ BK443.out 0 rfl, kq_ BK443.out 1 rfl, kq_ BK443.out 2 rfl, kq_ BK443.out 3 rfl, kq_ BK443.out 4 rfl, kq_ BK443.out 5 rfl, kq_ BK443.out 6 rfl, kq_ BK443.out 7 rfl, kq_ BK443.out 8 rfl, kq_ BK443.out 9 rfl, kq_ BK443.out 10 rfl, kq_ BK443.out 11 rfl, kq_ BK443.out 12 rfl, kq_ BK460.out 0 rfl, kq_ BK460.out 1 rfl, kq_ BK460.out 2 rfl, kq_ BK460.out 3 rfl, kq_ BK460.out 4 rfl, kq_ BK460.out 5 rfl, kq_ BK460.out 6 rfl, kq_ BK460.out 7 rfl, kq_ BK460.out 8 rfl, kq_ BK460.out 9 rfl, kq_ BK460.out 10 rfl, kq_ BK460.out 11 rfl, kq_ BK460.out 12 rfl, kq_ BK416.out 0 rfl, kq_ BK416.out 1 rfl, kq_ BK416.out 2 rfl, kq_ BK416.out 3 rfl, kq_ BK416.out 4 rfl, kq_ BK416.out 5 rfl, kq_ BK416.out 6 rfl, kq_ BK416.out 7 rfl, kq_ BK416.out 8 rfl, kq_ BK416.out 9 rfl, kq_ BK416.out 10 rfl, kq_ BK416.out 11 rfl, kq_ BK416.out 12 rfl, kq_ BK417.out 0 rfl, kq_ BK417.out 1 rfl, kq_ BK417.out 2 rfl, kq_ BK417.out 3 rfl, kq_ BK417.out 4 rfl, kq_ BK417.out 5 rfl, kq_ BK417.out 6 rfl, kq_ BK417.out 7 rfl, kq_ BK417.out 8 rfl, kq_ BK417.out 9 rfl, kq_ BK417.out 10 rfl, kq_ BK417.out 11 rfl, kq_ BK417.out 12 rfl⟩ (fun hHeld => ?_)
             clear hK K
             refine norm_ (a' := ?_) ?_ ?_
             rotate_left
             ·show Act.put _ (some 114) _ = _
              simp only [Act.put, setIfInBounds_toArray, set_cons_zero, set_cons_succ, i64_w, i32_w]
              rfl
             refine one_ (i := 32) (N := some 116) (bA10 33 45) rfl rfl (one_of HT_.out (by kernel_rfl)) (by decide) (fun K hK => ?_)
             refine gg_ func25 #[.agg #[.int .i64 a0_0, .int .i64 a0_1, .int .i64 a0_2, .slice A0_3 l0_3.length c0_3, .bool a0_4, .bool a0_5, .int .u64 a0_6, .int .u64 a0_7, .int .u64 a0_8, .int .u64 a0_9, .int .u64 a0_10, .int .u64 a0_11, .int .i64 a0_12]] ?_
             with_reducible refine (medlarref16_Check.calls kj5 a0_0 a0_1 a0_2 _ _ l0_3 a0_4 a0_5 a0_6 a0_7 a0_8 a0_9 a0_10 a0_11 a0_12 t468 _ ?side1 ?side2 A64.out).mono ?_
             (case side1 => repeat (first | exact (Kd.C_below HR0_3.out HB.out) | (with_reducible refine Kd.C_alloc ?_ _) | (with_reducible refine Kd.C_drewN ?_ _) | (with_reducible refine Kd.C_drew ?_)))
             (case side2 => exact HC0_3.out)
             rintro e w74 ⟨rfl, hb⟩
             refine ⟨_, rfl, ?_⟩
             replace HO421 := ak_ (Kd.R_below (rl_ HO421) hb)
             replace HO425 := ak_ (Kd.R_below (rl_ HO425) hb)
             replace HO432 := ak_ (Kd.R_below (rl_ HO432) hb)
             replace HO449 := ak_ (Kd.R_below (rl_ HO449) hb)
             replace BK416 := ak_ (kb_ (kl_ BK416) hb)
             replace BK417 := ak_ (kb_ (kl_ BK417) hb)
             replace BK443 := ak_ (kb_ (kl_ BK443) hb)
             replace BK460 := ak_ (kb_ (kl_ BK460) hb)
             replace HB := ak_ (bt_ (bw4_ HB GE416 GE417 GE443 GE460) hb)
             (try clear hb)
             (try clear hb2)
             (try clear hk)
             (try clear hi)
             refine hK.out _ _ ⟨kq_ BK443.out 0 rfl, kq_ BK443.out 1 rfl, kq_ BK443.out 2 rfl, kq_ BK443.out 3 rfl, kq_ BK443.out 4 rfl, kq_ BK443.out 5 rfl, kq_ BK443.out 6 rfl, kq_ BK443.out 7 rfl, kq_ BK443.out 8 rfl, kq_ BK443.out 9 rfl, kq_ BK443.out 10 rfl, kq_ BK443.out 11 rfl, kq_ BK443.out 12 rfl, kq_ BK460.out 0 rfl, kq_ BK460.out 1 rfl, kq_ BK460.out 2 rfl, kq_ BK460.out 3 rfl, kq_ BK460.out 4 rfl, kq_ BK460.out 5 rfl, kq_ BK460.out 6 rfl, kq_ BK460.out 7 rfl, kq_ BK460.out 8 rfl, kq_ BK460.out 9 rfl, kq_ BK460.out 10 rfl, kq_ BK460.out 11 rfl, kq_ BK460.out 12 rfl, kq_ BK416.out 0 rfl, kq_ BK416.out 1 rfl, kq_ BK416.out 2 rfl, kq_ BK416.out 3 rfl, kq_ BK416.out 4 rfl, kq_ BK416.out 5 rfl, kq_ BK416.out 6 rfl, kq_ BK416.out 7 rfl, kq_ BK416.out 8 rfl, kq_ BK416.out 9 rfl, kq_ BK416.out 10 rfl, kq_ BK416.out 11 rfl, kq_ BK416.out 12 rfl, kq_ BK417.out 0 rfl, kq_ BK417.out 1 rfl, kq_ BK417.out 2 rfl, kq_ BK417.out 3 rfl, kq_ BK417.out 4 rfl, kq_ BK417.out 5 rfl, kq_ BK417.out 6 rfl, kq_ BK417.out 7 rfl, kq_ BK417.out 8 rfl, kq_ BK417.out 9 rfl, kq_ BK417.out 10 rfl, kq_ BK417.out 11 rfl, kq_ BK417.out 12 rfl⟩ (fun hHeld => ?_)
             clear hK K
             refine norm_ (a' := ?_) ?_ ?_
             rotate_left
             ·show Act.put _ (some 116) _ = _
              simp only [Act.put, setIfInBounds_toArray, set_cons_zero, set_cons_succ, i64_w, i32_w]
              rfl
             refine pu_ HT_ 33 (some 117) (bA10 34 45) ?_
             refine pu_ HT_ 34 (some 118) (bA10 35 45) ?_
             refine pu_ HT_ 35 (some 119) (bA10 36 45) ?_
             refine tk_ HT_ HW_ hHeld 36 (some 120) (bA10 37 45) rfl (by rintro w' ⟨s0, s1, s2, s3, s4, s5, s6, s7, s8, s9, s10, s11, s12, s13, s14, s15, s16, s17, s18, s19, s20, s21, s22, s23, s24, s25, s26, s27, s28, s29, s30, s31, s32, s33, s34, s35, s36, s37, s38, s39, s40, s41, s42, s43, s44, s45, s46, s47, s48, s49, s50, s51⟩; go_simp; with_reducible rfl) ?_
             refine tk_ HT_ HW_ hHeld 37 (some 121) (bA10 38 45) rfl (by rintro w' ⟨s0, s1, s2, s3, s4, s5, s6, s7, s8, s9, s10, s11, s12, s13, s14, s15, s16, s17, s18, s19, s20, s21, s22, s23, s24, s25, s26, s27, s28, s29, s30, s31, s32, s33, s34, s35, s36, s37, s38, s39, s40, s41, s42, s43, s44, s45, s46, s47, s48, s49, s50, s51⟩; go_simp; with_reducible rfl) ?_
             refine tk_ HT_ HW_ hHeld 39 (some 123) #[true, true, true, true, true, true, true, true, true, true, true, true, true, true, true, true, true, true, true, true, true, true, true, true, true, true, true, true, true, true, true, true, true, true, true, true, true, true, false, true, false, false, false, false, false] rfl (by rintro w' ⟨s0, s1, s2, s3, s4, s5, s6, s7, s8, s9, s10, s11, s12, s13, s14, s15, s16, s17, s18, s19, s20, s21, s22, s23, s24, s25, s26, s27, s28, s29, s30, s31, s32, s33, s34, s35, s36, s37, s38, s39, s40, s41, s42, s43, s44, s45, s46, s47, s48, s49, s50, s51⟩; go_simp; with_reducible rfl) ?_
             refine tk_ HT_ HW_ hHeld 40 (some 124) #[true, true, true, true, true, true, true, true, true, true, true, true, true, true, true, true, true, true, true, true, true, true, true, true, true, true, true, true, true, true, true, true, true, true, true, true, true, true, false, true, true, false, false, false, false] rfl (by rintro w' ⟨s0, s1, s2, s3, s4, s5, s6, s7, s8, s9, s10, s11, s12, s13, s14, s15, s16, s17, s18, s19, s20, s21, s22, s23, s24, s25, s26, s27, s28, s29, s30, s31, s32, s33, s34, s35, s36, s37, s38, s39, s40, s41, s42, s43, s44, s45, s46, s47, s48, s49, s50, s51⟩; go_simp; with_reducible rfl) ?_
             refine one_ (i := 38) (N := some 122) (bA10 41 45) rfl rfl (one_of HT_.out (by kernel_rfl)) (by decide) (fun K hK => ?_)
             refine gg_ func26 #[.agg #[.int .i64 a0_0, .int .i64 a0_1, .int .i64 a0_2, .slice A0_3 l0_3.length c0_3, .bool a0_4, .bool a0_5, .int .u64 a0_6, .int .u64 a0_7, .int .u64 a0_8, .int .u64 a0_9, .int .u64 a0_10, .int .u64 a0_11, .int .i64 a0_12], .agg #[.int .i64 a1_0, .int .i64 a1_1, .int .i64 a1_2, .slice A1_3 l1_3.length c1_3, .bool a1_4, .bool a1_5, .int .u64 a1_6, .int .u64 a1_7, .int .u64 a1_8, .int .u64 a1_9, .int .u64 a1_10, .int .u64 a1_11, .int .i64 a1_12]] ?_
             with_reducible refine (head_Same.calls kj5 a0_0 a0_1 a0_2 _ _ l0_3 a0_4 a0_5 a0_6 a0_7 a0_8 a0_9 a0_10 a0_11 a0_12 a1_0 a1_1 a1_2 _ _ l1_3 a1_4 a1_5 a1_6 a1_7 a1_8 a1_9 a1_10 a1_11 a1_12 t469 _ ?side1 ?side2 ?side3 ?side4 A66.out).mono ?_
             (case side1 => repeat (first | exact (Kd.C_below HR0_3.out HB.out) | (with_reducible refine Kd.C_alloc ?_ _) | (with_reducible refine Kd.C_drewN ?_ _) | (with_reducible refine Kd.C_drew ?_)))
             (case side2 => exact HC0_3.out)
             (case side3 => repeat (first | exact (Kd.C_below HR1_3.out HB.out) | (with_reducible refine Kd.C_alloc ?_ _) | (with_reducible refine Kd.C_drewN ?_ _) | (with_reducible refine Kd.C_drew ?_)))
             (case side4 => exact HC1_3.out)
             rintro e w75 ⟨rfl, hb⟩
             refine ⟨_, rfl, ?_⟩
             replace HO421 := ak_ (Kd.R_below (rl_ HO421) hb)
             replace HO425 := ak_ (Kd.R_below (rl_ HO425) hb)
             replace HO432 := ak_ (Kd.R_below (rl_ HO432) hb)
             replace HO449 := ak_ (Kd.R_below (rl_ HO449) hb)
             replace BK416 := ak_ (kb_ (kl_ BK416) hb)
             replace BK417 := ak_ (kb_ (kl_ BK417) hb)
             replace BK443 := ak_ (kb_ (kl_ BK443) hb)
             replace BK460 := ak_ (kb_ (kl_ BK460) hb)
             replace HB := ak_ (bt_ (bw4_ HB GE416 GE417 GE443 GE460) hb)
             (try clear hb)
             (try clear hb2)
             (try clear hk)
             (try clear hi)
             refine hK.out _ _ ⟨kq_ BK443.out 0 rfl, kq_ BK443.out 1 rfl, kq_ BK443.out 2 rfl, kq_ BK443.out 3 rfl, kq_ BK443.out 4 rfl, kq_ BK443.out 5 rfl, kq_ BK443.out 6 rfl, kq_ BK443.out 7 rfl, kq_ BK443.out 8 rfl, kq_ BK443.out 9 rfl, kq_ BK443.out 10 rfl, kq_ BK443.out 11 rfl, kq_ BK443.out 12 rfl, kq_ BK460.out 0 rfl, kq_ BK460.out 1 rfl, kq_ BK460.out 2 rfl, kq_ BK460.out 3 rfl, kq_ BK460.out 4 rfl, kq_ BK460.out 5 rfl, kq_ BK460.out 6 rfl, kq_ BK460.out 7 rfl, kq_ BK460.out 8 rfl, kq_ BK460.out 9 rfl, kq_ BK460.out 10 rfl, kq_ BK460.out 11 rfl, kq_ BK460.out 12 rfl, kq_ BK416.out 0 rfl, kq_ BK416.out 1 rfl, kq_ BK416.out 2 rfl, kq_ BK416.out 3 rfl, kq_ BK416.out 4 rfl, kq_ BK416.out 5 rfl, kq_ BK416.out 6 rfl, kq_ BK416.out 7 rfl, kq_ BK416.out 8 rfl, kq_ BK416.out 9 rfl, kq_ BK416.out 10 rfl, kq_ BK416.out 11 rfl, kq_ BK416.out 12 rfl, kq_ BK417.out 0 rfl, kq_ BK417.out 1 rfl, kq_ BK417.out 2 rfl, kq_ BK417.out 3 rfl, kq_ BK417.out 4 rfl, kq_ BK417.out 5 rfl, kq_ BK417.out 6 rfl, kq_ BK417.out 7 rfl, kq_ BK417.out 8 rfl, kq_ BK417.out 9 rfl, kq_ BK417.out 10 rfl, kq_ BK417.out 11 rfl, kq_ BK417.out 12 rfl⟩ (fun hHeld => ?_)
             clear hK K
             refine norm_ (a' := ?_) ?_ ?_
             rotate_left
             ·show Act.put _ (some 122) _ = _
              simp only [Act.put, setIfInBounds_toArray, set_cons_zero, set_cons_succ, i64_w, i32_w]
              rfl
             refine one_ (i := 41) (N := some 125) (bA10 42 45) rfl rfl (one_of HT_.out (by kernel_rfl)) (by decide) (fun K hK => ?_)
             refine gg_ func24 #[.agg #[.int .i64 a0_0, .int .i64 a0_1, .int .i64 a0_2, .slice A0_3 l0_3.length c0_3, .bool a0_4, .bool a0_5, .int .u64 a0_6, .int .u64 a0_7, .int .u64 a0_8, .int .u64 a0_9, .int .u64 a0_10, .int .u64 a0_11, .int .i64 a0_12], .agg #[.int .i64 a1_0, .int .i64 a1_1, .int .i64 a1_2, .slice A1_3 l1_3.length c1_3, .bool a1_4, .bool a1_5, .int .u64 a1_6, .int .u64 a1_7, .int .u64 a1_8, .int .u64 a1_9, .int .u64 a1_10, .int .u64 a1_11, .int .i64 a1_12]] ?_
             with_reducible refine (medlarref16_Same.calls kj5 a0_0 a0_1 a0_2 _ _ l0_3 a0_4 a0_5 a0_6 a0_7 a0_8 a0_9 a0_10 a0_11 a0_12 a1_0 a1_1 a1_2 _ _ l1_3 a1_4 a1_5 a1_6 a1_7 a1_8 a1_9 a1_10 a1_11 a1_12 t470 _ ?side1 ?side2 ?side3 ?side4 A67.out).mono ?_
             (case side1 => repeat (first | exact (Kd.C_below HR0_3.out HB.out) | (with_reducible refine Kd.C_alloc ?_ _) | (with_reducible refine Kd.C_drewN ?_ _) | (with_reducible refine Kd.C_drew ?_)))
             (case side2 => exact HC0_3.out)
             (case side3 => repeat (first | exact (Kd.C_below HR1_3.out HB.out) | (with_reducible refine Kd.C_alloc ?_ _) | (with_reducible refine Kd.C_drewN ?_ _) | (with_reducible refine Kd.C_drew ?_)))
             (case side4 => exact HC1_3.out)
             rintro e w76 ⟨rfl, hb⟩
             refine ⟨_, rfl, ?_⟩
             replace HO421 := ak_ (Kd.R_below (rl_ HO421) hb)
             replace HO425 := ak_ (Kd.R_below (rl_ HO425) hb)
             replace HO432 := ak_ (Kd.R_below (rl_ HO432) hb)
             replace HO449 := ak_ (Kd.R_below (rl_ HO449) hb)
             replace BK416 := ak_ (kb_ (kl_ BK416) hb)
             replace BK417 := ak_ (kb_ (kl_ BK417) hb)
             replace BK443 := ak_ (kb_ (kl_ BK443) hb)
             replace BK460 := ak_ (kb_ (kl_ BK460) hb)
             replace HB := ak_ (bt_ (bw4_ HB GE416 GE417 GE443 GE460) hb)
             (try clear hb)
             (try clear hb2)
             (try clear hk)
             (try clear hi)
             refine hK.out _ _ ⟨kq_ BK443.out 0 rfl, kq_ BK443.out 1 rfl, kq_ BK443.out 2 rfl, kq_ BK443.out 3 rfl, kq_ BK443.out 4 rfl, kq_ BK443.out 5 rfl, kq_ BK443.out 6 rfl, kq_ BK443.out 7 rfl, kq_ BK443.out 8 rfl, kq_ BK443.out 9 rfl, kq_ BK443.out 10 rfl, kq_ BK443.out 11 rfl, kq_ BK443.out 12 rfl, kq_ BK460.out 0 rfl, kq_ BK460.out 1 rfl, kq_ BK460.out 2 rfl, kq_ BK460.out 3 rfl, kq_ BK460.out 4 rfl, kq_ BK460.out 5 rfl, kq_ BK460.out 6 rfl, kq_ BK460.out 7 rfl, kq_ BK460.out 8 rfl, kq_ BK460.out 9 rfl, kq_ BK460.out 10 rfl, kq_ BK460.out 11 rfl, kq_ BK460.out 12 rfl, kq_ BK416.out 0 rfl, kq_ BK416.out 1 rfl, kq_ BK416.out 2 rfl, kq_ BK416.out 3 rfl, kq_ BK416.out 4 rfl, kq_ BK416.out 5 rfl, kq_ BK416.out 6 rfl, kq_ BK416.out 7 rfl, kq_ BK416.out 8 rfl, kq_ BK416.out 9 rfl, kq_ BK416.out 10 rfl, kq_ BK416.out 11 rfl, kq_ BK416.out 12 rfl, kq_ BK417.out 0 rfl, kq_ BK417.out 1 rfl, kq_ BK417.out 2 rfl, kq_ BK417.out 3 rfl, kq_ BK417.out 4 rfl, kq_ BK417.out 5 rfl, kq_ BK417.out 6 rfl, kq_ BK417.out 7 rfl, kq_ BK417.out 8 rfl, kq_ BK417.out 9 rfl, kq_ BK417.out 10 rfl, kq_ BK417.out 11 rfl, kq_ BK417.out 12 rfl⟩ (fun hHeld => ?_)
             clear hK K
             refine norm_ (a' := ?_) ?_ ?_
             rotate_left
             ·show Act.put _ (some 125) _ = _
              simp only [Act.put, setIfInBounds_toArray, set_cons_zero, set_cons_succ, i64_w, i32_w]
              rfl
             refine pu_ HT_ 42 (some 126) (bA10 43 45) ?_
             refine pu_ HT_ 43 (some 127) (bA10 44 45) ?_
             refine pu_ HT_ 44 (some 23) (bA10 45 45) ?_
             refine done_ (done_of HT_.out (by kernel_rfl)) ?_
             try go_wp2
             go_meet
             case rel => exact ⟨_, ((t469 == t470)), rf_, H', ⟨by have := HJ5.out; first | omega | exact Nat.le_refl _⟩, ⟨rl_ HO432⟩, ⟨rl_ HO449⟩, ⟨kl_ BK416⟩, ⟨kl_ BK417⟩, ⟨kl_ BK443⟩, ⟨kl_ BK460⟩, ⟨bw4_ HB GE416 GE417 GE443 GE460⟩⟩
            ·rw [if_neg c65] at H
             exact (medlarlaw16_HeadDoes.noj (H.trans (congrArg some hT.out))).elim
           ·rw [if_neg c62] at H
            exact (medlarlaw16_HeadDoes.noj (H.trans (congrArg some hT.out))).elim
          ·rw [if_neg c61] at H
           exact (medlarlaw16_HeadDoes.noj (H.trans (congrArg some hT.out))).elim
         ·rw [if_neg c60] at H
          exact (medlarlaw16_HeadDoes.noj (H.trans (congrArg some hT.out))).elim
        ·replace c59 := Bool.eq_false_iff.mpr c59
         subst c59
         have H1 : (medlarlaw16_HeadDoes.j1 kj5 l2 t418 (strOfNums l2) false t427 t428 t429 t430 t433 t434 t435 t436 t437 t438 t439 t440 t441) = some r := by rw [if_neg (show ¬ (false = true) by decide)] at H; exact H
         clear H
         have H := H1
         clear H1
         exact (medlarlaw16_HeadDoes.noj (H.trans (congrArg some hT.out))).elim
       ·rw [if_neg c57] at H
        exact (medlarlaw16_HeadDoes.noj (H.trans (congrArg some hT.out))).elim
      ·replace c56 := Bool.eq_false_iff.mpr c56
       subst c56
       have H1 : (medlarlaw16_HeadDoes.j1 kj5 l2 t418 (strOfNums l2) false t427 t428 t429 t430 t433 t434 t435 t436 t437 t438 t439 t440 t441) = some r := by rw [if_neg (show ¬ (false = true) by decide)] at H; exact H
       clear H
       have H := H1
       clear H1
       exact (medlarlaw16_HeadDoes.noj (H.trans (congrArg some hT.out))).elim
     case rest =>
      clear HC35
      try clear c1
      try clear c2
      try clear p2
      try clear c5
      try clear c23
      try clear c56
      obtain ⟨kq, x23_34, rfl, HA, HJ34, HO_444003, HO_461003, BK416, BK417, BK443, BK460, HB⟩ := hcut
      cases kq with
      | zero => exact absurd HA.out (by simp [medlarlaw16_HeadDoes.j1])
      | succ kj34 =>
       have H := HA.out
       clear HA
       simp only [medlarlaw16_HeadDoes.j1] at H
       have H' := ak_ H
       clear H
       have hnb112 := NB443_416.out
       have hnc112 := NB416_443.out
       have hnb113 := NB443_417.out
       have hnc113 := NB417_443.out
       have hnb114 := NB443_460.out
       have hnc114 := NB460_443.out
       obtain ⟨hcz115_0, hcz115_1, hcz115_2, hcz115_3, hcz115_4, hcz115_5, hcz115_6, hcz115_7, hcz115_8, hcz115_9, hcz115_10, hcz115_11, hcz115_12, hfz115_0, hfz115_1, hfz115_2, hfz115_3, hfz115_4, hfz115_5, hfz115_6, hfz115_7, hfz115_8, hfz115_9, hfz115_10, hfz115_11, hfz115_12⟩ := kc13_ BK443.out
       go_wp2
       go_wp2
       go_loopg [131] kj34 (fun kq v131 w' => ∃ (x131_3 : Int) (x444003_3 : List (S41)) (x461003_3 : List (S41)) (u444003 : Value) (u461003 : Value), v131 = .int .i64 x131_3 ∧ Aside0 (medlarlaw16_HeadDoes.l0 kq l2 t418 (strOfNums l2) x23_34 (t430.length : Int) x131_3 t427 t428 t429 x444003_3 t433 t434 t435 t436 t437 t438 t439 t440 t441 = some r) ∧ Aside0 (kq ≤ kj34) ∧ Aside0 (Kd.R k41 41 w' w.heap.size (fun k_ => some k_ ≠ (u461003 : Value).ownBlock) u444003 x444003_3) ∧ Aside0 (Kd.R k41 41 w' w.heap.size (fun k_ => some k_ ≠ (u444003 : Value).ownBlock) u461003 x461003_3) ∧ Aside0 (w'.heap[gb416]? = some (.cells #[.int .i64 a0_0, .int .i64 a0_1, .int .i64 a0_2, (.slice A0_3 l0_3.length c0_3), .bool a0_4, .bool a0_5, .int .u64 a0_6, .int .u64 a0_7, .int .u64 a0_8, .int .u64 a0_9, .int .u64 a0_10, .int .u64 a0_11, .int .i64 a0_12] 31 (0, 0))) ∧ Aside0 (w'.heap[gb417]? = some (.cells #[.int .i64 a1_0, .int .i64 a1_1, .int .i64 a1_2, (.slice A1_3 l1_3.length c1_3), .bool a1_4, .bool a1_5, .int .u64 a1_6, .int .u64 a1_7, .int .u64 a1_8, .int .u64 a1_9, .int .u64 a1_10, .int .u64 a1_11, .int .i64 a1_12] 31 (0, 0))) ∧ Aside0 (w'.heap[gb443]? = some (.cells #[.int .i64 t427, .int .i64 t428, .int .i64 t429, u444003, .bool t433, .bool t434, .int .u64 t435, .int .u64 t436, .int .u64 t437, .int .u64 t438, .int .u64 t439, .int .u64 t440, .int .i64 t441] 31 (0, 0))) ∧ Aside0 (w'.heap[gb460]? = some (.cells #[.int .i64 t444, .int .i64 t445, .int .i64 t446, u461003, .bool t450, .bool t451, .int .u64 t452, .int .u64 t453, .int .u64 t454, .int .u64 t455, .int .u64 t456, .int .u64 t457, .int .i64 t458] 31 (0, 0))) ∧ Aside0 (Below w.heap.size w w'))
       case atStart => exact ⟨(0), (t430), (t447), (.slice Ao47 t430.length co47), (.slice Ao54 t447.length co54), rf_, H', ⟨Nat.le_refl _⟩, ⟨rl_ HO_444003⟩, ⟨rl_ HO_461003⟩, ⟨kl_ BK416⟩, ⟨kl_ BK417⟩, ⟨kl_ BK443⟩, ⟨kl_ BK460⟩, ⟨bw4_ HB GE416 GE417 GE443 GE460⟩⟩
       case round =>
        clear H'
        try clear c1
        try clear c2
        try clear p2
        try clear c5
        try clear c11
        try clear c23
        try clear c56
        try clear c112
        try clear c113
        try clear c114
        try clear hcz115_0 hcz115_1 hcz115_10 hcz115_11 hcz115_12 hcz115_2 hcz115_3 hcz115_4 hcz115_5 hcz115_6 hcz115_7 hcz115_8 hcz115_9
        try clear hfz115_0 hfz115_1 hfz115_10 hfz115_11 hfz115_12 hfz115_2 hfz115_3 hfz115_4 hfz115_5 hfz115_6 hfz115_7 hfz115_8 hfz115_9
        try clear p2
        obtain ⟨x131_3, x444003_3, x461003_3, u444003, u461003, rfl, HA, HK3, HO_444003, HO_461003, BK416, BK417, BK443, BK460, HB⟩ := hrel
        cases gk with
        | zero => exact absurd HA.out (by simp [medlarlaw16_HeadDoes.l0])
        | succ k3 =>
         have H := HA.out
         clear HA
         simp only [medlarlaw16_HeadDoes.l0] at H
         by_cases c116 : x131_3 < (t430.length : Int)
         ·rw [if_pos c116] at H
          have c116b0 := decide_eq_true c116
          clear c116
          by_cases c117 : 0 ≤ x131_3
          ·rw [if_pos c117] at H
           have c117b0 := decide_eq_true c117
           clear c117
           by_cases c118 : x131_3 < (x444003_3.length : Int)
           ·rw [if_pos c118] at H
            have c118b0 := decide_eq_true c118
            clear c118
            obtain ⟨y472, hy472⟩ : ∃ y_ : List (S41), y_ = (x444003_3.set (x131_3 : Int).toNat (⟨(⟨IntKind.u64.wrap (((rd_T41 x444003_3 x131_3).f0.f0) + 1), (rd_T41 x444003_3 x131_3).f0.f1⟩ : S39), (⟨(rd_T41 x444003_3 x131_3).f1.f0, (rd_T41 x444003_3 x131_3).f1.f1, (⟨(rd_T41 x444003_3 x131_3).f1.f2.f0, (rd_T41 x444003_3 x131_3).f1.f2.f1⟩ : S25), (⟨(⟨(rd_T41 x444003_3 x131_3).f1.f3.f0.f0, (rd_T41 x444003_3 x131_3).f1.f3.f0.f1⟩ : S25), (⟨(rd_T41 x444003_3 x131_3).f1.f3.f1.f0, (rd_T41 x444003_3 x131_3).f1.f3.f1.f1⟩ : S25)⟩ : S27), (rd_T41 x444003_3 x131_3).f1.f4⟩ : S29)⟩ : S41)) := ⟨_, rfl⟩
            replace H : (medlarlaw16_HeadDoes.l0 k3 l2 t418 (strOfNums l2) x23_34 (t430.length : Int) (wrap64 (x131_3 + 1)) t427 t428 t429 y472 t433 t434 t435 t436 t437 t438 t439 t440 t441) = some r := by first | (rw [hy472]; with_reducible exact H) | (have H2_ := (Option.bind_some _ _).symm.trans H; rw [hy472]; with_reducible exact H2_) | (have H2_ := (Option.bind_some _ _).symm.trans H; with_reducible exact H2_) | with_reducible exact H | (rw [hy472]; exact H) | exact H
            have Ny472 := ak_ hy472
            clear hy472
            have H' := ak_ H
            clear H
            have hnb120 := NB443_416.out
            have hnc120 := NB416_443.out
            have hnb121 := NB443_417.out
            have hnc121 := NB417_443.out
            have hnb122 := NB443_460.out
            have hnc122 := NB460_443.out
            obtain ⟨hcz123_0, hcz123_1, hcz123_2, hcz123_3, hcz123_4, hcz123_5, hcz123_6, hcz123_7, hcz123_8, hcz123_9, hcz123_10, hcz123_11, hcz123_12, hfz123_0, hfz123_1, hfz123_2, hfz123_3, hfz123_4, hfz123_5, hfz123_6, hfz123_7, hfz123_8, hfz123_9, hfz123_10, hfz123_11, hfz123_12⟩ := kc13_ BK443.out
            obtain ⟨Ao124, co124, eo124⟩ := Kd.R_slice HO_444003.out
            obtain ⟨Ao124, co124, eo124⟩ := Kd.R_slice HO_444003.out
            subst eo124
            have p471 : 0 ≤ (x131_3 : Int) := od_ (by first | (with_reducible assumption) | assumption)
            have q471 : x131_3 < (x444003_3.length : Int) := od_ (by first | (with_reducible assumption) | assumption)
            obtain ⟨ad471, e471, hx471_0, hx471_1, hx471_2, hx471_3, hx471_4, hx471_5, hx471_6, hx471_7, hx471_8, hx471_9, hx471_10⟩ := at_T41 (Kd.R_reads' HO_444003.out).2.2 x131_3 p471 q471
            cases e471
            replace p471 := eq_true p471
            replace q471 := eq_true q471
            have p119 : 0 ≤ (x131_3 : Int) := od_ (by first | (with_reducible assumption) | assumption)
            have q119 : (x131_3 : Int) < ((x444003_3.length : Int) : Int) := od_ (by first | (with_reducible assumption) | assumption)
            obtain ⟨go119, co119, eo119, gb119, gl119, cl119, HG119⟩ := Kd.R_form HO_444003.out (by omega)
            (first | cases eo119 | (injection eo119 with ea_ en_ ec_; (first | subst ea_ | (injection ea_ with ea_; subst ea_)); subst ec_; clear en_))
            have GB119 := ak_ gb119
            have GG119 := ak_ HG119
            clear gb119 gl119 HG119
            (first | simp only [add_plain] at hx471_0 | skip)
            (first | simp only [add_plain] at hx471_1 | skip)
            (first | simp only [add_plain] at hx471_2 | skip)
            (first | simp only [add_plain] at hx471_3 | skip)
            (first | simp only [add_plain] at hx471_4 | skip)
            (first | simp only [add_plain] at hx471_5 | skip)
            (first | simp only [add_plain] at hx471_6 | skip)
            (first | simp only [add_plain] at hx471_7 | skip)
            (first | simp only [add_plain] at hx471_8 | skip)
            (first | simp only [add_plain] at hx471_9 | skip)
            (first | simp only [add_plain] at hx471_10 | skip)
            obtain ⟨ce119, hcl119, hM119, hcc119, hfr119⟩ := Kd.R_elem HO_444003.out z41 (x131_3 : Int) p119 q119
            obtain rfl := k41_openM hM119
            have hx119_0 : wr.cell? ⟨go119, (x131_3 : Int).toNat * 11, none⟩ = some (.int .u64 ((rd_T41 x444003_3 x131_3).f0.f0)) := hcc119 0 _ rfl
            have hx119_1 : wr.cell? ⟨go119, (x131_3 : Int).toNat * 11 + 1, none⟩ = some (.int .u64 ((rd_T41 x444003_3 x131_3).f0.f1)) := hcc119 1 _ rfl
            have hx119_2 : wr.cell? ⟨go119, (x131_3 : Int).toNat * 11 + 2, none⟩ = some (.bool ((rd_T41 x444003_3 x131_3).f1.f0)) := hcc119 2 _ rfl
            have hx119_3 : wr.cell? ⟨go119, (x131_3 : Int).toNat * 11 + 3, none⟩ = some (.bool ((rd_T41 x444003_3 x131_3).f1.f1)) := hcc119 3 _ rfl
            have hx119_4 : wr.cell? ⟨go119, (x131_3 : Int).toNat * 11 + 4, none⟩ = some (.int .u64 ((rd_T41 x444003_3 x131_3).f1.f2.f0)) := hcc119 4 _ rfl
            have hx119_5 : wr.cell? ⟨go119, (x131_3 : Int).toNat * 11 + 5, none⟩ = some (.int .u64 ((rd_T41 x444003_3 x131_3).f1.f2.f1)) := hcc119 5 _ rfl
            have hx119_6 : wr.cell? ⟨go119, (x131_3 : Int).toNat * 11 + 6, none⟩ = some (.int .u64 ((rd_T41 x444003_3 x131_3).f1.f3.f0.f0)) := hcc119 6 _ rfl
            have hx119_7 : wr.cell? ⟨go119, (x131_3 : Int).toNat * 11 + 7, none⟩ = some (.int .u64 ((rd_T41 x444003_3 x131_3).f1.f3.f0.f1)) := hcc119 7 _ rfl
            have hx119_8 : wr.cell? ⟨go119, (x131_3 : Int).toNat * 11 + 8, none⟩ = some (.int .u64 ((rd_T41 x444003_3 x131_3).f1.f3.f1.f0)) := hcc119 8 _ rfl
            have hx119_9 : wr.cell? ⟨go119, (x131_3 : Int).toNat * 11 + 9, none⟩ = some (.int .u64 ((rd_T41 x444003_3 x131_3).f1.f3.f1.f1)) := hcc119 9 _ rfl
            have hx119_10 : wr.cell? ⟨go119, (x131_3 : Int).toNat * 11 + 10, none⟩ = some (.int .i64 ((rd_T41 x444003_3 x131_3).f1.f4)) := hcc119 10 _ rfl
            have hf119_0 : wr.frozen? ⟨go119, (x131_3 : Int).toNat * 11, none⟩ = false := hfr119 0
            have hf119_1 : wr.frozen? ⟨go119, (x131_3 : Int).toNat * 11 + 1, none⟩ = false := hfr119 1
            have hf119_2 : wr.frozen? ⟨go119, (x131_3 : Int).toNat * 11 + 2, none⟩ = false := hfr119 2
            have hf119_3 : wr.frozen? ⟨go119, (x131_3 : Int).toNat * 11 + 3, none⟩ = false := hfr119 3
            have hf119_4 : wr.frozen? ⟨go119, (x131_3 : Int).toNat * 11 + 4, none⟩ = false := hfr119 4
            have hf119_5 : wr.frozen? ⟨go119, (x131_3 : Int).toNat * 11 + 5, none⟩ = false := hfr119 5
            have hf119_6 : wr.frozen? ⟨go119, (x131_3 : Int).toNat * 11 + 6, none⟩ = false := hfr119 6
            have hf119_7 : wr.frozen? ⟨go119, (x131_3 : Int).toNat * 11 + 7, none⟩ = false := hfr119 7
            have hf119_8 : wr.frozen? ⟨go119, (x131_3 : Int).toNat * 11 + 8, none⟩ = false := hfr119 8
            have hf119_9 : wr.frozen? ⟨go119, (x131_3 : Int).toNat * 11 + 9, none⟩ = false := hfr119 9
            have hf119_10 : wr.frozen? ⟨go119, (x131_3 : Int).toNat * 11 + 10, none⟩ = false := hfr119 10
            clear hcl119 hcc119 hfr119 hM119
            replace p119 := eq_true p119
            replace q119 := eq_true q119
            have HX125 := ak_ (show Kd.R k41 41 wr w.heap.size (fun k_ => some k_ ≠ (u461003 : Value).ownBlock) (.slice (some ⟨go119, 0, none⟩) x444003_3.length co124) x444003_3 from (rl_ HO_444003))
            obtain ⟨ce125, hcl125, hM125, hcc125, hfr125⟩ := Kd.R_elem HX125.out z41 (x131_3 : Int) (od_ (by first | (with_reducible assumption) | assumption)) (by have h_ : (x131_3 : Int) < ((x444003_3.length : Int) : Int) := od_ (by first | (with_reducible assumption) | assumption); first | exact h_ | (have e_ := (Kd.R_reads' HO_444003.out).1; omega) | simpa using h_)
            obtain rfl := k41_openM hM125
            have HP125 := Kd.R_seg HX125.out (x131_3 : Int) (od_ (by first | (with_reducible assumption) | assumption)) (by have h_ : (x131_3 : Int) < ((x444003_3.length : Int) : Int) := od_ (by first | (with_reducible assumption) | assumption); first | exact h_ | (have e_ := (Kd.R_reads' HO_444003.out).1; omega) | simpa using h_) (seg := [.int .u64 (IntKind.u64.wrap (((rd_T41 x444003_3 x131_3).f0.f0) + 1))]) (j := 0) hcl125 hcc125 (show 1 ≤ 11 from by decide) (x' := (⟨(⟨IntKind.u64.wrap (((rd_T41 x444003_3 x131_3).f0.f0) + 1), (rd_T41 x444003_3 x131_3).f0.f1⟩ : S39), (⟨(rd_T41 x444003_3 x131_3).f1.f0, (rd_T41 x444003_3 x131_3).f1.f1, (⟨(rd_T41 x444003_3 x131_3).f1.f2.f0, (rd_T41 x444003_3 x131_3).f1.f2.f1⟩ : S25), (⟨(⟨(rd_T41 x444003_3 x131_3).f1.f3.f0.f0, (rd_T41 x444003_3 x131_3).f1.f3.f0.f1⟩ : S25), (⟨(rd_T41 x444003_3 x131_3).f1.f3.f1.f0, (rd_T41 x444003_3 x131_3).f1.f3.f1.f1⟩ : S25)⟩ : S27), (rd_T41 x444003_3 x131_3).f1.f4⟩ : S29)⟩ : S41)) (k41_mkM _ _ _ (⟨(⟨IntKind.u64.wrap (((rd_T41 x444003_3 x131_3).f0.f0) + 1), (rd_T41 x444003_3 x131_3).f0.f1⟩ : S39), (⟨(rd_T41 x444003_3 x131_3).f1.f0, (rd_T41 x444003_3 x131_3).f1.f1, (⟨(rd_T41 x444003_3 x131_3).f1.f2.f0, (rd_T41 x444003_3 x131_3).f1.f2.f1⟩ : S25), (⟨(⟨(rd_T41 x444003_3 x131_3).f1.f3.f0.f0, (rd_T41 x444003_3 x131_3).f1.f3.f0.f1⟩ : S25), (⟨(rd_T41 x444003_3 x131_3).f1.f3.f1.f0, (rd_T41 x444003_3 x131_3).f1.f3.f1.f1⟩ : S25)⟩ : S27), (rd_T41 x444003_3 x131_3).f1.f4⟩ : S29)⟩ : S41) ) (fun _ hk => hk)
            have hx125_0 := hcc125 0 _ rfl
            (try simp only [show (k41).sz = 11 from rfl, Nat.mul_one, Nat.add_zero] at hx125_0)
            have hf125_0 := hfr125 0
            (try simp only [show (k41).sz = 11 from rfl, Nat.mul_one, Nat.add_zero] at hf125_0)
            clear hcl125 hcc125 hfr125 hM125
            go_wp2_with (first | ((with_reducible refine gate_store (t := 23) (p := 144) rfl ?_); refine store_event (t := 23) (p := 144) (v := ?vo_w126) (w1 := (wr.setCell ⟨go119, (x131_3 : Int).toNat * 11, none⟩ (.int .u64 (IntKind.u64.wrap (((rd_T41 x444003_3 x131_3).f0.f0) + 1))))) ?hg ?ho ?hn ?hr ?_; (case ho => rfl); (case hg => rfl); (case hn => rfl); (case hr => first | (go_simp; done) | (go_simp; rfl)); intro w126 hw; have hg : wr.grownBy w126 (some go119) := (by rw [hw]; exact HP125.2); have hp_ : Kd.R k41 41 w126 w.heap.size (fun k_ => some k_ ≠ (u461003 : Value).ownBlock) (.slice (some ⟨go119, 0, none⟩) x444003_3.length co124) y472 := (by rw [hw, Ny472.out]; exact HP125.1); clear HP125; replace HO_461003 := ak_ (Kd.R_after (v := (.slice (some ⟨go119, 0, none⟩) x444003_3.length co124)) (v1 := (.slice (some ⟨go119, 0, none⟩) x444003_3.length co124)) (ok := (fun _ => True)) (by (with_reducible repeat (first | apply Kd.R_alloc | apply Kd.R_drewN | apply Kd.R_drew)); exact Kd.R_mono HO_461003.out (fun _ hk => ⟨trivial, hk⟩)) hg (.inl rfl)); replace BK416 := ak_ (blk_grown (g := gb416) (o := .cells #[.int .i64 a0_0, .int .i64 a0_1, .int .i64 a0_2, .slice A0_3 l0_3.length c0_3, .bool a0_4, .bool a0_5, .int .u64 a0_6, .int .u64 a0_7, .int .u64 a0_8, .int .u64 a0_9, .int .u64 a0_10, .int .u64 a0_11, .int .i64 a0_12] 31 (0, 0)) (kl_ BK416) hg (Kd.R_ne HO_444003.out BK416.out (by decide))); replace BK417 := ak_ (blk_grown (g := gb417) (o := .cells #[.int .i64 a1_0, .int .i64 a1_1, .int .i64 a1_2, .slice A1_3 l1_3.length c1_3, .bool a1_4, .bool a1_5, .int .u64 a1_6, .int .u64 a1_7, .int .u64 a1_8, .int .u64 a1_9, .int .u64 a1_10, .int .u64 a1_11, .int .i64 a1_12] 31 (0, 0)) (kl_ BK417) hg (Kd.R_ne HO_444003.out BK417.out (by decide))); replace BK443 := ak_ (blk_grown (g := gb443) (o := .cells #[.int .i64 t427, .int .i64 t428, .int .i64 t429, .slice (some ⟨go119, 0, none⟩) x444003_3.length co124, .bool t433, .bool t434, .int .u64 t435, .int .u64 t436, .int .u64 t437, .int .u64 t438, .int .u64 t439, .int .u64 t440, .int .i64 t441] 31 (0, 0)) (kl_ BK443) hg (Kd.R_ne HO_444003.out BK443.out (by decide))); replace BK460 := ak_ (blk_grown (g := gb460) (o := .cells #[.int .i64 t444, .int .i64 t445, .int .i64 t446, u461003, .bool t450, .bool t451, .int .u64 t452, .int .u64 t453, .int .u64 t454, .int .u64 t455, .int .u64 t456, .int .u64 t457, .int .i64 t458] 31 (0, 0)) (kl_ BK460) hg (Kd.R_ne HO_444003.out BK460.out (by decide))); replace HO_444003 := ak_ hp_; replace HB := ak_ (by rw [hw]; exact below_set (HB.out) GB119.out : Below w.heap.size w w126); clear hg hw hp_))
            go_roundg k3
            case measure => have := HJ5.out; have := HJ34.out; have := HK3.out; omega
            case rel => exact ⟨(wrap64 (x131_3 + 1)), (y472), (x461003_3), (.slice (some ⟨go119, 0, none⟩) x444003_3.length co124), (u461003), rf_, H', ⟨by have := HJ5.out; have := HJ34.out; have := HK3.out; omega⟩, ⟨rl_ HO_444003⟩, ⟨by (with_reducible repeat (first | apply Kd.R_alloc | apply Kd.R_drewN | apply Kd.R_drew)); exact Kd.R_mono HO_461003.out (fun _ hk => hk.2)⟩, ⟨kl_ BK416⟩, ⟨kl_ BK417⟩, ⟨kl_ BK443⟩, ⟨kl_ BK460⟩, ⟨bw4_ HB GE416 GE417 GE443 GE460⟩⟩
           ·rw [if_neg c118] at H
            exact absurd H (by simp)
          ·rw [if_neg c117] at H
           exact absurd H (by simp)
         ·rw [if_neg c116] at H
          have c116b0 := decide_eq_false c116
          clear c116
          by_cases c127 : t418 = true
          ·subst c127
           have H1 : (if x23_34 = true then (some ((strOfNums l2).toList == (strOfNums l2).toList)) else (some false)) = some r := by rw [if_pos rfl] at H; exact H
           clear H
           have H := H1
           clear H1
           by_cases c128 : x23_34 = true
           ·subst c128
            have H1 : (some ((strOfNums l2).toList == (strOfNums l2).toList)) = some r := by rw [if_pos rfl] at H; exact H
            clear H
            have H := H1
            clear H1
            obtain rfl := Option.some.inj H
            have hcv129 := Kd.C_string (P := Try.prog) (A := A2) (c := c2) underlying35 underlying5 underlying9 (Kd.C_below HR2.out HB.out)
            go_wp2
            go_ret
            exact ea_ (bw4_ HB GE416 GE417 GE443 GE460)
           ·replace c128 := Bool.eq_false_iff.mpr c128
            subst c128
            have H1 : (some false) = some r := by rw [if_neg (show ¬ (false = true) by decide)] at H; exact H
            clear H
            have H := H1
            clear H1
            exact absurd ((Option.some.inj H).trans hT.out) Bool.false_ne_true
          ·replace c127 := Bool.eq_false_iff.mpr c127
           subst c127
           have H1 : (some false) = some r := by rw [if_neg (show ¬ (false = true) by decide)] at H; exact H
           clear H
           have H := H1
           clear H1
           exact absurd ((Option.some.inj H).trans hT.out) Bool.false_ne_true
end Go.Proofs.Ytoljdfgkkkpnbaa.MP
