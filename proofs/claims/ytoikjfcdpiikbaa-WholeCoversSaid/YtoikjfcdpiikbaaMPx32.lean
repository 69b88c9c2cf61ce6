-- written by a program of this session (wip/tools/mprint.sh) for this seat
import Derived.Test.YtoikjfcdpiikbaaMPx0
import Derived.Test.YtoikjfcdpiikbaaMPx8
import Derived.Test.YtoikjfcdpiikbaaMPx13
import Derived.Test.YtoikjfcdpiikbaaMPx18
import Derived.Test.YtoikjfcdpiikbaaMPx30
import Derived.Test.YtoikjfcdpiikbaaMPx31
namespace Go.Proofs.Ytoikjfcdpiikbaa.MP
open Go.RowKit Go.Proofs.YtoikjfcdpiikbaaW.PrintWords Go.Proofs.YtoikjfcdpiikbaaW.PrintLast Go.Proofs.YtoikjfcdpiikbaaW.PrintMore
attribute [local go_sem] max2_int min2_int max_two min_two max_three min_three max_four min_four   -- for this text's walks alone
set_option linter.unusedVariables false
set_option linter.unusedSimpArgs false

/-! ### medlarlaw10_WholeCovers: function 11 -/
mutual
def medlarlaw10_WholeCovers.j0 : Nat → Int → List Int → Int → Bool → List (S43) → Bool → Option (Bool)
  | 0, _, _, _, _, _, _ => none
  | k + 1, x0, x1, x2, x7, x8, x79 => if x79 = true then (some false) else ((leaf_Has.f k x0 x1 x2).bind fun bt584 => (medlarlaw10_WholeCovers.l0 k x0 x1 x2 x7 x8 0 bt584.1 bt584.2 ([] : List (S34)) x8 (x8.length : Int) 0))
def medlarlaw10_WholeCovers.l0 : Nat → Int → List Int → Int → Bool → List (S43) → Int → Bool → Int → List (S34) → List (S43) → Int → Int → Option (Bool)
  | 0, _, _, _, _, _, _, _, _, _, _, _, _ => none
  | k + 1, x0, x1, x2, x7, x8, x12, x13, x14, x15, x87, x88, x89 => if x89 < x88 then (if 0 ≤ x89 then (if x89 < (x87.length : Int) then ((sub_Has.f k x0 ((rd_T43 x87 x89).f0) ((rd_T43 x87 x89).f1) x2).bind fun bt588 => (if bt588.2 = x14 then (if bt588.1 = true then (medlarlaw10_WholeCovers.j2 k x0 x1 x2 x7 x8 (wrap64 (x12 + 1)) x13 x14 x15 x89 x87 x88 x89 ((rd_T43 x87 x89).f0) ((rd_T43 x87 x89).f1)) else (medlarlaw10_WholeCovers.j2 k x0 x1 x2 x7 x8 x12 x13 x14 x15 x89 x87 x88 x89 ((rd_T43 x87 x89).f0) ((rd_T43 x87 x89).f1))) else (some false))) else (none)) else (none)) else (if x14 = 0 then (if ((x12 == 1) != (!x13)) = true then (medlarlaw10_WholeCovers.j4 k x0 x1 x7 x15 true) else (medlarlaw10_WholeCovers.j4 k x0 x1 x7 x15 (decide (x12 > 1)))) else (medlarlaw10_WholeCovers.j4 k x0 x1 x7 x15 (decide (x12 > 1))))
def medlarlaw10_WholeCovers.j2 : Nat → Int → List Int → Int → Bool → List (S43) → Int → Bool → Int → List (S34) → Int → List (S43) → Int → Int → Int → Int → Option (Bool)
  | 0, _, _, _, _, _, _, _, _, _, _, _, _, _, _, _ => none
  | k + 1, x0, x1, x2, x7, x8, x12, x13, x14, x15, x16, x87, x88, x89, x588000, x588001 => if 0 ≤ x16 then (if x16 ≤ (x8.length : Int) then ((some (x8.take (x16 : Int).toNat : List (S43))).bind fun y590 => (medlarlaw10_WholeCovers.l1 k x0 x1 x2 x7 x8 x12 x13 x14 x15 x87 x88 x89 y590 (y590.length : Int) 0 x588000 x588001)) else (none)) else (none)
def medlarlaw10_WholeCovers.l1 : Nat → Int → List Int → Int → Bool → List (S43) → Int → Bool → Int → List (S34) → List (S43) → Int → Int → List (S43) → Int → Int → Int → Int → Option (Bool)
  | 0, _, _, _, _, _, _, _, _, _, _, _, _, _, _, _, _, _ => none
  | k + 1, x0, x1, x2, x7, x8, x12, x13, x14, x15, x87, x88, x89, x109, x110, x111, x588000, x588001 => if x111 < x110 then (if 0 ≤ x111 then (if x111 < (x109.length : Int) then ((sub_Touch.f k x0 x588000 x588001 ((rd_T43 x109 x111).f0) ((rd_T43 x109 x111).f1)).bind fun bt596 => (if bt596.2 = 0 then (if bt596.1 = true then (some false) else (medlarlaw10_WholeCovers.l1 k x0 x1 x2 x7 x8 x12 x13 x14 x15 x87 x88 x89 x109 x110 (wrap64 (x111 + 1)) x588000 x588001)) else (some false))) else (none)) else (none)) else ((sub_Leaves.f k x0 x588000 x588001).bind fun bt598 => (if bt598.2 = 0 then (if (bt598.1.length : Int) = 1 then (if x588001 = 0 then (if x15.length + bt598.1.length < 8796093022208 then (medlarlaw10_WholeCovers.l0 k x0 x1 x2 x7 x8 x12 x13 x14 (x15 ++ bt598.1) x87 x88 (wrap64 (x89 + 1))) else (none)) else (some false)) else (some false)) else (some false)))
def medlarlaw10_WholeCovers.j4 : Nat → Int → List Int → Bool → List (S34) → Bool → Option (Bool)
  | 0, _, _, _, _, _ => none
  | k + 1, x0, x1, x7, x15, x162 => if x162 = true then (some false) else (medlarlaw10_WholeCovers.l2 k x0 x1 x7 0 x15 (x15.length : Int) 0)
def medlarlaw10_WholeCovers.l2 : Nat → Int → List Int → Bool → Int → List (S34) → Int → Int → Option (Bool)
  | 0, _, _, _, _, _, _, _ => none
  | k + 1, x0, x1, x7, x26, x163, x164, x165 => if x165 < x164 then (if 0 ≤ x165 then (if x165 < (x163.length : Int) then (medlarlaw10_WholeCovers.l2 k x0 x1 x7 (IntKind.u64.wrap (x26 + (IntKind.u64.wrap ((IntKind.u64.wrap (((rd_T34 x163 x165).f1) - ((rd_T34 x163 x165).f0))) + 1)))) x163 x164 (wrap64 (x165 + 1))) else (none)) else (none)) else ((leaf_Gaps.f k x0 x1).bind fun bt607 => ((leaf_Many.f k x0 bt607.1).bind fun bt611 => (if x7 = true then (if bt607.2 = 0 then (if bt611.2 = 0 then (some (x26 == bt611.1)) else (some false)) else (some false)) else (some false))))
end
def medlarlaw10_WholeCovers.f (k : Nat) (a0 : Int) (l1 : List Int) (a2 : Int) : Option (Bool) := (medlarlaw10_live.f k).bind fun t573 => (if (l1.length : Int) > 30 then (some t573) else ((whole_Cover.f k a0 l1).bind fun bt574 => (if bt574.2 = 0 then ((whole_Bound.f k a0 (l1.length : Int)).bind fun bt578 => (if bt578.2 = 0 then (if (IntKind.u64.wrap ((bt574.1.length : Int))) > bt578.1 then (medlarlaw10_WholeCovers.j0 k a0 l1 a2 t573 bt574.1 true) else (if (l1.length : Int) = 0 then ((medlarref08_Same.f k bt574.1 (([(⟨1, 0⟩ : S43)] : List (S43)))).bind fun t583 => (medlarlaw10_WholeCovers.j0 k a0 l1 a2 t573 bt574.1 (!t583))) else (medlarlaw10_WholeCovers.j0 k a0 l1 a2 t573 bt574.1 false))) else (medlarlaw10_WholeCovers.j0 k a0 l1 a2 t573 bt574.1 true))) else (if t573 = true then (some ((bt574.1.length : Int) == 0)) else (some false)))))
theorem medlarlaw10_WholeCovers.mono_l : ∀ k, (∀ y0 y1 y2 y3 y4 y5, LeO (medlarlaw10_WholeCovers.j0 k y0 y1 y2 y3 y4 y5) (medlarlaw10_WholeCovers.j0 (k + 1) y0 y1 y2 y3 y4 y5)) ∧ (∀ y0 y1 y2 y3 y4 y5 y6 y7 y8 y9 y10 y11, LeO (medlarlaw10_WholeCovers.l0 k y0 y1 y2 y3 y4 y5 y6 y7 y8 y9 y10 y11) (medlarlaw10_WholeCovers.l0 (k + 1) y0 y1 y2 y3 y4 y5 y6 y7 y8 y9 y10 y11)) ∧ (∀ y0 y1 y2 y3 y4 y5 y6 y7 y8 y9 y10 y11 y12 y13 y14, LeO (medlarlaw10_WholeCovers.j2 k y0 y1 y2 y3 y4 y5 y6 y7 y8 y9 y10 y11 y12 y13 y14) (medlarlaw10_WholeCovers.j2 (k + 1) y0 y1 y2 y3 y4 y5 y6 y7 y8 y9 y10 y11 y12 y13 y14)) ∧ (∀ y0 y1 y2 y3 y4 y5 y6 y7 y8 y9 y10 y11 y12 y13 y14 y15 y16, LeO (medlarlaw10_WholeCovers.l1 k y0 y1 y2 y3 y4 y5 y6 y7 y8 y9 y10 y11 y12 y13 y14 y15 y16) (medlarlaw10_WholeCovers.l1 (k + 1) y0 y1 y2 y3 y4 y5 y6 y7 y8 y9 y10 y11 y12 y13 y14 y15 y16)) ∧ (∀ y0 y1 y2 y3 y4, LeO (medlarlaw10_WholeCovers.j4 k y0 y1 y2 y3 y4) (medlarlaw10_WholeCovers.j4 (k + 1) y0 y1 y2 y3 y4)) ∧ (∀ y0 y1 y2 y3 y4 y5 y6, LeO (medlarlaw10_WholeCovers.l2 k y0 y1 y2 y3 y4 y5 y6) (medlarlaw10_WholeCovers.l2 (k + 1) y0 y1 y2 y3 y4 y5 y6))
  | 0 => ⟨fun _ _ _ _ _ _ r h => by simp [medlarlaw10_WholeCovers.j0] at h, fun _ _ _ _ _ _ _ _ _ _ _ _ r h => by simp [medlarlaw10_WholeCovers.l0] at h, fun _ _ _ _ _ _ _ _ _ _ _ _ _ _ _ r h => by simp [medlarlaw10_WholeCovers.j2] at h, fun _ _ _ _ _ _ _ _ _ _ _ _ _ _ _ _ _ r h => by simp [medlarlaw10_WholeCovers.l1] at h, fun _ _ _ _ _ r h => by simp [medlarlaw10_WholeCovers.j4] at h, fun _ _ _ _ _ _ _ r h => by simp [medlarlaw10_WholeCovers.l2] at h⟩
  | k + 1 => by
    obtain ⟨ih0, ih1, ih2, ih3, ih4, ih5⟩ := medlarlaw10_WholeCovers.mono_l k
    refine ⟨?_, ?_, ?_, ?_, ?_, ?_⟩
    · intro y0 y1 y2 y3 y4 y5
      unfold medlarlaw10_WholeCovers.j0
      repeat' first
      | (with_reducible exact ih0 _ _ _ _ _ _)
      | (with_reducible exact ih1 _ _ _ _ _ _ _ _ _ _ _ _)
      | (with_reducible exact ih2 _ _ _ _ _ _ _ _ _ _ _ _ _ _ _)
      | (with_reducible exact ih3 _ _ _ _ _ _ _ _ _ _ _ _ _ _ _ _ _)
      | (with_reducible exact ih4 _ _ _ _ _)
      | (with_reducible exact ih5 _ _ _ _ _ _ _)
      | (with_reducible exact leaf_Gaps.mono _ _ _)
      | (with_reducible exact leaf_Has.mono _ _ _ _)
      | (with_reducible exact leaf_Many.mono _ _ _)
      | (with_reducible exact medlarlaw10_live.mono _)
      | (with_reducible exact medlarref08_Same.mono _ _ _)
      | (with_reducible exact sub_Has.mono _ _ _ _ _)
      | (with_reducible exact sub_Leaves.mono _ _ _ _)
      | (with_reducible exact sub_Touch.mono _ _ _ _ _ _)
      | (with_reducible exact whole_Bound.mono _ _ _)
      | (with_reducible exact whole_Cover.mono _ _ _)
      | (with_reducible exact LeO.refl _)
      | (with_reducible exact LeO.none _)
      | (with_reducible refine LeO.ite ?_ ?_)
      | (with_reducible refine LeO.bind ?_ (fun _ => ?_))
      | exact ih0 _ _ _ _ _ _
      | exact ih1 _ _ _ _ _ _ _ _ _ _ _ _
      | exact ih2 _ _ _ _ _ _ _ _ _ _ _ _ _ _ _
      | exact ih3 _ _ _ _ _ _ _ _ _ _ _ _ _ _ _ _ _
      | exact ih4 _ _ _ _ _
      | exact ih5 _ _ _ _ _ _ _
      | exact leaf_Gaps.mono _ _ _
      | exact leaf_Has.mono _ _ _ _
      | exact leaf_Many.mono _ _ _
      | exact medlarlaw10_live.mono _
      | exact medlarref08_Same.mono _ _ _
      | exact sub_Has.mono _ _ _ _ _
      | exact sub_Leaves.mono _ _ _ _
      | exact sub_Touch.mono _ _ _ _ _ _
      | exact whole_Bound.mono _ _ _
      | exact whole_Cover.mono _ _ _
      | exact LeO.none _
      | refine LeO.ite ?_ ?_
      | refine LeO.bind ?_ (fun _ => ?_)
    · intro y0 y1 y2 y3 y4 y5 y6 y7 y8 y9 y10 y11
      unfold medlarlaw10_WholeCovers.l0
      repeat' first
      | (with_reducible exact ih0 _ _ _ _ _ _)
      | (with_reducible exact ih1 _ _ _ _ _ _ _ _ _ _ _ _)
      | (with_reducible exact ih2 _ _ _ _ _ _ _ _ _ _ _ _ _ _ _)
      | (with_reducible exact ih3 _ _ _ _ _ _ _ _ _ _ _ _ _ _ _ _ _)
      | (with_reducible exact ih4 _ _ _ _ _)
      | (with_reducible exact ih5 _ _ _ _ _ _ _)
      | (with_reducible exact leaf_Gaps.mono _ _ _)
      | (with_reducible exact leaf_Has.mono _ _ _ _)
      | (with_reducible exact leaf_Many.mono _ _ _)
      | (with_reducible exact medlarlaw10_live.mono _)
      | (with_reducible exact medlarref08_Same.mono _ _ _)
      | (with_reducible exact sub_Has.mono _ _ _ _ _)
      | (with_reducible exact sub_Leaves.mono _ _ _ _)
      | (with_reducible exact sub_Touch.mono _ _ _ _ _ _)
      | (with_reducible exact whole_Bound.mono _ _ _)
      | (with_reducible exact whole_Cover.mono _ _ _)
      | (with_reducible exact LeO.refl _)
      | (with_reducible exact LeO.none _)
      | (with_reducible refine LeO.ite ?_ ?_)
      | (with_reducible refine LeO.bind ?_ (fun _ => ?_))
      | exact ih0 _ _ _ _ _ _
      | exact ih1 _ _ _ _ _ _ _ _ _ _ _ _
      | exact ih2 _ _ _ _ _ _ _ _ _ _ _ _ _ _ _
      | exact ih3 _ _ _ _ _ _ _ _ _ _ _ _ _ _ _ _ _
      | exact ih4 _ _ _ _ _
      | exact ih5 _ _ _ _ _ _ _
      | exact leaf_Gaps.mono _ _ _
      | exact leaf_Has.mono _ _ _ _
      | exact leaf_Many.mono _ _ _
      | exact medlarlaw10_live.mono _
      | exact medlarref08_Same.mono _ _ _
      | exact sub_Has.mono _ _ _ _ _
      | exact sub_Leaves.mono _ _ _ _
      | exact sub_Touch.mono _ _ _ _ _ _
      | exact whole_Bound.mono _ _ _
      | exact whole_Cover.mono _ _ _
      | exact LeO.none _
      | refine LeO.ite ?_ ?_
      | refine LeO.bind ?_ (fun _ => ?_)
    · intro y0 y1 y2 y3 y4 y5 y6 y7 y8 y9 y10 y11 y12 y13 y14
      unfold medlarlaw10_WholeCovers.j2
      repeat' first
      | (with_reducible exact ih0 _ _ _ _ _ _)
      | (with_reducible exact ih1 _ _ _ _ _ _ _ _ _ _ _ _)
      | (with_reducible exact ih2 _ _ _ _ _ _ _ _ _ _ _ _ _ _ _)
      | (with_reducible exact ih3 _ _ _ _ _ _ _ _ _ _ _ _ _ _ _ _ _)
      | (with_reducible exact ih4 _ _ _ _ _)
      | (with_reducible exact ih5 _ _ _ _ _ _ _)
      | (with_reducible exact leaf_Gaps.mono _ _ _)
      | (with_reducible exact leaf_Has.mono _ _ _ _)
      | (with_reducible exact leaf_Many.mono _ _ _)
      | (with_reducible exact medlarlaw10_live.mono _)
      | (with_reducible exact medlarref08_Same.mono _ _ _)
      | (with_reducible exact sub_Has.mono _ _ _ _ _)
      | (with_reducible exact sub_Leaves.mono _ _ _ _)
      | (with_reducible exact sub_Touch.mono _ _ _ _ _ _)
      | (with_reducible exact whole_Bound.mono _ _ _)
      | (with_reducible exact whole_Cover.mono _ _ _)
      | (with_reducible exact LeO.refl _)
      | (with_reducible exact LeO.none _)
      | (with_reducible refine LeO.ite ?_ ?_)
      | (with_reducible refine LeO.bind ?_ (fun _ => ?_))
      | exact ih0 _ _ _ _ _ _
      | exact ih1 _ _ _ _ _ _ _ _ _ _ _ _
      | exact ih2 _ _ _ _ _ _ _ _ _ _ _ _ _ _ _
      | exact ih3 _ _ _ _ _ _ _ _ _ _ _ _ _ _ _ _ _
      | exact ih4 _ _ _ _ _
      | exact ih5 _ _ _ _ _ _ _
      | exact leaf_Gaps.mono _ _ _
      | exact leaf_Has.mono _ _ _ _
      | exact leaf_Many.mono _ _ _
      | exact medlarlaw10_live.mono _
      | exact medlarref08_Same.mono _ _ _
      | exact sub_Has.mono _ _ _ _ _
      | exact sub_Leaves.mono _ _ _ _
      | exact sub_Touch.mono _ _ _ _ _ _
      | exact whole_Bound.mono _ _ _
      | exact whole_Cover.mono _ _ _
      | exact LeO.none _
      | refine LeO.ite ?_ ?_
      | refine LeO.bind ?_ (fun _ => ?_)
    · intro y0 y1 y2 y3 y4 y5 y6 y7 y8 y9 y10 y11 y12 y13 y14 y15 y16
      unfold medlarlaw10_WholeCovers.l1
      repeat' first
      | (with_reducible exact ih0 _ _ _ _ _ _)
      | (with_reducible exact ih1 _ _ _ _ _ _ _ _ _ _ _ _)
      | (with_reducible exact ih2 _ _ _ _ _ _ _ _ _ _ _ _ _ _ _)
      | (with_reducible exact ih3 _ _ _ _ _ _ _ _ _ _ _ _ _ _ _ _ _)
      | (with_reducible exact ih4 _ _ _ _ _)
      | (with_reducible exact ih5 _ _ _ _ _ _ _)
      | (with_reducible exact leaf_Gaps.mono _ _ _)
      | (with_reducible exact leaf_Has.mono _ _ _ _)
      | (with_reducible exact leaf_Many.mono _ _ _)
      | (with_reducible exact medlarlaw10_live.mono _)
      | (with_reducible exact medlarref08_Same.mono _ _ _)
      | (with_reducible exact sub_Has.mono _ _ _ _ _)
      | (with_reducible exact sub_Leaves.mono _ _ _ _)
      | (with_reducible exact sub_Touch.mono _ _ _ _ _ _)
      | (with_reducible exact whole_Bound.mono _ _ _)
      | (with_reducible exact whole_Cover.mono _ _ _)
      | (with_reducible exact LeO.refl _)
      | (with_reducible exact LeO.none _)
      | (with_reducible refine LeO.ite ?_ ?_)
      | (with_reducible refine LeO.bind ?_ (fun _ => ?_))
      | exact ih0 _ _ _ _ _ _
      | exact ih1 _ _ _ _ _ _ _ _ _ _ _ _
      | exact ih2 _ _ _ _ _ _ _ _ _ _ _ _ _ _ _
      | exact ih3 _ _ _ _ _ _ _ _ _ _ _ _ _ _ _ _ _
      | exact ih4 _ _ _ _ _
      | exact ih5 _ _ _ _ _ _ _
      | exact leaf_Gaps.mono _ _ _
      | exact leaf_Has.mono _ _ _ _
      | exact leaf_Many.mono _ _ _
      | exact medlarlaw10_live.mono _
      | exact medlarref08_Same.mono _ _ _
      | exact sub_Has.mono _ _ _ _ _
      | exact sub_Leaves.mono _ _ _ _
      | exact sub_Touch.mono _ _ _ _ _ _
      | exact whole_Bound.mono _ _ _
      | exact whole_Cover.mono _ _ _
      | exact LeO.none _
      | refine LeO.ite ?_ ?_
      | refine LeO.bind ?_ (fun _ => ?_)
    · intro y0 y1 y2 y3 y4
      unfold medlarlaw10_WholeCovers.j4
      repeat' first
      | (with_reducible exact ih0 _ _ _ _ _ _)
      | (with_reducible exact ih1 _ _ _ _ _ _ _ _ _ _ _ _)
      | (with_reducible exact ih2 _ _ _ _ _ _ _ _ _ _ _ _ _ _ _)
      | (with_reducible exact ih3 _ _ _ _ _ _ _ _ _ _ _ _ _ _ _ _ _)
      | (with_reducible exact ih4 _ _ _ _ _)
      | (with_reducible exact ih5 _ _ _ _ _ _ _)
      | (with_reducible exact leaf_Gaps.mono _ _ _)
      | (with_reducible exact leaf_Has.mono _ _ _ _)
      | (with_reducible exact leaf_Many.mono _ _ _)
      | (with_reducible exact medlarlaw10_live.mono _)
      | (with_reducible exact medlarref08_Same.mono _ _ _)
      | (with_reducible exact sub_Has.mono _ _ _ _ _)
      | (with_reducible exact sub_Leaves.mono _ _ _ _)
      | (with_reducible exact sub_Touch.mono _ _ _ _ _ _)
      | (with_reducible exact whole_Bound.mono _ _ _)
      | (with_reducible exact whole_Cover.mono _ _ _)
      | (with_reducible exact LeO.refl _)
      | (with_reducible exact LeO.none _)
      | (with_reducible refine LeO.ite ?_ ?_)
      | (with_reducible refine LeO.bind ?_ (fun _ => ?_))
      | exact ih0 _ _ _ _ _ _
      | exact ih1 _ _ _ _ _ _ _ _ _ _ _ _
      | exact ih2 _ _ _ _ _ _ _ _ _ _ _ _ _ _ _
      | exact ih3 _ _ _ _ _ _ _ _ _ _ _ _ _ _ _ _ _
      | exact ih4 _ _ _ _ _
      | exact ih5 _ _ _ _ _ _ _
      | exact leaf_Gaps.mono _ _ _
      | exact leaf_Has.mono _ _ _ _
      | exact leaf_Many.mono _ _ _
      | exact medlarlaw10_live.mono _
      | exact medlarref08_Same.mono _ _ _
      | exact sub_Has.mono _ _ _ _ _
      | exact sub_Leaves.mono _ _ _ _
      | exact sub_Touch.mono _ _ _ _ _ _
      | exact whole_Bound.mono _ _ _
      | exact whole_Cover.mono _ _ _
      | exact LeO.none _
      | refine LeO.ite ?_ ?_
      | refine LeO.bind ?_ (fun _ => ?_)
    · intro y0 y1 y2 y3 y4 y5 y6
      unfold medlarlaw10_WholeCovers.l2
      repeat' first
      | (with_reducible exact ih0 _ _ _ _ _ _)
      | (with_reducible exact ih1 _ _ _ _ _ _ _ _ _ _ _ _)
      | (with_reducible exact ih2 _ _ _ _ _ _ _ _ _ _ _ _ _ _ _)
      | (with_reducible exact ih3 _ _ _ _ _ _ _ _ _ _ _ _ _ _ _ _ _)
      | (with_reducible exact ih4 _ _ _ _ _)
      | (with_reducible exact ih5 _ _ _ _ _ _ _)
      | (with_reducible exact leaf_Gaps.mono _ _ _)
      | (with_reducible exact leaf_Has.mono _ _ _ _)
      | (with_reducible exact leaf_Many.mono _ _ _)
      | (with_reducible exact medlarlaw10_live.mono _)
      | (with_reducible exact medlarref08_Same.mono _ _ _)
      | (with_reducible exact sub_Has.mono _ _ _ _ _)
      | (with_reducible exact sub_Leaves.mono _ _ _ _)
      | (with_reducible exact sub_Touch.mono _ _ _ _ _ _)
      | (with_reducible exact whole_Bound.mono _ _ _)
      | (with_reducible exact whole_Cover.mono _ _ _)
      | (with_reducible exact LeO.refl _)
      | (with_reducible exact LeO.none _)
      | (with_reducible refine LeO.ite ?_ ?_)
      | (with_reducible refine LeO.bind ?_ (fun _ => ?_))
      | exact ih0 _ _ _ _ _ _
      | exact ih1 _ _ _ _ _ _ _ _ _ _ _ _
      | exact ih2 _ _ _ _ _ _ _ _ _ _ _ _ _ _ _
      | exact ih3 _ _ _ _ _ _ _ _ _ _ _ _ _ _ _ _ _
      | exact ih4 _ _ _ _ _
      | exact ih5 _ _ _ _ _ _ _
      | exact leaf_Gaps.mono _ _ _
      | exact leaf_Has.mono _ _ _ _
      | exact leaf_Many.mono _ _ _
      | exact medlarlaw10_live.mono _
      | exact medlarref08_Same.mono _ _ _
      | exact sub_Has.mono _ _ _ _ _
      | exact sub_Leaves.mono _ _ _ _
      | exact sub_Touch.mono _ _ _ _ _ _
      | exact whole_Bound.mono _ _ _
      | exact whole_Cover.mono _ _ _
      | exact LeO.none _
      | refine LeO.ite ?_ ?_
      | refine LeO.bind ?_ (fun _ => ?_)
theorem medlarlaw10_WholeCovers.mono : ∀ a0 a1 a2 k, LeO (medlarlaw10_WholeCovers.f k a0 a1 a2) (medlarlaw10_WholeCovers.f (k + 1) a0 a1 a2) := by
  intro a0 a1 a2 k
  obtain ⟨ih0, ih1, ih2, ih3, ih4, ih5⟩ := medlarlaw10_WholeCovers.mono_l k
  unfold medlarlaw10_WholeCovers.f
  repeat' first
      | (with_reducible exact ih0 _ _ _ _ _ _)
      | (with_reducible exact ih1 _ _ _ _ _ _ _ _ _ _ _ _)
      | (with_reducible exact ih2 _ _ _ _ _ _ _ _ _ _ _ _ _ _ _)
      | (with_reducible exact ih3 _ _ _ _ _ _ _ _ _ _ _ _ _ _ _ _ _)
      | (with_reducible exact ih4 _ _ _ _ _)
      | (with_reducible exact ih5 _ _ _ _ _ _ _)
      | (with_reducible exact leaf_Gaps.mono _ _ _)
      | (with_reducible exact leaf_Has.mono _ _ _ _)
      | (with_reducible exact leaf_Many.mono _ _ _)
      | (with_reducible exact medlarlaw10_live.mono _)
      | (with_reducible exact medlarref08_Same.mono _ _ _)
      | (with_reducible exact sub_Has.mono _ _ _ _ _)
      | (with_reducible exact sub_Leaves.mono _ _ _ _)
      | (with_reducible exact sub_Touch.mono _ _ _ _ _ _)
      | (with_reducible exact whole_Bound.mono _ _ _)
      | (with_reducible exact whole_Cover.mono _ _ _)
      | (with_reducible exact LeO.refl _)
      | (with_reducible exact LeO.none _)
      | (with_reducible refine LeO.ite ?_ ?_)
      | (with_reducible refine LeO.bind ?_ (fun _ => ?_))
      | exact ih0 _ _ _ _ _ _
      | exact ih1 _ _ _ _ _ _ _ _ _ _ _ _
      | exact ih2 _ _ _ _ _ _ _ _ _ _ _ _ _ _ _
      | exact ih3 _ _ _ _ _ _ _ _ _ _ _ _ _ _ _ _ _
      | exact ih4 _ _ _ _ _
      | exact ih5 _ _ _ _ _ _ _
      | exact leaf_Gaps.mono _ _ _
      | exact leaf_Has.mono _ _ _ _
      | exact leaf_Many.mono _ _ _
      | exact medlarlaw10_live.mono _
      | exact medlarref08_Same.mono _ _ _
      | exact sub_Has.mono _ _ _ _ _
      | exact sub_Leaves.mono _ _ _ _
      | exact sub_Touch.mono _ _ _ _ _ _
      | exact whole_Bound.mono _ _ _
      | exact whole_Cover.mono _ _ _
      | exact LeO.none _
      | refine LeO.ite ?_ ?_
      | refine LeO.bind ?_ (fun _ => ?_)
set_option maxHeartbeats 8000000 in
set_option maxRecDepth 100000 in
theorem medlarlaw10_WholeCovers.calls (k : Nat) (a0 : Int) (A1 : Option Addr) (c1 : Nat) (l1 : List Int) (a2 : Int) (r : Bool) (w : World) (hr1 : Kd.C (Kd.int .u64) w A1 l1.length l1) (hc1 : l1.length ≤ c1) (h : medlarlaw10_WholeCovers.f k a0 l1 a2 = some r) (hT : Aside0 (r = true)) :
    Calls Try.prog 11 #[.int .i64 a0, .slice A1 l1.length c1, .int .u64 a2] w fun e w' => e = .returned (.bool r) ∧ Below w.heap.size w w' := by
  have hu43 := Try.underlying43
  have hu34 := Try.underlying34
  have HR1 := Aside0.mk hr1
  have HC1 := Aside0.mk hc1
  clear hr1 hc1
  have HB := Aside0.mk (Below.refl w.heap.size w)
  have H : ((medlarlaw10_live.f k).bind fun t573 => (if (l1.length : Int) > 30 then (some t573) else ((whole_Cover.f k a0 l1).bind fun bt574 => (if bt574.2 = 0 then ((whole_Bound.f k a0 (l1.length : Int)).bind fun bt578 => (if bt578.2 = 0 then (if (IntKind.u64.wrap ((bt574.1.length : Int))) > bt578.1 then (medlarlaw10_WholeCovers.j0 k a0 l1 a2 t573 bt574.1 true) else (if (l1.length : Int) = 0 then ((medlarref08_Same.f k bt574.1 (([(⟨1, 0⟩ : S43)] : List (S43)))).bind fun t583 => (medlarlaw10_WholeCovers.j0 k a0 l1 a2 t573 bt574.1 (!t583))) else (medlarlaw10_WholeCovers.j0 k a0 l1 a2 t573 bt574.1 false))) else (medlarlaw10_WholeCovers.j0 k a0 l1 a2 t573 bt574.1 true))) else (if t573 = true then (some ((bt574.1.length : Int) == 0)) else (some false)))))) = some r := h
  clear h
  replace H := Option.bind_eq_some_iff.mp H
  obtain ⟨t573, A40, H⟩ := H
  replace H : (if (l1.length : Int) > 30 then (some t573) else ((whole_Cover.f k a0 l1).bind fun bt574 => (if bt574.2 = 0 then ((whole_Bound.f k a0 (l1.length : Int)).bind fun bt578 => (if bt578.2 = 0 then (if (IntKind.u64.wrap ((bt574.1.length : Int))) > bt578.1 then (medlarlaw10_WholeCovers.j0 k a0 l1 a2 t573 bt574.1 true) else (if (l1.length : Int) = 0 then ((medlarref08_Same.f k bt574.1 (([(⟨1, 0⟩ : S43)] : List (S43)))).bind fun t583 => (medlarlaw10_WholeCovers.j0 k a0 l1 a2 t573 bt574.1 (!t583))) else (medlarlaw10_WholeCovers.j0 k a0 l1 a2 t573 bt574.1 false))) else (medlarlaw10_WholeCovers.j0 k a0 l1 a2 t573 bt574.1 true))) else (if t573 = true then (some ((bt574.1.length : Int) == 0)) else (some false))))) = some r := H
  have A4 := Aside0.mk A40
  clear A40
  by_cases c5 : (l1.length : Int) > 30
  · rw [if_pos c5] at H
    have c5b0 : decide (30 < (l1.length : Int)) = true := decide_eq_true c5
    have c5b1 : decide (30 < l1.length) = true := decide_eq_true (by omega)
    clear c5
    obtain rfl := Option.some.inj H
    go_enter Try.func11, Try.ntmps11
    go_wp2_with (first | ((with_reducible refine gate_callee (f := 21) rfl ?_); refine goesL_ (some 33) rfl rfl Try.func21 (by kernel_rfl) rfl #[] rfl (by (try simp only [List.map_toArray, List.map_cons, List.map_nil]); first | done | rfl | (simp only [List.length_drop, List.length_take]; rfl)) ?_; (with_reducible refine (medlarlaw10_live.calls k  t573 _ A4.out).mono ?_); rintro e w6 ⟨rfl, hb⟩; refine ⟨_, rfl, ?_⟩; have n0_ := Aside0.mk (below_step (by repeat (first | (with_reducible first | exact HB.out | apply below_alloc | apply pw_below_drewN | apply below_drew1) | exact HB.out)) hb); clear HB; have HB := n0_; clear n0_; (try clear hb); (try clear hb2); (try clear hk); (try clear hi)))
    go_ret
    exact ⟨by first | rfl | (simp [errW_none, errW_some] <;> rfl) | (simp [*, errW_none, errW_some] <;> rfl), by repeat (first | (with_reducible first | exact HB.out | apply below_alloc | apply pw_below_drewN | apply below_drew1) | exact HB.out)⟩
  · rw [if_neg c5] at H
    have c5b0 : decide (30 < (l1.length : Int)) = false := decide_eq_false c5
    have c5b1 : decide (30 < l1.length) = false := decide_eq_false (by omega)
    clear c5
    replace H := Option.bind_eq_some_iff.mp H
    obtain ⟨⟨t574, t575⟩, A70, H⟩ := H
    replace H : (if t575 = 0 then ((whole_Bound.f k a0 (l1.length : Int)).bind fun bt578 => (if bt578.2 = 0 then (if (IntKind.u64.wrap ((t574.length : Int))) > bt578.1 then (medlarlaw10_WholeCovers.j0 k a0 l1 a2 t573 t574 true) else (if (l1.length : Int) = 0 then ((medlarref08_Same.f k t574 (([(⟨1, 0⟩ : S43)] : List (S43)))).bind fun t583 => (medlarlaw10_WholeCovers.j0 k a0 l1 a2 t573 t574 (!t583))) else (medlarlaw10_WholeCovers.j0 k a0 l1 a2 t573 t574 false))) else (medlarlaw10_WholeCovers.j0 k a0 l1 a2 t573 t574 true))) else (if t573 = true then (some ((t574.length : Int) == 0)) else (some false))) = some r := H
    have A7 := Aside0.mk A70
    clear A70
    by_cases c8 : t575 = 0
    · rw [if_pos c8] at H
      have c8b0 : (t575 == 0) = true := beq_iff_eq.mpr c8
      have c8b1 : (t575 != 0) = false := bne_eq_false_iff_eq.mpr c8
      clear c8
      replace H := Option.bind_eq_some_iff.mp H
      obtain ⟨⟨t578, t579⟩, A90, H⟩ := H
      replace H : (if t579 = 0 then (if (IntKind.u64.wrap ((t574.length : Int))) > t578 then (medlarlaw10_WholeCovers.j0 k a0 l1 a2 t573 t574 true) else (if (l1.length : Int) = 0 then ((medlarref08_Same.f k t574 (([(⟨1, 0⟩ : S43)] : List (S43)))).bind fun t583 => (medlarlaw10_WholeCovers.j0 k a0 l1 a2 t573 t574 (!t583))) else (medlarlaw10_WholeCovers.j0 k a0 l1 a2 t573 t574 false))) else (medlarlaw10_WholeCovers.j0 k a0 l1 a2 t573 t574 true)) = some r := H
      have A9 := Aside0.mk A90
      clear A90
      have HC10 := Aside0.mk H
      clear H
      go_enter Try.func11, Try.ntmps11
      go_upto_region 8 with (first | ((with_reducible refine gate_callee (f := 21) rfl ?_); refine goesL_ (some 33) rfl rfl Try.func21 (by kernel_rfl) rfl #[] rfl (by (try simp only [List.map_toArray, List.map_cons, List.map_nil]); first | done | rfl | (simp only [List.length_drop, List.length_take]; rfl)) ?_; (with_reducible refine (medlarlaw10_live.calls k  t573 _ A4.out).mono ?_); rintro e w11 ⟨rfl, hb⟩; refine ⟨_, rfl, ?_⟩; have n0_ := Aside0.mk (below_step (by repeat (first | (with_reducible first | exact HB.out | apply below_alloc | apply pw_below_drewN | apply below_drew1) | exact HB.out)) hb); clear HB; have HB := n0_; clear n0_; (try clear hb); (try clear hb2); (try clear hk); (try clear hi)) | ((with_reducible refine gate_callee (f := 22) rfl ?_); refine goesL_ (some 41) rfl rfl Try.func22 (by kernel_rfl) rfl #[.int .i64 a0, .slice A1 l1.length c1] rfl (by (try simp only [List.map_toArray, List.map_cons, List.map_nil]); first | done | rfl | (simp only [List.length_drop, List.length_take]; rfl)) ?_; (with_reducible refine (whole_Cover.calls k a0 _ _ l1 t574 t575 _ ?side1 ?side2 A7.out).mono ?_); (case side1 => repeat (first | exact (Kd.C_below HR1.out HB.out) | (with_reducible refine Kd.C_alloc ?_ _) | (with_reducible refine Kd.C_drewN ?_ _) | (with_reducible refine Kd.C_drew ?_))); (case side2 => exact HC1.out); rintro e w12 ⟨v576, rfl, ho0, hb⟩; refine ⟨_, rfl, ?_⟩; have n0_ := Aside0.mk (Kd.R_lower ho0 (below_size (by repeat (first | (with_reducible first | exact HB.out | apply below_alloc | apply pw_below_drewN | apply below_drew1) | exact HB.out)))); have n1_ := Aside0.mk (below_step (by repeat (first | (with_reducible first | exact HB.out | apply below_alloc | apply pw_below_drewN | apply below_drew1) | exact HB.out)) hb); clear HB; have HO577 := n0_; have HB := n1_; clear n0_ n1_; (try clear hb); (try clear hb2); (try clear hk); (try clear hi); (try clear ho0)) | ((with_reducible refine gate_callee (f := 24) rfl ?_); refine goesL_ (some 56) rfl rfl Try.func24 (by kernel_rfl) rfl #[.int .i64 a0, .int .i64 (l1.length : Int)] rfl (by (try simp only [List.map_toArray, List.map_cons, List.map_nil]); first | done | rfl | (simp only [List.length_drop, List.length_take]; rfl)) ?_; (with_reducible refine (whole_Bound.calls k a0 (l1.length : Int) t578 t579 _ A9.out).mono ?_); rintro e w13 ⟨rfl, hb⟩; refine ⟨_, rfl, ?_⟩; have n0_ := Aside0.mk (Kd.R_below (by (with_reducible repeat (first | apply Kd.R_alloc | apply Kd.R_drewN | apply Kd.R_drew)); exact HO577.out) hb); have n1_ := Aside0.mk (below_step (by repeat (first | (with_reducible first | exact HB.out | apply below_alloc | apply pw_below_drewN | apply below_drew1) | exact HB.out)) hb); clear HO577; clear HB; have HO577 := n0_; have HB := n1_; clear n0_ n1_; (try clear hb); (try clear hb2); (try clear hk); (try clear hi)))
      (try simp only [Act.put, List.setIfInBounds_toArray, List.set_cons_zero, List.set_cons_succ])
      go_cut [79] (fun v79 wc => ∃ (kq : Nat) (x79_9 : Bool), v79 = .bool x79_9 ∧ Aside0 (medlarlaw10_WholeCovers.j0 kq a0 l1 a2 t573 t574 x79_9 = some r) ∧ Aside0 (kq ≤ k) ∧ Aside0 (Kd.R k43 43 wc w.heap.size (fun _ => True) v576 t574) ∧ Aside0 (Below w.heap.size w wc))
      case first =>
        have H := HC10.out
        clear HC10
        by_cases c14 : t579 = 0
        · rw [if_pos c14] at H
          have c14b0 : (t579 == 0) = true := beq_iff_eq.mpr c14
          have c14b1 : (t579 != 0) = false := bne_eq_false_iff_eq.mpr c14
          clear c14
          (first | rw [c14b0] | (simp only [i64_w, i32_w]; rw [c14b0]) | skip)
          by_cases c15 : (IntKind.u64.wrap ((t574.length : Int))) > t578
          · rw [if_pos c15] at H
            have c15b0 : decide (t578 < (IntKind.u64.wrap ((t574.length : Int)))) = true := decide_eq_true c15
            clear c15
            have H' := Aside0.mk H
            clear H
            obtain ⟨Ao16, co16, eo16⟩ := Kd.R_slice HO577.out
            subst eo16
            go_wp2
            go_meet
            case rel => exact ⟨_, (true), (by first | rfl | (simp; done) | (simp [*]; done)), H', ⟨by first | omega | exact Nat.le_refl _⟩, ⟨by (with_reducible repeat (first | apply Kd.R_alloc | apply Kd.R_drewN | apply Kd.R_drew)); exact HO577.out⟩, ⟨by repeat (first | (with_reducible first | exact HB.out | apply below_alloc | apply pw_below_drewN | apply below_drew1) | exact HB.out)⟩⟩
          · rw [if_neg c15] at H
            have c15b0 : decide (t578 < (IntKind.u64.wrap ((t574.length : Int)))) = false := decide_eq_false c15
            clear c15
            by_cases c17 : (l1.length : Int) = 0
            · rw [if_pos c17] at H
              have c17b0 : ((l1.length : Int) == 0) = true := beq_iff_eq.mpr c17
              have c17b1 : ((l1.length : Int) != 0) = false := bne_eq_false_iff_eq.mpr c17
              clear c17
              obtain ⟨y580, hy580⟩ : ∃ y_ : List (S43), y_ = (([(⟨1, 0⟩ : S43)] : List (S43))) := ⟨_, rfl⟩
              replace H : ((medlarref08_Same.f k t574 y580).bind fun t583 => (medlarlaw10_WholeCovers.j0 k a0 l1 a2 t573 t574 (!t583))) = some r := by first | (rw [hy580]; with_reducible exact H) | (have H2_ := (Option.bind_some _ _).symm.trans H; rw [hy580]; with_reducible exact H2_) | (have H2_ := (Option.bind_some _ _).symm.trans H; with_reducible exact H2_) | with_reducible exact H | (rw [hy580]; exact H) | exact H
              have Ny580 := Aside0.mk hy580
              clear hy580
              replace H := Option.bind_eq_some_iff.mp H
              obtain ⟨t583, A180, H⟩ := H
              replace H : (medlarlaw10_WholeCovers.j0 k a0 l1 a2 t573 t574 (!t583)) = some r := H
              have A18 := Aside0.mk A180
              clear A180
              have H' := Aside0.mk H
              clear H
              obtain ⟨Ao19, co19, eo19⟩ := Kd.R_slice HO577.out
              subst eo19
              go_wp2_with (first | ((with_reducible refine gate_dst (N := 75) rfl ?_); (try (refine gate_guard (by rfl) ?_; dsimp only)); refine Kd.R_lit k43 _ 43 ?hg (N := 75) ?hd (xs := ([(⟨1, 0⟩ : S43)] : List (S43))) (inner := [.int .u64 1, .int .u64 0]) (ok := fun _ => True) (okp := fun _ => True) ?hr ?hp (fun _ hk => hk) trivial (Below.refl _ _) (Nat.le_refl _) (by simp) ?_; (case hd => rfl); (case hg => rfl); (case hr => first | (go_simp; done) | (go_simp; rfl)); (case hp => exact (Reps.c2 (show Kd.M k43 _ _ _ (⟨1, 0⟩ : S43) [.int .u64 1, .int .u64 0] from (k43_mkM _ _ _ (⟨1, 0⟩ : S43) )) (Reps.none _ _))); intro v581 w20 ho21 hb hg_ hnew_; clear hg_ hnew_; (first | rw [← Ny580.out] at ho21 | (simp only [Int.reduceToNat] at ho21; rw [← Ny580.out] at ho21)); have n0_ := Aside0.mk (Kd.R_elder' (by (with_reducible repeat (first | apply Kd.R_alloc | apply Kd.R_drewN | apply Kd.R_drew)); exact HO577.out) (Kd.R_base ho21) hb); have n1_ := Aside0.mk (Kd.R_lower (Kd.R_new' ho21 (Kd.R_lt (by (with_reducible repeat (first | apply Kd.R_alloc | apply Kd.R_drewN | apply Kd.R_drew)); exact HO577.out))) (below_size (by repeat (first | (with_reducible first | exact HB.out | apply below_alloc | apply pw_below_drewN | apply below_drew1) | exact HB.out)))); have n2_ := Aside0.mk (below_step (by repeat (first | (with_reducible first | exact HB.out | apply below_alloc | apply pw_below_drewN | apply below_drew1) | exact HB.out)) hb); clear HO577; clear HB; have HO577 := n0_; have HO582 := n1_; have HB := n2_; clear n0_ n1_ n2_; clear hb ho21; obtain ⟨Ao22, co22, eo22⟩ := Kd.R_slice HO582.out; subst eo22) | (go_at_call 26; (with_reducible refine (medlarref08_Same.calls k _ _ t574 _ _ y580 t583 _ ?side1 ?side2 ?side3 ?side4 A18.out).mono ?_); (case side1 => repeat (first | exact (Kd.R_reads' HO577.out).2.2 | (with_reducible refine Kd.C_alloc ?_ _) | (with_reducible refine Kd.C_drewN ?_ _) | (with_reducible refine Kd.C_drew ?_))); (case side2 => exact (Kd.R_reads' HO577.out).2.1); (case side3 => repeat (first | exact (Kd.R_reads' HO582.out).2.2 | (with_reducible refine Kd.C_alloc ?_ _) | (with_reducible refine Kd.C_drewN ?_ _) | (with_reducible refine Kd.C_drew ?_))); (case side4 => exact (Kd.R_reads' HO582.out).2.1); rintro e w' ⟨rfl, ⟨nd, rfl⟩⟩))
              go_meet
              case rel => exact ⟨_, (!t583), (by first | rfl | (simp; done) | (simp [*]; done)), H', ⟨by first | omega | exact Nat.le_refl _⟩, ⟨by (with_reducible repeat (first | apply Kd.R_alloc | apply Kd.R_drewN | apply Kd.R_drew)); exact Kd.R_mono HO577.out (fun _ hk => trivial)⟩, ⟨by repeat (first | (with_reducible first | exact HB.out | apply below_alloc | apply pw_below_drewN | apply below_drew1) | exact HB.out)⟩⟩
            · rw [if_neg c17] at H
              have c17b0 : ((l1.length : Int) == 0) = false := beq_eq_false_iff_ne.mpr c17
              have c17b1 : ((l1.length : Int) != 0) = true := bne_iff_ne.mpr c17
              have c17b2 : ¬ (l1 = []) := fun h_ => c17 (by rw [h_]; rfl)
              have H' := Aside0.mk H
              clear H
              obtain ⟨Ao23, co23, eo23⟩ := Kd.R_slice HO577.out
              subst eo23
              go_wp2
              go_meet
              case rel => exact ⟨_, (false), (by first | rfl | (simp; done) | (simp [*]; done)), H', ⟨by first | omega | exact Nat.le_refl _⟩, ⟨by (with_reducible repeat (first | apply Kd.R_alloc | apply Kd.R_drewN | apply Kd.R_drew)); exact HO577.out⟩, ⟨by repeat (first | (with_reducible first | exact HB.out | apply below_alloc | apply pw_below_drewN | apply below_drew1) | exact HB.out)⟩⟩
        · rw [if_neg c14] at H
          have c14b0 : (t579 == 0) = false := beq_eq_false_iff_ne.mpr c14
          have c14b1 : (t579 != 0) = true := bne_iff_ne.mpr c14
          (first | rw [c14b0] | (simp only [i64_w, i32_w]; rw [c14b0]) | skip)
          have H' := Aside0.mk H
          clear H
          go_wp2
          go_meet
          case rel => exact ⟨_, (true), (by first | rfl | (simp; done) | (simp [*]; done)), H', ⟨by first | omega | exact Nat.le_refl _⟩, ⟨by (with_reducible repeat (first | apply Kd.R_alloc | apply Kd.R_drewN | apply Kd.R_drew)); exact HO577.out⟩, ⟨by repeat (first | (with_reducible first | exact HB.out | apply below_alloc | apply pw_below_drewN | apply below_drew1) | exact HB.out)⟩⟩
      case rest =>
        clear HC10
        try clear c1
        try clear c2
        try clear p2
        try clear c5
        try clear c5b0
        try clear c5b1
        try clear c8
        try clear c8b0
        try clear c8b1
        try clear c11
        try clear c14
        try clear c14b0
        try clear c14b1
        try clear c15
        try clear c15b0
        try clear c17
        try clear c17b0
        try clear c17b1
        try clear c17b2
        try clear c21
        try clear c22
        obtain ⟨kq, x79_9, rfl, HA, HJ9, HO_8, HB⟩ := hcut
        cases kq with
        | zero => exact absurd HA.out (by simp [medlarlaw10_WholeCovers.j0])
        | succ kj9 =>
          have H := HA.out
          clear HA
          simp only [medlarlaw10_WholeCovers.j0] at H
          by_cases c24 : x79_9 = true
          · subst c24
            have H1 : (some false) = some r := by rw [if_pos rfl] at H; exact H
            clear H
            have H := H1
            clear H1
            exact absurd ((Option.some.inj H).trans hT.out) Bool.false_ne_true
          · replace c24 := Bool.eq_false_iff.mpr c24
            subst c24
            have H1 : ((leaf_Has.f kj9 a0 l1 a2).bind fun bt584 => (medlarlaw10_WholeCovers.l0 kj9 a0 l1 a2 t573 t574 0 bt584.1 bt584.2 ([] : List (S34)) t574 (t574.length : Int) 0)) = some r := by rw [if_neg (show ¬ (false = true) by decide)] at H; exact H
            clear H
            have H := H1
            clear H1
            replace H := Option.bind_eq_some_iff.mp H
            obtain ⟨⟨t584, t585⟩, A250, H⟩ := H
            replace H : (medlarlaw10_WholeCovers.l0 kj9 a0 l1 a2 t573 t574 0 t584 t585 ([] : List (S34)) t574 (t574.length : Int) 0) = some r := H
            have A25 := Aside0.mk A250
            clear A250
            have H' := Aside0.mk H
            clear H
            go_wp2_with (first | ((with_reducible refine gate_callee (f := 18) rfl ?_); refine goesL_ (some 84) rfl rfl Try.func18 (by kernel_rfl) rfl #[.int .i64 a0, .slice A1 l1.length c1, .int .u64 a2] rfl (by (try simp only [List.map_toArray, List.map_cons, List.map_nil]); first | done | rfl | (simp only [List.length_drop, List.length_take]; rfl)) ?_; (with_reducible refine (leaf_Has.calls kj9 a0 _ _ l1 a2 t584 t585 _ ?side1 ?side2 A25.out).mono ?_); (case side1 => repeat (first | exact (Kd.C_below HR1.out HB.out) | (with_reducible refine Kd.C_alloc ?_ _) | (with_reducible refine Kd.C_drewN ?_ _) | (with_reducible refine Kd.C_drew ?_))); (case side2 => exact HC1.out); rintro e w' ⟨rfl, ⟨nd, rfl⟩⟩; refine ⟨_, rfl, ?_⟩; obtain ⟨Ao26, co26, eo26⟩ := Kd.R_slice HO_8.out; subst eo26))
            go_loopg [12, 15, 89] kj9 (fun kq v12 v15 v89 w' => ∃ (x12_2 : Int) (x15_2 : List (S34)) (x89_2 : Int), v12 = .int .i64 x12_2 ∧ v89 = .int .i64 x89_2 ∧ Aside0 (medlarlaw10_WholeCovers.l0 kq a0 l1 a2 t573 t574 x12_2 t584 t585 x15_2 t574 (t574.length : Int) x89_2 = some r) ∧ Aside0 (kq ≤ kj9) ∧ Aside0 (Kd.R k43 43 w' w.heap.size (fun _ => True) (.slice Ao26 t574.length co26) t574) ∧ Aside0 (Kd.R k34 34 w' w.heap.size (fun _ => True) v15 x15_2) ∧ Aside0 (Kd.R k43 43 w' w.heap.size (fun _ => True) (.slice Ao26 t574.length co26) t574) ∧ Aside0 (Below w.heap.size w w'))
            case atStart => exact ⟨(0), (([] : List (S34))), (0), (by first | rfl | (simp; done) | (simp [*]; done)), (by first | rfl | (simp; done) | (simp [*]; done)), H', ⟨Nat.le_refl _⟩, ⟨by (with_reducible repeat (first | apply Kd.R_alloc | apply Kd.R_drewN | apply Kd.R_drew)); exact HO_8.out⟩, ⟨by first | exact Kd.R_nil _ _ _ _ _ | exact Kd.N_nil _ _ _ _ _ | exact Kd.V_nil _ _ _ _ _ | exact Kd.Q_nil _ _ _ _ _ | exact Kd.S_nil _ _ _ _ _⟩, ⟨by (with_reducible repeat (first | apply Kd.R_alloc | apply Kd.R_drewN | apply Kd.R_drew)); exact HO_8.out⟩, ⟨by repeat (first | (with_reducible first | exact HB.out | apply below_alloc | apply pw_below_drewN | apply below_drew1) | exact HB.out)⟩⟩
            case round =>
              clear H'
              try clear c1
              try clear c2
              try clear p2
              try clear c5
              try clear c5b0
              try clear c5b1
              try clear c8
              try clear c8b0
              try clear c8b1
              try clear c11
              try clear c14
              try clear c14b0
              try clear c14b1
              try clear c15
              try clear c15b0
              try clear c17
              try clear c17b0
              try clear c17b1
              try clear c17b2
              try clear c18
              try clear c21
              try clear c22
              try clear c24
              try clear p2
              obtain ⟨x12_2, x15_2, x89_2, rfl, rfl, HA, HK2, HO_8, HO_15, HO_87, HB⟩ := hrel
              cases gk with
              | zero => exact absurd HA.out (by simp [medlarlaw10_WholeCovers.l0])
              | succ k2 =>
                have H := HA.out
                clear HA
                simp only [medlarlaw10_WholeCovers.l0] at H
                by_cases c27 : x89_2 < (t574.length : Int)
                · rw [if_pos c27] at H
                  have c27b0 : decide (x89_2 < (t574.length : Int)) = true := decide_eq_true c27
                  clear c27
                  by_cases c28 : 0 ≤ x89_2
                  · rw [if_pos c28] at H
                    have c28b0 : decide (0 ≤ x89_2) = true := decide_eq_true c28
                    clear c28
                    by_cases c29 : x89_2 < (t574.length : Int)
                    · rw [if_pos c29] at H
                      have c29b0 : decide (x89_2 < (t574.length : Int)) = true := decide_eq_true c29
                      clear c29
                      replace H := Option.bind_eq_some_iff.mp H
                      obtain ⟨⟨t588, t589⟩, A300, H⟩ := H
                      replace H : (if t589 = t585 then (if t588 = true then (medlarlaw10_WholeCovers.j2 k2 a0 l1 a2 t573 t574 (wrap64 (x12_2 + 1)) t584 t585 x15_2 x89_2 t574 (t574.length : Int) x89_2 ((rd_T43 t574 x89_2).f0) ((rd_T43 t574 x89_2).f1)) else (medlarlaw10_WholeCovers.j2 k2 a0 l1 a2 t573 t574 x12_2 t584 t585 x15_2 x89_2 t574 (t574.length : Int) x89_2 ((rd_T43 t574 x89_2).f0) ((rd_T43 t574 x89_2).f1))) else (some false)) = some r := H
                      have A30 := Aside0.mk A300
                      clear A300
                      by_cases c31 : t589 = t585
                      · rw [if_pos c31] at H
                        have c31b0 : (t589 == t585) = true := beq_iff_eq.mpr c31
                        have c31b1 : (t589 != t585) = false := bne_eq_false_iff_eq.mpr c31
                        clear c31
                        have HC32 := Aside0.mk H
                        clear H
                        have p586 : 0 ≤ (x89_2 : Int) := of_decide_eq_true (by first | (with_reducible assumption) | assumption)
                        have q586 : x89_2 < (t574.length : Int) := of_decide_eq_true (by first | (with_reducible assumption) | assumption)
                        obtain ⟨ad586, e586, hx586_0, hx586_1⟩ := at_T43 (Kd.R_reads' HO_87.out).2.2 x89_2 p586 q586
                        cases e586
                        replace p586 := eq_true p586
                        replace q586 := eq_true q586
                        go_upto_if 104 with (first | ((with_reducible refine gate_dst (N := 17) rfl ?_); (try (refine gate_guard (by rfl) ?_; dsimp only)); refine box_event ?hg (N := 17) ?hd (cs := #[.int .u64 0, .int .u64 0]) (t := 43) ?hr ?_; (case hd => rfl); (case hg => rfl); (case hr => first | (go_simp; done) | (go_simp; rfl)); intro gb587 hg w33 hbox hb; have n0_ := Aside0.mk (Kd.R_below (Kd.R_elderB (by (with_reducible repeat (first | apply Kd.R_alloc | apply Kd.R_drewN | apply Kd.R_drew)); exact HO_8.out) gb587 (Nat.le_of_eq hg.symm)) hb); have n1_ := Aside0.mk (Kd.R_below (by (with_reducible repeat (first | apply Kd.R_alloc | apply Kd.R_drewN | apply Kd.R_drew)); exact HO_15.out) hb); have n2_ := Aside0.mk (Kd.R_below (Kd.R_elderB (by (with_reducible repeat (first | apply Kd.R_alloc | apply Kd.R_drewN | apply Kd.R_drew)); exact HO_87.out) gb587 (Nat.le_of_eq hg.symm)) hb); have n3_ := Aside0.mk (below_step (by repeat (first | (with_reducible first | exact HB.out | apply below_alloc | apply pw_below_drewN | apply below_drew1) | exact HB.out)) hb); have n4_ := Aside0.mk (hbox); have n5_ := Aside0.mk ((by rw [hg]; exact (below_size (by repeat (first | (with_reducible first | exact HB.out | apply below_alloc | apply pw_below_drewN | apply below_drew1) | exact HB.out))) : w.heap.size ≤ gb587)); have n6_ := Aside0.mk ((by rw [hg]; exact (below_size (by repeat (first | (with_reducible first | exact HB.out | apply below_alloc | apply pw_below_drewN | apply below_drew1) | exact HB.out))) : w.heap.size ≤ gb587)); clear HO_8; clear HO_15; clear HO_87; clear HB; have HO_8 := n0_; have HO_15 := n1_; have HO_87 := n2_; have HB := n3_; have BK587 := n4_; have GW587 := n5_; have GE587 := n6_; clear n0_ n1_ n2_ n3_ n4_ n5_ n6_; clear hb hbox hg; have hcz34_0 : w33.cell? ⟨gb587, 0, none⟩ = some (.int .u64 0) := (blk_cell BK587.out 0).trans rfl; have hcz34_1 : w33.cell? ⟨gb587, 1, none⟩ = some (.int .u64 0) := (blk_cell BK587.out 1).trans rfl; have hfz34_0 := blk_frozen BK587.out 0; have hfz34_1 := blk_frozen BK587.out 1) | ((with_reducible refine gate_callee (f := 39) rfl ?_); refine goesL_ (some 98) rfl rfl Try.func39 (by kernel_rfl) rfl #[.int .i64 a0, .agg #[.int .u64 ((rd_T43 t574 x89_2).f0), .int .u64 ((rd_T43 t574 x89_2).f1)], .int .u64 a2] rfl (by (try simp only [List.map_toArray, List.map_cons, List.map_nil]); first | done | rfl | (simp only [List.length_drop, List.length_take]; rfl)) ?_; (with_reducible refine (sub_Has.calls k2 a0 ((rd_T43 t574 x89_2).f0) ((rd_T43 t574 x89_2).f1) a2 t588 t589 _ A30.out).mono ?_); rintro e w35 ⟨rfl, hb⟩; refine ⟨_, rfl, ?_⟩; have n0_ := Aside0.mk (Kd.R_below (by (with_reducible repeat (first | apply Kd.R_alloc | apply Kd.R_drewN | apply Kd.R_drew)); exact (Kd.R_mono (Kd.R_far (p := ⟨gb587, 1, none⟩) (Kd.R_far (p := ⟨gb587, 0, none⟩) (Kd.R_mono HO_8.out (fun k_ hk => (⟨hk, hk.2⟩ : _ ∧ k_ ≠ gb587))) (fun _ hk => hk.2) (.int .u64 ((rd_T43 t574 x89_2).f0))) (fun _ hk => hk.2) (.int .u64 ((rd_T43 t574 x89_2).f1))) (fun _ h_ => h_.1))) hb); have n1_ := Aside0.mk (Kd.R_below (by (with_reducible repeat (first | apply Kd.R_alloc | apply Kd.R_drewN | apply Kd.R_drew)); exact (Kd.R_mono (Kd.R_far (p := ⟨gb587, 1, none⟩) (Kd.R_far (p := ⟨gb587, 0, none⟩) (Kd.R_types HO_15.out BK587.out (by decide)) (fun _ hk => hk.2) (.int .u64 ((rd_T43 t574 x89_2).f0))) (fun _ hk => hk.2) (.int .u64 ((rd_T43 t574 x89_2).f1))) (fun _ h_ => h_.1))) hb); have n2_ := Aside0.mk (Kd.R_below (by (with_reducible repeat (first | apply Kd.R_alloc | apply Kd.R_drewN | apply Kd.R_drew)); exact (Kd.R_mono (Kd.R_far (p := ⟨gb587, 1, none⟩) (Kd.R_far (p := ⟨gb587, 0, none⟩) (Kd.R_mono HO_87.out (fun k_ hk => (⟨hk, hk.2⟩ : _ ∧ k_ ≠ gb587))) (fun _ hk => hk.2) (.int .u64 ((rd_T43 t574 x89_2).f0))) (fun _ hk => hk.2) (.int .u64 ((rd_T43 t574 x89_2).f1))) (fun _ h_ => h_.1))) hb); have n3_ := Aside0.mk (blk_below (g := gb587) (o := .cells #[.int .u64 ((rd_T43 t574 x89_2).f0), .int .u64 ((rd_T43 t574 x89_2).f1)] 43 (0, 0)) (by (with_reducible repeat (first | refine blk_drewN ?_ _ | refine blk_drew ?_ | refine blk_alloc ?_ _)); refine blk_put (cs := #[.int .u64 ((rd_T43 t574 x89_2).f0), .int .u64 0]) ?_ 1 _ rfl; (with_reducible repeat (first | refine blk_drewN ?_ _ | refine blk_drew ?_ | refine blk_alloc ?_ _)); refine blk_put (cs := #[.int .u64 0, .int .u64 0]) ?_ 0 _ rfl; (with_reducible repeat (first | refine blk_drewN ?_ _ | refine blk_drew ?_ | refine blk_alloc ?_ _)); exact BK587.out) hb); have n4_ := Aside0.mk (below_step (by repeat (first | (with_reducible first | exact HB.out | apply below_alloc | apply pw_below_drewN | apply below_drew1 | refine below_set ?_ GE587.out) | exact HB.out)) hb); clear HO_8; clear HO_15; clear HO_87; clear BK587; clear HB; have HO_8 := n0_; have HO_15 := n1_; have HO_87 := n2_; have BK587 := n3_; have HB := n4_; clear n0_ n1_ n2_ n3_ n4_; (try clear hb); (try clear hb2); (try clear hk); (try clear hi)))
                        (try simp only [Act.put, List.setIfInBounds_toArray, List.set_cons_zero, List.set_cons_succ])
                        go_cut [12] (fun v12 wc => ∃ (kq : Nat) (x12_31 : Int), v12 = .int .i64 x12_31 ∧ Aside0 (medlarlaw10_WholeCovers.j2 kq a0 l1 a2 t573 t574 x12_31 t584 t585 x15_2 x89_2 t574 (t574.length : Int) x89_2 ((rd_T43 t574 x89_2).f0) ((rd_T43 t574 x89_2).f1) = some r) ∧ Aside0 (kq ≤ k2) ∧ Aside0 (Kd.R k43 43 wc w.heap.size (fun k_ => k_ ≠ gb587) (.slice (some ad586) t574.length co26) t574) ∧ Aside0 (Kd.R k34 34 wc w.heap.size (fun _ => True) u15 x15_2) ∧ Aside0 (Kd.R k43 43 wc w.heap.size (fun k_ => k_ ≠ gb587) (.slice (some ad586) t574.length co26) t574) ∧ Aside0 (wc.heap[gb587]? = some (.cells #[.int .u64 ((rd_T43 t574 x89_2).f0), .int .u64 ((rd_T43 t574 x89_2).f1)] 43 (0, 0))) ∧ Aside0 (Below w.heap.size w wc))
                        case first =>
                          have H := HC32.out
                          clear HC32
                          by_cases c36 : t588 = true
                          · subst c36
                            have H1 : (medlarlaw10_WholeCovers.j2 k2 a0 l1 a2 t573 t574 (wrap64 (x12_2 + 1)) t584 t585 x15_2 x89_2 t574 (t574.length : Int) x89_2 ((rd_T43 t574 x89_2).f0) ((rd_T43 t574 x89_2).f1)) = some r := by rw [if_pos rfl] at H; exact H
                            clear H
                            have H := H1
                            clear H1
                            have H' := Aside0.mk H
                            clear H
                            go_wp2
                            go_meet
                            case rel => exact ⟨_, (wrap64 (x12_2 + 1)), (by first | rfl | (simp; done) | (simp [*]; done)), H', ⟨by have := HJ9.out; have := HK2.out; first | omega | exact Nat.le_refl _⟩, ⟨by (with_reducible repeat (first | apply Kd.R_alloc | apply Kd.R_drewN | apply Kd.R_drew)); exact Kd.R_mono HO_8.out (fun _ hk => hk.2)⟩, ⟨by (with_reducible repeat (first | apply Kd.R_alloc | apply Kd.R_drewN | apply Kd.R_drew)); exact HO_15.out⟩, ⟨by (with_reducible repeat (first | apply Kd.R_alloc | apply Kd.R_drewN | apply Kd.R_drew)); exact Kd.R_mono HO_87.out (fun _ hk => hk.2)⟩, ⟨by (with_reducible repeat (first | refine blk_drewN ?_ _ | refine blk_drew ?_ | refine blk_alloc ?_ _)); exact BK587.out⟩, ⟨by repeat (first | (with_reducible first | exact HB.out | apply below_alloc | apply pw_below_drewN | apply below_drew1 | refine below_set ?_ GE587.out) | exact HB.out)⟩⟩
                          · replace c36 := Bool.eq_false_iff.mpr c36
                            subst c36
                            have H1 : (medlarlaw10_WholeCovers.j2 k2 a0 l1 a2 t573 t574 x12_2 t584 t585 x15_2 x89_2 t574 (t574.length : Int) x89_2 ((rd_T43 t574 x89_2).f0) ((rd_T43 t574 x89_2).f1)) = some r := by rw [if_neg (show ¬ (false = true) by decide)] at H; exact H
                            clear H
                            have H := H1
                            clear H1
                            have H' := Aside0.mk H
                            clear H
                            go_wp2
                            go_meet
                            case rel => exact ⟨_, (x12_2), (by first | rfl | (simp; done) | (simp [*]; done)), H', ⟨by have := HJ9.out; have := HK2.out; first | omega | exact Nat.le_refl _⟩, ⟨by (with_reducible repeat (first | apply Kd.R_alloc | apply Kd.R_drewN | apply Kd.R_drew)); exact Kd.R_mono HO_8.out (fun _ hk => hk.2)⟩, ⟨by (with_reducible repeat (first | apply Kd.R_alloc | apply Kd.R_drewN | apply Kd.R_drew)); exact HO_15.out⟩, ⟨by (with_reducible repeat (first | apply Kd.R_alloc | apply Kd.R_drewN | apply Kd.R_drew)); exact Kd.R_mono HO_87.out (fun _ hk => hk.2)⟩, ⟨by (with_reducible repeat (first | refine blk_drewN ?_ _ | refine blk_drew ?_ | refine blk_alloc ?_ _)); exact BK587.out⟩, ⟨by repeat (first | (with_reducible first | exact HB.out | apply below_alloc | apply pw_below_drewN | apply below_drew1 | refine below_set ?_ GE587.out) | exact HB.out)⟩⟩
                        case rest =>
                          clear HC32
                          try clear c1
                          try clear c2
                          try clear p2
                          try clear c3
                          try clear c5
                          try clear c5b0
                          try clear c5b1
                          try clear p5
                          try clear q5
                          try clear hx5
                          try clear p6
                          try clear c8
                          try clear c8b0
                          try clear c8b1
                          try clear c11
                          try clear c14
                          try clear c14b0
                          try clear c14b1
                          try clear c15
                          try clear c15b0
                          try clear c17
                          try clear c17b0
                          try clear c17b1
                          try clear c17b2
                          try clear c18
                          try clear c21
                          try clear c22
                          try clear c24
                          try clear c27
                          try clear c27b0
                          try clear c28
                          try clear c28b0
                          try clear c29
                          try clear c29b0
                          try clear c31
                          try clear c31b0
                          try clear c31b1
                          try clear c36
                          try clear hcz34_0
                          try clear hcz34_1
                          try clear hfz34_0
                          try clear hfz34_1
                          try clear hx586_0
                          try clear hx586_1
                          try clear p2
                          try clear p586
                          try clear q586
                          obtain ⟨kq, x12_31, rfl, HA, HJ31, HO_8, HO_15, HO_87, BK587, HB⟩ := hcut
                          cases kq with
                          | zero => exact absurd HA.out (by simp [medlarlaw10_WholeCovers.j2])
                          | succ kj31 =>
                            have H := HA.out
                            clear HA
                            simp only [medlarlaw10_WholeCovers.j2] at H
                            by_cases c37 : 0 ≤ x89_2
                            · rw [if_pos c37] at H
                              have c37b0 := eq_true c37
                              have c37b1 : decide (0 ≤ x89_2) = true := decide_eq_true c37
                              clear c37
                              by_cases c38 : x89_2 ≤ (t574.length : Int)
                              · rw [if_pos c38] at H
                                have c38b0 := eq_true c38
                                have c38b1 : decide (x89_2 ≤ (t574.length : Int)) = true := decide_eq_true c38
                                clear c38
                                obtain ⟨y590, hy590⟩ : ∃ y_ : List (S43), y_ = (t574.take (x89_2 : Int).toNat) := ⟨_, rfl⟩
                                replace H : (medlarlaw10_WholeCovers.l1 kj31 a0 l1 a2 t573 t574 x12_31 t584 t585 x15_2 t574 (t574.length : Int) x89_2 y590 (y590.length : Int) 0 ((rd_T43 t574 x89_2).f0) ((rd_T43 t574 x89_2).f1)) = some r := by first | (rw [hy590]; with_reducible exact H) | (have H2_ := (Option.bind_some _ _).symm.trans H; rw [hy590]; with_reducible exact H2_) | (have H2_ := (Option.bind_some _ _).symm.trans H; with_reducible exact H2_) | with_reducible exact H | (rw [hy590]; exact H) | exact H
                                have Ny590 := Aside0.mk hy590
                                clear hy590
                                have H' := Aside0.mk H
                                clear H
                                have q39 : (x89_2 : Int) ≤ ((t574.length : Int) : Int) := of_decide_eq_true (by first | (with_reducible assumption) | assumption)
                                obtain ⟨i039, hi039, _, hsz39, _⟩ := info_parts info43
                                have hroom39 : t574.length ≤ co26 := (Kd.R_reads' HO_8.out).2.1
                                have hC39 : Kd.C k43 _ (some ad586) t574.length t574 := (Kd.R_reads' HO_8.out).2.2
                                have hcut39 := cut_to (P := Try.prog) 39 43 .i64 Try.underlying39 hi039 (some ad586) t574.length co26 x89_2 (of_decide_eq_true (by first | (with_reducible assumption) | assumption)) q39 hroom39
                                have hr39 := Kd.C_take (m := (x89_2 : Int).toNat) hC39 (by omega)
                                have hy39 : y590.length = (x89_2 : Int).toNat := (by rw [Ny590.out, List.length_take]; omega)
                                rw [← Ny590.out] at hr39
                                rw [← hy39] at hcut39
                                have HR593 := Aside0.mk hr39
                                have HC593 := Aside0.mk (show y590.length ≤ co26 from by omega)
                                clear hr39 hC39 hroom39 hi039 hsz39
                                have KY39 := Aside0.mk hy39
                                clear hy39
                                have KL39 := Aside0.mk (show (x89_2 : Int).toNat ≤ t574.length from by omega)
                                replace q39 := eq_true q39
                                go_wp2
                                go_loopg [111] kj31 (fun kq v111 w' => ∃ (x111_4 : Int), v111 = .int .i64 x111_4 ∧ Aside0 (medlarlaw10_WholeCovers.l1 kq a0 l1 a2 t573 t574 x12_31 t584 t585 x15_2 t574 (t574.length : Int) x89_2 y590 (y590.length : Int) x111_4 ((rd_T43 t574 x89_2).f0) ((rd_T43 t574 x89_2).f1) = some r) ∧ Aside0 (kq ≤ kj31) ∧ Aside0 (Kd.R k43 43 w' w.heap.size (fun k_ => k_ ≠ gb587) (.slice (some ad586) t574.length co26) t574) ∧ Aside0 (Kd.R k34 34 w' w.heap.size (fun _ => True) u15 x15_2) ∧ Aside0 (Kd.R k43 43 w' w.heap.size (fun k_ => k_ ≠ gb587) (.slice (some ad586) t574.length co26) t574) ∧ Aside0 (w'.heap[gb587]? = some (.cells #[.int .u64 ((rd_T43 t574 x89_2).f0), .int .u64 ((rd_T43 t574 x89_2).f1)] 43 (0, 0))) ∧ Aside0 (Kd.C k43 w' (some ad586) y590.length y590) ∧ Aside0 (Below w.heap.size w w'))
                                case atStart => exact ⟨(0), (by first | rfl | (simp; done) | (simp [*]; done)), H', ⟨Nat.le_refl _⟩, ⟨by (with_reducible repeat (first | apply Kd.R_alloc | apply Kd.R_drewN | apply Kd.R_drew)); exact HO_8.out⟩, ⟨by (with_reducible repeat (first | apply Kd.R_alloc | apply Kd.R_drewN | apply Kd.R_drew)); exact HO_15.out⟩, ⟨by (with_reducible repeat (first | apply Kd.R_alloc | apply Kd.R_drewN | apply Kd.R_drew)); exact HO_87.out⟩, ⟨by (with_reducible repeat (first | refine blk_drewN ?_ _ | refine blk_drew ?_ | refine blk_alloc ?_ _)); exact BK587.out⟩, ⟨by repeat (first | (with_reducible exact HR593.out) | (with_reducible refine Kd.C_alloc ?_ _) | (with_reducible refine Kd.C_drewN ?_ _) | (with_reducible refine Kd.C_drew ?_) | exact HR593.out)⟩, ⟨by repeat (first | (with_reducible first | exact HB.out | apply below_alloc | apply pw_below_drewN | apply below_drew1 | refine below_set ?_ GE587.out) | exact HB.out)⟩⟩
                                case round =>
                                  clear H'
                                  try clear c1
                                  try clear c2
                                  try clear p2
                                  try clear c3
                                  try clear q3
                                  try clear c5
                                  try clear c5b0
                                  try clear c5b1
                                  try clear p5
                                  try clear q5
                                  try clear hx5
                                  try clear p6
                                  try clear c8
                                  try clear c8b0
                                  try clear c8b1
                                  try clear c11
                                  try clear c14
                                  try clear c14b0
                                  try clear c14b1
                                  try clear c15
                                  try clear c15b0
                                  try clear c17
                                  try clear c17b0
                                  try clear c17b1
                                  try clear c17b2
                                  try clear c18
                                  try clear c21
                                  try clear c22
                                  try clear c24
                                  try clear c27
                                  try clear c27b0
                                  try clear c28
                                  try clear c28b0
                                  try clear c29
                                  try clear c29b0
                                  try clear c31
                                  try clear c31b0
                                  try clear c31b1
                                  try clear c36
                                  try clear c37
                                  try clear c37b0
                                  try clear c37b1
                                  try clear c38
                                  try clear c38b0
                                  try clear c38b1
                                  try clear c39
                                  try clear q39
                                  try clear hcz34_0
                                  try clear hcz34_1
                                  try clear hfz34_0
                                  try clear hfz34_1
                                  try clear hx586_0
                                  try clear hx586_1
                                  try clear p2
                                  try clear p5
                                  try clear p586
                                  try clear p6
                                  try clear q39
                                  try clear q5
                                  try clear q586
                                  obtain ⟨x111_4, rfl, HA, HK4, HO_8, HO_15, HO_87, BK587, HR593, HB⟩ := hrel
                                  cases gk with
                                  | zero => exact absurd HA.out (by simp [medlarlaw10_WholeCovers.l1])
                                  | succ k4 =>
                                    have H := HA.out
                                    clear HA
                                    simp only [medlarlaw10_WholeCovers.l1] at H
                                    by_cases c40 : x111_4 < (y590.length : Int)
                                    · rw [if_pos c40] at H
                                      have c40b0 : decide (x111_4 < (y590.length : Int)) = true := decide_eq_true c40
                                      clear c40
                                      by_cases c41 : 0 ≤ x111_4
                                      · rw [if_pos c41] at H
                                        have c41b0 : decide (0 ≤ x111_4) = true := decide_eq_true c41
                                        clear c41
                                        by_cases c42 : x111_4 < (y590.length : Int)
                                        · rw [if_pos c42] at H
                                          have c42b0 : decide (x111_4 < (y590.length : Int)) = true := decide_eq_true c42
                                          clear c42
                                          replace H := Option.bind_eq_some_iff.mp H
                                          obtain ⟨⟨t596, t597⟩, A430, H⟩ := H
                                          replace H : (if t597 = 0 then (if t596 = true then (some false) else (medlarlaw10_WholeCovers.l1 k4 a0 l1 a2 t573 t574 x12_31 t584 t585 x15_2 t574 (t574.length : Int) x89_2 y590 (y590.length : Int) (wrap64 (x111_4 + 1)) ((rd_T43 t574 x89_2).f0) ((rd_T43 t574 x89_2).f1))) else (some false)) = some r := H
                                          have A43 := Aside0.mk A430
                                          clear A430
                                          by_cases c44 : t597 = 0
                                          · rw [if_pos c44] at H
                                            have c44b0 : (t597 == 0) = true := beq_iff_eq.mpr c44
                                            have c44b1 : (t597 != 0) = false := bne_eq_false_iff_eq.mpr c44
                                            clear c44
                                            by_cases c45 : t596 = true
                                            · subst c45
                                              have H1 : (some false) = some r := by rw [if_pos rfl] at H; exact H
                                              clear H
                                              have H := H1
                                              clear H1
                                              exact absurd ((Option.some.inj H).trans hT.out) Bool.false_ne_true
                                            · replace c45 := Bool.eq_false_iff.mpr c45
                                              subst c45
                                              have H1 : (medlarlaw10_WholeCovers.l1 k4 a0 l1 a2 t573 t574 x12_31 t584 t585 x15_2 t574 (t574.length : Int) x89_2 y590 (y590.length : Int) (wrap64 (x111_4 + 1)) ((rd_T43 t574 x89_2).f0) ((rd_T43 t574 x89_2).f1)) = some r := by rw [if_neg (show ¬ (false = true) by decide)] at H; exact H
                                              clear H
                                              have H := H1
                                              clear H1
                                              have H' := Aside0.mk H
                                              clear H
                                              have p594 : 0 ≤ (x111_4 : Int) := of_decide_eq_true (by first | (with_reducible assumption) | assumption)
                                              have q594 : x111_4 < (y590.length : Int) := of_decide_eq_true (by first | (with_reducible assumption) | assumption)
                                              obtain ⟨ad594, e594, hx594_0, hx594_1⟩ := at_T43 HR593.out x111_4 p594 q594
                                              obtain rfl : ad586 = ad594 := (by injection e594)
                                              replace p594 := eq_true p594
                                              replace q594 := eq_true q594
                                              go_wp2_with (first | ((with_reducible refine gate_dst (N := 21) rfl ?_); (try (refine gate_guard (by rfl) ?_; dsimp only)); refine box_event ?hg (N := 21) ?hd (cs := #[.int .u64 0, .int .u64 0]) (t := 43) ?hr ?_; (case hd => rfl); (case hg => rfl); (case hr => first | (go_simp; done) | (go_simp; rfl)); intro gb595 hg w46 hbox hb; have n0_ := Aside0.mk (Kd.R_below (Kd.R_elderB (by (with_reducible repeat (first | apply Kd.R_alloc | apply Kd.R_drewN | apply Kd.R_drew)); exact HO_8.out) gb595 (Nat.le_of_eq hg.symm)) hb); have n1_ := Aside0.mk (Kd.R_below (by (with_reducible repeat (first | apply Kd.R_alloc | apply Kd.R_drewN | apply Kd.R_drew)); exact HO_15.out) hb); have n2_ := Aside0.mk (Kd.R_below (Kd.R_elderB (by (with_reducible repeat (first | apply Kd.R_alloc | apply Kd.R_drewN | apply Kd.R_drew)); exact HO_87.out) gb595 (Nat.le_of_eq hg.symm)) hb); have n3_ := Aside0.mk (blk_below (g := gb587) (o := .cells #[.int .u64 ((rd_T43 t574 x89_2).f0), .int .u64 ((rd_T43 t574 x89_2).f1)] 43 (0, 0)) (by (with_reducible repeat (first | refine blk_drewN ?_ _ | refine blk_drew ?_ | refine blk_alloc ?_ _)); exact BK587.out) hb); have n4_ := Aside0.mk (Kd.C_below (by repeat (first | (with_reducible exact HR593.out) | (with_reducible refine Kd.C_alloc ?_ _) | (with_reducible refine Kd.C_drewN ?_ _) | (with_reducible refine Kd.C_drew ?_) | exact HR593.out)) hb); have n5_ := Aside0.mk (below_step (by repeat (first | (with_reducible first | exact HB.out | apply below_alloc | apply pw_below_drewN | apply below_drew1 | refine below_set ?_ GE587.out) | exact HB.out)) hb); have n6_ := Aside0.mk (hbox); have n7_ := Aside0.mk ((by rw [hg]; exact (below_size (by repeat (first | (with_reducible first | exact HB.out | apply below_alloc | apply pw_below_drewN | apply below_drew1 | refine below_set ?_ GE587.out) | exact HB.out))) : w.heap.size ≤ gb595)); have n8_ := Aside0.mk ((by rw [hg]; exact (below_size (by repeat (first | (with_reducible first | exact HB.out | apply below_alloc | apply pw_below_drewN | apply below_drew1 | refine below_set ?_ GE587.out) | exact HB.out))) : w.heap.size ≤ gb595)); have n9_ := Aside0.mk ((by rw [hg]; exact Nat.ne_of_lt (blk_lt (g := gb587) (o := .cells #[.int .u64 ((rd_T43 t574 x89_2).f0), .int .u64 ((rd_T43 t574 x89_2).f1)] 43 (0, 0)) (by (with_reducible repeat (first | refine blk_drewN ?_ _ | refine blk_drew ?_ | refine blk_alloc ?_ _)); exact BK587.out)) : gb587 ≠ gb595)); have n10_ := Aside0.mk ((by rw [hg]; exact Nat.ne_of_gt (blk_lt (g := gb587) (o := .cells #[.int .u64 ((rd_T43 t574 x89_2).f0), .int .u64 ((rd_T43 t574 x89_2).f1)] 43 (0, 0)) (by (with_reducible repeat (first | refine blk_drewN ?_ _ | refine blk_drew ?_ | refine blk_alloc ?_ _)); exact BK587.out)) : gb595 ≠ gb587)); clear HO_8; clear HO_15; clear HO_87; clear BK587; clear HR593; clear HB; have HO_8 := n0_; have HO_15 := n1_; have HO_87 := n2_; have BK587 := n3_; have HR593 := n4_; have HB := n5_; have BK595 := n6_; have GW595 := n7_; have GE595 := n8_; have NB587_595 := n9_; have NB595_587 := n10_; clear n0_ n1_ n2_ n3_ n4_ n5_ n6_ n7_ n8_ n9_ n10_; clear hb hbox hg; have hnb47 := NB595_587.out; have hnc47 := NB587_595.out; have hcz48_0 : w46.cell? ⟨gb595, 0, none⟩ = some (.int .u64 0) := (blk_cell BK595.out 0).trans rfl; have hcz48_1 : w46.cell? ⟨gb595, 1, none⟩ = some (.int .u64 0) := (blk_cell BK595.out 1).trans rfl; have hfz48_0 := blk_frozen BK595.out 0; have hfz48_1 := blk_frozen BK595.out 1; have hcz49_0 : w46.cell? ⟨gb587, 0, none⟩ = some (.int .u64 ((rd_T43 t574 x89_2).f0)) := (blk_cell BK587.out 0).trans rfl; have hcz49_1 : w46.cell? ⟨gb587, 1, none⟩ = some (.int .u64 ((rd_T43 t574 x89_2).f1)) := (blk_cell BK587.out 1).trans rfl; have hfz49_0 := blk_frozen BK587.out 0; have hfz49_1 := blk_frozen BK587.out 1) | ((with_reducible refine gate_callee (f := 40) rfl ?_); refine goesL_ (some 119) rfl rfl Try.func40 (by kernel_rfl) rfl #[.int .i64 a0, .agg #[.int .u64 ((rd_T43 t574 x89_2).f0), .int .u64 ((rd_T43 t574 x89_2).f1)], .agg #[.int .u64 ((rd_T43 y590 x111_4).f0), .int .u64 ((rd_T43 y590 x111_4).f1)]] rfl (by (try simp only [List.map_toArray, List.map_cons, List.map_nil]); first | done | rfl | (simp only [List.length_drop, List.length_take]; rfl)) ?_; (with_reducible refine (sub_Touch.calls k4 a0 ((rd_T43 t574 x89_2).f0) ((rd_T43 t574 x89_2).f1) ((rd_T43 y590 x111_4).f0) ((rd_T43 y590 x111_4).f1) false t597 _ A43.out).mono ?_); rintro e w50 ⟨rfl, hb⟩; refine ⟨_, rfl, ?_⟩; have n0_ := Aside0.mk (Kd.R_below (by (with_reducible repeat (first | apply Kd.R_alloc | apply Kd.R_drewN | apply Kd.R_drew)); exact (Kd.R_mono (Kd.R_far (p := ⟨gb595, 1, none⟩) (Kd.R_far (p := ⟨gb595, 0, none⟩) (Kd.R_mono HO_8.out (fun k_ hk => (⟨hk, hk.2⟩ : _ ∧ k_ ≠ gb595))) (fun _ hk => hk.2) (.int .u64 ((rd_T43 y590 x111_4).f0))) (fun _ hk => hk.2) (.int .u64 ((rd_T43 y590 x111_4).f1))) (fun _ h_ => h_.1))) hb); have n1_ := Aside0.mk (Kd.R_below (by (with_reducible repeat (first | apply Kd.R_alloc | apply Kd.R_drewN | apply Kd.R_drew)); exact (Kd.R_mono (Kd.R_far (p := ⟨gb595, 1, none⟩) (Kd.R_far (p := ⟨gb595, 0, none⟩) (Kd.R_types HO_15.out BK595.out (by decide)) (fun _ hk => hk.2) (.int .u64 ((rd_T43 y590 x111_4).f0))) (fun _ hk => hk.2) (.int .u64 ((rd_T43 y590 x111_4).f1))) (fun _ h_ => h_.1))) hb); have n2_ := Aside0.mk (Kd.R_below (by (with_reducible repeat (first | apply Kd.R_alloc | apply Kd.R_drewN | apply Kd.R_drew)); exact (Kd.R_mono (Kd.R_far (p := ⟨gb595, 1, none⟩) (Kd.R_far (p := ⟨gb595, 0, none⟩) (Kd.R_mono HO_87.out (fun k_ hk => (⟨hk, hk.2⟩ : _ ∧ k_ ≠ gb595))) (fun _ hk => hk.2) (.int .u64 ((rd_T43 y590 x111_4).f0))) (fun _ hk => hk.2) (.int .u64 ((rd_T43 y590 x111_4).f1))) (fun _ h_ => h_.1))) hb); have n3_ := Aside0.mk (blk_below (g := gb587) (o := .cells #[.int .u64 ((rd_T43 t574 x89_2).f0), .int .u64 ((rd_T43 t574 x89_2).f1)] 43 (0, 0)) (by (with_reducible repeat (first | refine blk_drewN ?_ _ | refine blk_drew ?_ | refine blk_alloc ?_ _)); refine blk_far ?_ NB587_595.out _; (with_reducible repeat (first | refine blk_drewN ?_ _ | refine blk_drew ?_ | refine blk_alloc ?_ _)); refine blk_far ?_ NB587_595.out _; (with_reducible repeat (first | refine blk_drewN ?_ _ | refine blk_drew ?_ | refine blk_alloc ?_ _)); exact BK587.out) hb); have n4_ := Aside0.mk (Kd.C_below ((show Kd.C k43 _ (some ad586) y590.length y590 from by exact Kd.C_same Ny590.out (Kd.C_take (m := (x89_2 : Int).toNat) ((Kd.R_reads' (by (with_reducible repeat (first | apply Kd.R_alloc | apply Kd.R_drewN | apply Kd.R_drew)); exact (Kd.R_mono (Kd.R_far (p := ⟨gb595, 1, none⟩) (Kd.R_far (p := ⟨gb595, 0, none⟩) (Kd.R_mono HO_8.out (fun k_ hk => (⟨hk, hk.2⟩ : _ ∧ k_ ≠ gb595))) (fun _ hk => hk.2) (.int .u64 ((rd_T43 y590 x111_4).f0))) (fun _ hk => hk.2) (.int .u64 ((rd_T43 y590 x111_4).f1))) (fun _ h_ => h_.1)))).2.2) KL39.out))) hb); have n5_ := Aside0.mk (blk_below (g := gb595) (o := .cells #[.int .u64 ((rd_T43 y590 x111_4).f0), .int .u64 ((rd_T43 y590 x111_4).f1)] 43 (0, 0)) (by (with_reducible repeat (first | refine blk_drewN ?_ _ | refine blk_drew ?_ | refine blk_alloc ?_ _)); refine blk_put (cs := #[.int .u64 ((rd_T43 y590 x111_4).f0), .int .u64 0]) ?_ 1 _ rfl; (with_reducible repeat (first | refine blk_drewN ?_ _ | refine blk_drew ?_ | refine blk_alloc ?_ _)); refine blk_put (cs := #[.int .u64 0, .int .u64 0]) ?_ 0 _ rfl; (with_reducible repeat (first | refine blk_drewN ?_ _ | refine blk_drew ?_ | refine blk_alloc ?_ _)); exact BK595.out) hb); have n6_ := Aside0.mk (below_step (by repeat (first | (with_reducible first | exact HB.out | apply below_alloc | apply pw_below_drewN | apply below_drew1 | refine below_set ?_ GE587.out | refine below_set ?_ GE595.out) | exact HB.out)) hb); clear HO_8; clear HO_15; clear HO_87; clear BK587; clear HR593; clear BK595; clear HB; have HO_8 := n0_; have HO_15 := n1_; have HO_87 := n2_; have BK587 := n3_; have HR593 := n4_; have BK595 := n5_; have HB := n6_; clear n0_ n1_ n2_ n3_ n4_ n5_ n6_; (try clear hb); (try clear hb2); (try clear hk); (try clear hi)))
                                              go_roundg k4
                                              case measure => have := HJ9.out; have := HK2.out; have := HJ31.out; have := HK4.out; omega
                                              case rel => exact ⟨(wrap64 (x111_4 + 1)), (by first | rfl | (simp; done) | (simp [*]; done)), H', ⟨by have := HJ9.out; have := HK2.out; have := HJ31.out; have := HK4.out; omega⟩, ⟨by (with_reducible repeat (first | apply Kd.R_alloc | apply Kd.R_drewN | apply Kd.R_drew)); exact Kd.R_mono HO_8.out (fun _ hk => hk.1)⟩, ⟨by (with_reducible repeat (first | apply Kd.R_alloc | apply Kd.R_drewN | apply Kd.R_drew)); exact HO_15.out⟩, ⟨by (with_reducible repeat (first | apply Kd.R_alloc | apply Kd.R_drewN | apply Kd.R_drew)); exact Kd.R_mono HO_87.out (fun _ hk => hk.1)⟩, ⟨by (with_reducible repeat (first | refine blk_drewN ?_ _ | refine blk_drew ?_ | refine blk_alloc ?_ _)); exact BK587.out⟩, ⟨by repeat (first | (with_reducible exact HR593.out) | (with_reducible refine Kd.C_alloc ?_ _) | (with_reducible refine Kd.C_drewN ?_ _) | (with_reducible refine Kd.C_drew ?_) | exact HR593.out)⟩, ⟨by repeat (first | (with_reducible first | exact HB.out | apply below_alloc | apply pw_below_drewN | apply below_drew1 | refine below_set ?_ GE587.out | refine below_set ?_ GE595.out) | exact HB.out)⟩⟩
                                          · rw [if_neg c44] at H
                                            have c44b0 : (t597 == 0) = false := beq_eq_false_iff_ne.mpr c44
                                            have c44b1 : (t597 != 0) = true := bne_iff_ne.mpr c44
                                            exact absurd ((Option.some.inj H).trans hT.out) Bool.false_ne_true
                                        · rw [if_neg c42] at H
                                          exact absurd H (by simp)
                                      · rw [if_neg c41] at H
                                        exact absurd H (by simp)
                                    · rw [if_neg c40] at H
                                      have c40b0 : decide (x111_4 < (y590.length : Int)) = false := decide_eq_false c40
                                      clear c40
                                      replace H := Option.bind_eq_some_iff.mp H
                                      obtain ⟨⟨t598, t601⟩, A510, H⟩ := H
                                      replace H : (if t601 = 0 then (if (t598.length : Int) = 1 then (if ((rd_T43 t574 x89_2).f1) = 0 then (if x15_2.length + t598.length < 8796093022208 then (medlarlaw10_WholeCovers.l0 k4 a0 l1 a2 t573 t574 x12_31 t584 t585 (x15_2 ++ t598) t574 (t574.length : Int) (wrap64 (x89_2 + 1))) else (none)) else (some false)) else (some false)) else (some false)) = some r := H
                                      have A51 := Aside0.mk A510
                                      clear A510
                                      by_cases c52 : t601 = 0
                                      · rw [if_pos c52] at H
                                        have c52b0 : (t601 == 0) = true := beq_iff_eq.mpr c52
                                        have c52b1 : (t601 != 0) = false := bne_eq_false_iff_eq.mpr c52
                                        clear c52
                                        by_cases c53 : (t598.length : Int) = 1
                                        · rw [if_pos c53] at H
                                          have c53b0 : ((t598.length : Int) == 1) = true := beq_iff_eq.mpr c53
                                          have c53b1 : ((t598.length : Int) != 1) = false := bne_eq_false_iff_eq.mpr c53
                                          clear c53
                                          by_cases c54 : ((rd_T43 t574 x89_2).f1) = 0
                                          · rw [if_pos c54] at H
                                            have c54b0 : (((rd_T43 t574 x89_2).f1) == 0) = true := beq_iff_eq.mpr c54
                                            have c54b1 : (((rd_T43 t574 x89_2).f1) != 0) = false := bne_eq_false_iff_eq.mpr c54
                                            clear c54
                                            by_cases c55 : x15_2.length + t598.length < 8796093022208
                                            · rw [if_pos c55] at H
                                              have LMc55 := Aside0.mk c55
                                              clear c55
                                              obtain ⟨y602, hy602⟩ : ∃ y_ : List (S34), y_ = (x15_2 ++ t598) := ⟨_, rfl⟩
                                              replace H : (medlarlaw10_WholeCovers.l0 k4 a0 l1 a2 t573 t574 x12_31 t584 t585 y602 t574 (t574.length : Int) (wrap64 (x89_2 + 1))) = some r := by first | (rw [hy602]; with_reducible exact H) | (have H2_ := (Option.bind_some _ _).symm.trans H; rw [hy602]; with_reducible exact H2_) | (have H2_ := (Option.bind_some _ _).symm.trans H; with_reducible exact H2_) | with_reducible exact H | (rw [hy602]; exact H) | exact H
                                              have Ny602 := Aside0.mk hy602
                                              clear hy602
                                              have H' := Aside0.mk H
                                              clear H
                                              have hcz56_0 : wr.cell? ⟨gb587, 0, none⟩ = some (.int .u64 ((rd_T43 t574 x89_2).f0)) := (blk_cell BK587.out 0).trans rfl
                                              have hcz56_1 : wr.cell? ⟨gb587, 1, none⟩ = some (.int .u64 ((rd_T43 t574 x89_2).f1)) := (blk_cell BK587.out 1).trans rfl
                                              have hfz56_0 := blk_frozen BK587.out 0
                                              have hfz56_1 := blk_frozen BK587.out 1
                                              go_wp2_with (first | ((with_reducible refine gate_callee (f := 41) rfl ?_); refine goesL_ (some 131) rfl rfl Try.func41 (by kernel_rfl) rfl #[.int .i64 a0, .agg #[.int .u64 ((rd_T43 t574 x89_2).f0), .int .u64 ((rd_T43 t574 x89_2).f1)]] rfl (by (try simp only [List.map_toArray, List.map_cons, List.map_nil]); first | done | rfl | (simp only [List.length_drop, List.length_take]; rfl)) ?_; (with_reducible refine (sub_Leaves.calls k4 a0 ((rd_T43 t574 x89_2).f0) ((rd_T43 t574 x89_2).f1) t598 t601 _ A51.out).mono ?_); rintro e w57 ⟨v599, rfl, ho0, hb⟩; refine ⟨_, rfl, ?_⟩; have n0_ := Aside0.mk (Kd.R_below (by (with_reducible repeat (first | apply Kd.R_alloc | apply Kd.R_drewN | apply Kd.R_drew)); exact HO_8.out) hb); have n1_ := Aside0.mk (Kd.R_elder' (by (with_reducible repeat (first | apply Kd.R_alloc | apply Kd.R_drewN | apply Kd.R_drew)); exact HO_15.out) (Kd.R_base ho0) hb); have n2_ := Aside0.mk (Kd.R_below (by (with_reducible repeat (first | apply Kd.R_alloc | apply Kd.R_drewN | apply Kd.R_drew)); exact HO_87.out) hb); have n3_ := Aside0.mk (Kd.R_lower (Kd.R_new' ho0 (Kd.R_lt (by (with_reducible repeat (first | apply Kd.R_alloc | apply Kd.R_drewN | apply Kd.R_drew)); exact HO_15.out))) (below_size (by repeat (first | (with_reducible first | exact HB.out | apply below_alloc | apply pw_below_drewN | apply below_drew1 | refine below_set ?_ GE587.out) | exact HB.out)))); have n4_ := Aside0.mk (blk_below (g := gb587) (o := .cells #[.int .u64 ((rd_T43 t574 x89_2).f0), .int .u64 ((rd_T43 t574 x89_2).f1)] 43 (0, 0)) (by (with_reducible repeat (first | refine blk_drewN ?_ _ | refine blk_drew ?_ | refine blk_alloc ?_ _)); exact BK587.out) hb); have n5_ := Aside0.mk (Kd.C_below (by repeat (first | (with_reducible exact HR593.out) | (with_reducible refine Kd.C_alloc ?_ _) | (with_reducible refine Kd.C_drewN ?_ _) | (with_reducible refine Kd.C_drew ?_) | exact HR593.out)) hb); have n6_ := Aside0.mk (below_step (by repeat (first | (with_reducible first | exact HB.out | apply below_alloc | apply pw_below_drewN | apply below_drew1 | refine below_set ?_ GE587.out) | exact HB.out)) hb); clear HO_8; clear HO_15; clear HO_87; clear BK587; clear HR593; clear HB; have HO_8 := n0_; have HO_15 := n1_; have HO_87 := n2_; have HO600 := n3_; have BK587 := n4_; have HR593 := n5_; have HB := n6_; clear n0_ n1_ n2_ n3_ n4_ n5_ n6_; (try clear hb); (try clear hb2); (try clear hk); (try clear hi); (try clear ho0); obtain ⟨Ao58, co58, eo58⟩ := Kd.R_slice HO600.out; subst eo58; have hcz59_0 : w57.cell? ⟨gb587, 0, none⟩ = some (.int .u64 ((rd_T43 t574 x89_2).f0)) := (blk_cell BK587.out 0).trans rfl; have hcz59_1 : w57.cell? ⟨gb587, 1, none⟩ = some (.int .u64 ((rd_T43 t574 x89_2).f1)) := (blk_cell BK587.out 1).trans rfl; have hfz59_0 := blk_frozen BK587.out 0; have hfz59_1 := blk_frozen BK587.out 1) | ((with_reducible refine gate_builtin (b := .append) (xs := #[.tmp 146, .tmp 147]) rfl ?_); (try (refine gate_guard (by rfl) ?_; dsimp only)); at_builtin; refine Kd.R_append_rows k34 (w0 := w) w.heap.size rfl (.tmp 146) (.tmp 147) 56 34 (.agg #[(.int .u64 0), (.int .u64 0)]) 16 rfl Try.underlying56 info34 rfl (by decide) (by omega) u15 x15_2 t598 _ _ _ (fun k_ => some k_ ≠ (.slice Ao58 t598.length co58 : Value).ownBlock) (fun _ => False) rfl rfl ?aO ?aR (fun _ _ h => h) (fun _ h => h.elim) ?aF ?aB ?aS ?aL ?_; (case aR => repeat (first | exact (Kd.R_reads' HO600.out).2.2 | (with_reducible refine Kd.C_alloc ?_ _) | (with_reducible refine Kd.C_drewN ?_ _) | (with_reducible refine Kd.C_drew ?_))); (case aB => exact (by repeat (first | (with_reducible first | exact HB.out | apply below_alloc | apply pw_below_drewN | apply below_drew1 | refine below_set ?_ GE587.out) | exact HB.out))); (case aF => exact (fun k_ hk => Kd.fresh' (Kd.R_lt (by (with_reducible repeat (first | apply Kd.R_alloc | apply Kd.R_drewN | apply Kd.R_drew)); exact HO600.out)) k_ hk)); (case aO => exact (by (with_reducible repeat (first | apply Kd.R_alloc | apply Kd.R_drewN | apply Kd.R_drew)); exact Kd.R_mono HO_15.out (fun _ hk => hk.2))); (case aS => exact (below_size (by repeat (first | (with_reducible first | exact HB.out | apply below_alloc | apply pw_below_drewN | apply below_drew1 | refine below_set ?_ GE587.out) | exact HB.out)))); (case aL => have := LMc55.out; omega); intro v603 w60 ho hb hg hat; rw [← Ny602.out] at ho; have n0_ := Aside0.mk (Kd.R_over' (by (with_reducible repeat (first | apply Kd.R_alloc | apply Kd.R_drewN | apply Kd.R_drew)); exact HO_8.out) (Kd.R_typed (by (with_reducible repeat (first | apply Kd.R_alloc | apply Kd.R_drewN | apply Kd.R_drew)); exact HO_15.out)) (by decide) hg); have n1_ := Aside0.mk (Kd.R_over' (by (with_reducible repeat (first | apply Kd.R_alloc | apply Kd.R_drewN | apply Kd.R_drew)); exact HO_87.out) (Kd.R_typed (by (with_reducible repeat (first | apply Kd.R_alloc | apply Kd.R_drewN | apply Kd.R_drew)); exact HO_15.out)) (by decide) hg); have n2_ := Aside0.mk (blk_grown (g := gb587) (o := .cells #[.int .u64 ((rd_T43 t574 x89_2).f0), .int .u64 ((rd_T43 t574 x89_2).f1)] 43 (0, 0)) (by (with_reducible repeat (first | refine blk_drewN ?_ _ | refine blk_drew ?_ | refine blk_alloc ?_ _)); exact BK587.out) hg (Kd.R_ne HO_15.out BK587.out (by decide))); have n3_ := Aside0.mk (Kd.R_after (ok := (fun _ => True)) (by (with_reducible repeat (first | apply Kd.R_alloc | apply Kd.R_drewN | apply Kd.R_drew)); exact HO600.out) hg hat); have n4_ := Aside0.mk (hb); have n5_ := Aside0.mk ((show Kd.C k43 w60 (some ad586) y590.length y590 from by rw [Ny590.out]; exact Kd.C_take (m := (x89_2 : Int).toNat) ((Kd.R_reads' (Kd.R_over' (by (with_reducible repeat (first | apply Kd.R_alloc | apply Kd.R_drewN | apply Kd.R_drew)); exact HO_8.out) (Kd.R_typed (by (with_reducible repeat (first | apply Kd.R_alloc | apply Kd.R_drewN | apply Kd.R_drew)); exact HO_15.out)) (by decide) hg)).2.2) KL39.out)); have n6_ := Aside0.mk (ho); clear HO_8; clear HO_87; clear BK587; clear HO600; clear HB; clear HR593; clear HO_15; have HO_8 := n0_; have HO_87 := n1_; have BK587 := n2_; have HO600 := n3_; have HB := n4_; have HR593 := n5_; have HO604 := n6_; clear n0_ n1_ n2_ n3_ n4_ n5_ n6_; clear ho hb hg hat))
                                              go_roundg k4
                                              case measure => have := HJ9.out; have := HK2.out; have := HJ31.out; have := HK4.out; omega
                                              case rel => exact ⟨(x12_31), (y602), (wrap64 (x89_2 + 1)), (by first | rfl | (simp; done) | (simp [*]; done)), (by first | rfl | (simp; done) | (simp [*]; done)), H', ⟨by have := HJ9.out; have := HK2.out; have := HJ31.out; have := HK4.out; omega⟩, ⟨by (with_reducible repeat (first | apply Kd.R_alloc | apply Kd.R_drewN | apply Kd.R_drew)); exact Kd.R_mono HO_8.out (fun _ hk => trivial)⟩, ⟨by (with_reducible repeat (first | apply Kd.R_alloc | apply Kd.R_drewN | apply Kd.R_drew)); exact Kd.R_mono HO604.out (fun _ hk => trivial)⟩, ⟨by (with_reducible repeat (first | apply Kd.R_alloc | apply Kd.R_drewN | apply Kd.R_drew)); exact Kd.R_mono HO_87.out (fun _ hk => trivial)⟩, ⟨by repeat (first | (with_reducible first | exact HB.out | apply below_alloc | apply pw_below_drewN | apply below_drew1 | refine below_set ?_ GE587.out) | exact HB.out)⟩⟩
                                            · rw [if_neg c55] at H
                                              exact absurd H (by simp)
                                          · rw [if_neg c54] at H
                                            have c54b0 : (((rd_T43 t574 x89_2).f1) == 0) = false := beq_eq_false_iff_ne.mpr c54
                                            have c54b1 : (((rd_T43 t574 x89_2).f1) != 0) = true := bne_iff_ne.mpr c54
                                            exact absurd ((Option.some.inj H).trans hT.out) Bool.false_ne_true
                                        · rw [if_neg c53] at H
                                          have c53b0 : ((t598.length : Int) == 1) = false := beq_eq_false_iff_ne.mpr c53
                                          have c53b1 : ((t598.length : Int) != 1) = true := bne_iff_ne.mpr c53
                                          exact absurd ((Option.some.inj H).trans hT.out) Bool.false_ne_true
                                      · rw [if_neg c52] at H
                                        have c52b0 : (t601 == 0) = false := beq_eq_false_iff_ne.mpr c52
                                        have c52b1 : (t601 != 0) = true := bne_iff_ne.mpr c52
                                        exact absurd ((Option.some.inj H).trans hT.out) Bool.false_ne_true
                              · rw [if_neg c38] at H
                                exact absurd H (by simp)
                            · rw [if_neg c37] at H
                              exact absurd H (by simp)
                      · rw [if_neg c31] at H
                        have c31b0 : (t589 == t585) = false := beq_eq_false_iff_ne.mpr c31
                        have c31b1 : (t589 != t585) = true := bne_iff_ne.mpr c31
                        exact absurd ((Option.some.inj H).trans hT.out) Bool.false_ne_true
                    · rw [if_neg c29] at H
                      exact absurd H (by simp)
                  · rw [if_neg c28] at H
                    exact absurd H (by simp)
                · rw [if_neg c27] at H
                  have c27b0 : decide (x89_2 < (t574.length : Int)) = false := decide_eq_false c27
                  clear c27
                  have HC61 := Aside0.mk H
                  clear H
                  go_upto_region 33 with (fail)
                  go_cut [162] (fun v162 wc => ∃ (kq : Nat) (x162_60 : Bool), v162 = .bool x162_60 ∧ Aside0 (medlarlaw10_WholeCovers.j4 kq a0 l1 t573 x15_2 x162_60 = some r) ∧ Aside0 (kq ≤ k2) ∧ Aside0 (Kd.R k34 34 wc w.heap.size (fun _ => True) u15 x15_2) ∧ Aside0 (Below w.heap.size w wc))
                  case first =>
                    have H := HC61.out
                    clear HC61
                    by_cases c62 : t585 = 0
                    · rw [if_pos c62] at H
                      have c62b0 : (t585 == 0) = true := beq_iff_eq.mpr c62
                      have c62b1 : (t585 != 0) = false := bne_eq_false_iff_eq.mpr c62
                      clear c62
                      (first | rw [c62b0] | (simp only [i64_w, i32_w]; rw [c62b0]) | skip)
                      by_cases c63 : ((x12_2 == 1) != (!t584)) = true
                      · rw [if_pos c63] at H
                        have c63b0 : ((x12_2 == 1) != (!t584)) = true := c63
                        (try (have c63b1 : decide ((x12_2 == 1) = (!t584)) = false := by simpa using c63))
                        (try (have c63b2 : ((x12_2 == 1) == (!t584)) = false := by simpa using c63))
                        (try (have c63b3 : ¬ ((x12_2 == 1) = (!t584)) := by simpa using c63))
                        clear c63
                        have H' := Aside0.mk H
                        clear H
                        go_wp2
                        go_meet
                        case rel => exact ⟨_, (true), (by first | rfl | (simp; done) | (simp [*]; done)), H', ⟨by have := HJ9.out; have := HK2.out; first | omega | exact Nat.le_refl _⟩, ⟨by (with_reducible repeat (first | apply Kd.R_alloc | apply Kd.R_drewN | apply Kd.R_drew)); exact HO_15.out⟩, ⟨by repeat (first | (with_reducible first | exact HB.out | apply below_alloc | apply pw_below_drewN | apply below_drew1) | exact HB.out)⟩⟩
                      · rw [if_neg c63] at H
                        have c63b0 : ((x12_2 == 1) != (!t584)) = false := by simpa using c63
                        have c63b4 := (show ∀ a b : Bool, (a != b) = false → a = b by decide) _ _ c63b0
                        (try (have c63b1 : decide ((x12_2 == 1) = (!t584)) = true := by simpa using c63))
                        (try (have c63b2 : ((x12_2 == 1) == (!t584)) = true := by simpa using c63))
                        clear c63
                        have H' := Aside0.mk H
                        clear H
                        go_wp2
                        go_meet
                        case rel => exact ⟨_, (decide (x12_2 > 1)), (by first | rfl | (simp; done) | (simp [*]; done)), H', ⟨by have := HJ9.out; have := HK2.out; first | omega | exact Nat.le_refl _⟩, ⟨by (with_reducible repeat (first | apply Kd.R_alloc | apply Kd.R_drewN | apply Kd.R_drew)); exact HO_15.out⟩, ⟨by repeat (first | (with_reducible first | exact HB.out | apply below_alloc | apply pw_below_drewN | apply below_drew1) | exact HB.out)⟩⟩
                    · rw [if_neg c62] at H
                      have c62b0 : (t585 == 0) = false := beq_eq_false_iff_ne.mpr c62
                      have c62b1 : (t585 != 0) = true := bne_iff_ne.mpr c62
                      (first | rw [c62b0] | (simp only [i64_w, i32_w]; rw [c62b0]) | skip)
                      have H' := Aside0.mk H
                      clear H
                      go_wp2
                      go_meet
                      case rel => exact ⟨_, (decide (x12_2 > 1)), (by first | rfl | (simp; done) | (simp [*]; done)), H', ⟨by have := HJ9.out; have := HK2.out; first | omega | exact Nat.le_refl _⟩, ⟨by (with_reducible repeat (first | apply Kd.R_alloc | apply Kd.R_drewN | apply Kd.R_drew)); exact HO_15.out⟩, ⟨by repeat (first | (with_reducible first | exact HB.out | apply below_alloc | apply pw_below_drewN | apply below_drew1) | exact HB.out)⟩⟩
                  case rest =>
                    clear HC61
                    try clear c1
                    try clear c2
                    try clear p2
                    try clear c3
                    try clear q3
                    try clear c4
                    try clear c5
                    try clear c5b0
                    try clear c5b1
                    try clear p5
                    try clear q5
                    try clear hx5
                    try clear c6
                    try clear p6
                    try clear c8
                    try clear c8b0
                    try clear c8b1
                    try clear c11
                    try clear c14
                    try clear c14b0
                    try clear c14b1
                    try clear c15
                    try clear c15b0
                    try clear c17
                    try clear c17b0
                    try clear c17b1
                    try clear c17b2
                    try clear c18
                    try clear c21
                    try clear c22
                    try clear c24
                    try clear c27
                    try clear c27b0
                    try clear c28
                    try clear c28b0
                    try clear c29
                    try clear c29b0
                    try clear c31
                    try clear c31b0
                    try clear c31b1
                    try clear c36
                    try clear c37
                    try clear c37b0
                    try clear c37b1
                    try clear c38
                    try clear c38b0
                    try clear c38b1
                    try clear c39
                    try clear q39
                    try clear c40
                    try clear c40b0
                    try clear c41
                    try clear c41b0
                    try clear c42
                    try clear c42b0
                    try clear c44
                    try clear c44b0
                    try clear c44b1
                    try clear c45
                    try clear c47
                    try clear c52
                    try clear c52b0
                    try clear c52b1
                    try clear c53
                    try clear c53b0
                    try clear c53b1
                    try clear c54
                    try clear c54b0
                    try clear c54b1
                    try clear c55
                    try clear p58
                    try clear q58
                    try clear hx58
                    try clear p59
                    try clear q59
                    try clear hx59
                    try clear c62
                    try clear c62b0
                    try clear c62b1
                    try clear c63
                    try clear c63b0
                    try clear c63b1
                    try clear c63b2
                    try clear hcz34_0
                    try clear hcz34_1
                    try clear hcz48_0
                    try clear hcz48_1
                    try clear hcz49_0
                    try clear hcz49_1
                    try clear hcz56_0
                    try clear hcz56_1
                    try clear hcz59_0
                    try clear hcz59_1
                    try clear hfz34_0
                    try clear hfz34_1
                    try clear hfz48_0
                    try clear hfz48_1
                    try clear hfz49_0
                    try clear hfz49_1
                    try clear hfz56_0
                    try clear hfz56_1
                    try clear hfz59_0
                    try clear hfz59_1
                    try clear hx586_0
                    try clear hx586_1
                    try clear hx594_0
                    try clear hx594_1
                    try clear p2
                    try clear p5
                    try clear p586
                    try clear p594
                    try clear p6
                    try clear q3
                    try clear q39
                    try clear q5
                    try clear q586
                    try clear q594
                    obtain ⟨kq, x162_60, rfl, HA, HJ60, HO_15, HB⟩ := hcut
                    cases kq with
                    | zero => exact absurd HA.out (by simp [medlarlaw10_WholeCovers.j4])
                    | succ kj60 =>
                      have H := HA.out
                      clear HA
                      simp only [medlarlaw10_WholeCovers.j4] at H
                      by_cases c64 : x162_60 = true
                      · subst c64
                        have H1 : (some false) = some r := by rw [if_pos rfl] at H; exact H
                        clear H
                        have H := H1
                        clear H1
                        exact absurd ((Option.some.inj H).trans hT.out) Bool.false_ne_true
                      · replace c64 := Bool.eq_false_iff.mpr c64
                        subst c64
                        have H1 : (medlarlaw10_WholeCovers.l2 kj60 a0 l1 t573 0 x15_2 (x15_2.length : Int) 0) = some r := by rw [if_neg (show ¬ (false = true) by decide)] at H; exact H
                        clear H
                        have H := H1
                        clear H1
                        have H' := Aside0.mk H
                        clear H
                        obtain ⟨Ao65, co65, eo65⟩ := Kd.R_slice HO_15.out
                        subst eo65
                        go_wp2
                        go_loopg [26, 165] kj60 (fun kq v26 v165 w' => ∃ (x26_4 : Int) (x165_4 : Int), v26 = .int .u64 x26_4 ∧ v165 = .int .i64 x165_4 ∧ Aside0 (medlarlaw10_WholeCovers.l2 kq a0 l1 t573 x26_4 x15_2 (x15_2.length : Int) x165_4 = some r) ∧ Aside0 (kq ≤ kj60) ∧ Aside0 (Kd.R k34 34 w' w.heap.size (fun _ => True) (.slice Ao65 x15_2.length co65) x15_2) ∧ Aside0 (Below w.heap.size w w'))
                        case atStart => exact ⟨(0), (0), (by first | rfl | (simp; done) | (simp [*]; done)), (by first | rfl | (simp; done) | (simp [*]; done)), H', ⟨Nat.le_refl _⟩, ⟨by (with_reducible repeat (first | apply Kd.R_alloc | apply Kd.R_drewN | apply Kd.R_drew)); exact HO_15.out⟩, ⟨by repeat (first | (with_reducible first | exact HB.out | apply below_alloc | apply pw_below_drewN | apply below_drew1) | exact HB.out)⟩⟩
                        case round =>
                          clear H'
                          try clear c1
                          try clear c2
                          try clear p2
                          try clear c3
                          try clear q3
                          try clear c4
                          try clear c5
                          try clear c5b0
                          try clear c5b1
                          try clear p5
                          try clear q5
                          try clear hx5
                          try clear c6
                          try clear p6
                          try clear c8
                          try clear c8b0
                          try clear c8b1
                          try clear c11
                          try clear c14
                          try clear c14b0
                          try clear c14b1
                          try clear c15
                          try clear c15b0
                          try clear c17
                          try clear c17b0
                          try clear c17b1
                          try clear c17b2
                          try clear c18
                          try clear c21
                          try clear c22
                          try clear c24
                          try clear c27
                          try clear c27b0
                          try clear c28
                          try clear c28b0
                          try clear c29
                          try clear c29b0
                          try clear c31
                          try clear c31b0
                          try clear c31b1
                          try clear c36
                          try clear c37
                          try clear c37b0
                          try clear c37b1
                          try clear c38
                          try clear c38b0
                          try clear c38b1
                          try clear c39
                          try clear q39
                          try clear c40
                          try clear c40b0
                          try clear c41
                          try clear c41b0
                          try clear c42
                          try clear c42b0
                          try clear c44
                          try clear c44b0
                          try clear c44b1
                          try clear c45
                          try clear c47
                          try clear c52
                          try clear c52b0
                          try clear c52b1
                          try clear c53
                          try clear c53b0
                          try clear c53b1
                          try clear c54
                          try clear c54b0
                          try clear c54b1
                          try clear c55
                          try clear p58
                          try clear q58
                          try clear hx58
                          try clear p59
                          try clear q59
                          try clear hx59
                          try clear c62
                          try clear c62b0
                          try clear c62b1
                          try clear c63
                          try clear c63b0
                          try clear c63b1
                          try clear c63b2
                          try clear c64
                          try clear p64
                          try clear hcz34_0
                          try clear hcz34_1
                          try clear hcz48_0
                          try clear hcz48_1
                          try clear hcz49_0
                          try clear hcz49_1
                          try clear hcz56_0
                          try clear hcz56_1
                          try clear hcz59_0
                          try clear hcz59_1
                          try clear hfz34_0
                          try clear hfz34_1
                          try clear hfz48_0
                          try clear hfz48_1
                          try clear hfz49_0
                          try clear hfz49_1
                          try clear hfz56_0
                          try clear hfz56_1
                          try clear hfz59_0
                          try clear hfz59_1
                          try clear hx586_0
                          try clear hx586_1
                          try clear hx594_0
                          try clear hx594_1
                          try clear p2
                          try clear p5
                          try clear p58
                          try clear p586
                          try clear p59
                          try clear p594
                          try clear p6
                          try clear q3
                          try clear q39
                          try clear q5
                          try clear q58
                          try clear q586
                          try clear q59
                          try clear q594
                          obtain ⟨x26_4, x165_4, rfl, rfl, HA, HK4, HO_163, HB⟩ := hrel
                          cases gk with
                          | zero => exact absurd HA.out (by simp [medlarlaw10_WholeCovers.l2])
                          | succ k4 =>
                            have H := HA.out
                            clear HA
                            simp only [medlarlaw10_WholeCovers.l2] at H
                            by_cases c66 : x165_4 < (x15_2.length : Int)
                            · rw [if_pos c66] at H
                              have c66b0 : decide (x165_4 < (x15_2.length : Int)) = true := decide_eq_true c66
                              clear c66
                              by_cases c67 : 0 ≤ x165_4
                              · rw [if_pos c67] at H
                                have c67b0 : decide (0 ≤ x165_4) = true := decide_eq_true c67
                                clear c67
                                by_cases c68 : x165_4 < (x15_2.length : Int)
                                · rw [if_pos c68] at H
                                  have c68b0 : decide (x165_4 < (x15_2.length : Int)) = true := decide_eq_true c68
                                  clear c68
                                  have H' := Aside0.mk H
                                  clear H
                                  have p605 : 0 ≤ (x165_4 : Int) := of_decide_eq_true (by first | (with_reducible assumption) | assumption)
                                  have q605 : x165_4 < (x15_2.length : Int) := of_decide_eq_true (by first | (with_reducible assumption) | assumption)
                                  obtain ⟨ad605, e605, hx605_0, hx605_1⟩ := at_T34 (Kd.R_reads' HO_163.out).2.2 x165_4 p605 q605
                                  cases e605
                                  replace p605 := eq_true p605
                                  replace q605 := eq_true q605
                                  go_wp2_with (first | ((with_reducible refine gate_dst (N := 28) rfl ?_); (try (refine gate_guard (by rfl) ?_; dsimp only)); refine box_event ?hg (N := 28) ?hd (cs := #[.int .u64 0, .int .u64 0]) (t := 34) ?hr ?_; (case hd => rfl); (case hg => rfl); (case hr => first | (go_simp; done) | (go_simp; rfl)); intro gb606 hg w69 hbox hb; have n0_ := Aside0.mk (Kd.R_below (Kd.R_elderB (by (with_reducible repeat (first | apply Kd.R_alloc | apply Kd.R_drewN | apply Kd.R_drew)); exact HO_163.out) gb606 (Nat.le_of_eq hg.symm)) hb); have n1_ := Aside0.mk (below_step (by repeat (first | (with_reducible first | exact HB.out | apply below_alloc | apply pw_below_drewN | apply below_drew1) | exact HB.out)) hb); have n2_ := Aside0.mk (hbox); have n3_ := Aside0.mk ((by rw [hg]; exact (below_size (by repeat (first | (with_reducible first | exact HB.out | apply below_alloc | apply pw_below_drewN | apply below_drew1) | exact HB.out))) : w.heap.size ≤ gb606)); have n4_ := Aside0.mk ((by rw [hg]; exact (below_size (by repeat (first | (with_reducible first | exact HB.out | apply below_alloc | apply pw_below_drewN | apply below_drew1) | exact HB.out))) : w.heap.size ≤ gb606)); clear HO_163; clear HB; have HO_163 := n0_; have HB := n1_; have BK606 := n2_; have GW606 := n3_; have GE606 := n4_; clear n0_ n1_ n2_ n3_ n4_; clear hb hbox hg; have hcz70_0 : w69.cell? ⟨gb606, 0, none⟩ = some (.int .u64 0) := (blk_cell BK606.out 0).trans rfl; have hcz70_1 : w69.cell? ⟨gb606, 1, none⟩ = some (.int .u64 0) := (blk_cell BK606.out 1).trans rfl; have hfz70_0 := blk_frozen BK606.out 0; have hfz70_1 := blk_frozen BK606.out 1))
                                  go_roundg k4
                                  case measure => have := HJ9.out; have := HK2.out; have := HJ60.out; have := HK4.out; omega
                                  case rel => exact ⟨(IntKind.u64.wrap (x26_4 + (IntKind.u64.wrap ((IntKind.u64.wrap (((rd_T34 x15_2 x165_4).f1) - ((rd_T34 x15_2 x165_4).f0))) + 1)))), (wrap64 (x165_4 + 1)), (by first | rfl | (simp; done) | (simp [*]; done)), (by first | rfl | (simp; done) | (simp [*]; done)), H', ⟨by have := HJ9.out; have := HK2.out; have := HJ60.out; have := HK4.out; omega⟩, ⟨by (with_reducible repeat (first | apply Kd.R_alloc | apply Kd.R_drewN | apply Kd.R_drew)); exact Kd.R_mono (Kd.R_far (p := ⟨gb606, 1, none⟩) (Kd.R_far (p := ⟨gb606, 0, none⟩) (Kd.R_mono HO_163.out (fun k_ hk => (⟨hk, hk.2⟩ : _ ∧ k_ ≠ gb606))) (fun _ hk => hk.2) (.int .u64 ((rd_T34 x15_2 x165_4).f0))) (fun _ hk => hk.2) (.int .u64 ((rd_T34 x15_2 x165_4).f1))) (fun _ hk => trivial)⟩, ⟨by repeat (first | (with_reducible first | exact HB.out | apply below_alloc | apply pw_below_drewN | apply below_drew1 | refine below_set ?_ GE606.out) | exact HB.out)⟩⟩
                                · rw [if_neg c68] at H
                                  exact absurd H (by simp)
                              · rw [if_neg c67] at H
                                exact absurd H (by simp)
                            · rw [if_neg c66] at H
                              have c66b0 : decide (x165_4 < (x15_2.length : Int)) = false := decide_eq_false c66
                              clear c66
                              replace H := Option.bind_eq_some_iff.mp H
                              obtain ⟨⟨t607, t608⟩, A710, H⟩ := H
                              replace H : ((leaf_Many.f k4 a0 t607).bind fun bt611 => (if t573 = true then (if t608 = 0 then (if bt611.2 = 0 then (some (x26_4 == bt611.1)) else (some false)) else (some false)) else (some false))) = some r := H
                              have A71 := Aside0.mk A710
                              clear A710
                              replace H := Option.bind_eq_some_iff.mp H
                              obtain ⟨⟨t611, t612⟩, A720, H⟩ := H
                              replace H : (if t573 = true then (if t608 = 0 then (if t612 = 0 then (some (x26_4 == t611)) else (some false)) else (some false)) else (some false)) = some r := H
                              have A72 := Aside0.mk A720
                              clear A720
                              by_cases c73 : t573 = true
                              · subst c73
                                have H1 : (if t608 = 0 then (if t612 = 0 then (some (x26_4 == t611)) else (some false)) else (some false)) = some r := by rw [if_pos rfl] at H; exact H
                                clear H
                                have H := H1
                                clear H1
                                by_cases c74 : t608 = 0
                                · rw [if_pos c74] at H
                                  have c74b0 : (t608 == 0) = true := beq_iff_eq.mpr c74
                                  have c74b1 : (t608 != 0) = false := bne_eq_false_iff_eq.mpr c74
                                  clear c74
                                  by_cases c75 : t612 = 0
                                  · rw [if_pos c75] at H
                                    have c75b0 : (t612 == 0) = true := beq_iff_eq.mpr c75
                                    have c75b1 : (t612 != 0) = false := bne_eq_false_iff_eq.mpr c75
                                    clear c75
                                    obtain rfl := Option.some.inj H
                                    go_wp2_with (first | ((with_reducible refine gate_callee (f := 42) rfl ?_); refine goesL_ (some 181) rfl rfl Try.func42 (by kernel_rfl) rfl #[.int .i64 a0, .slice A1 l1.length c1] rfl (by (try simp only [List.map_toArray, List.map_cons, List.map_nil]); first | done | rfl | (simp only [List.length_drop, List.length_take]; rfl)) ?_; (with_reducible refine (leaf_Gaps.calls k4 a0 _ _ l1 t607 t608 _ ?side1 ?side2 A71.out).mono ?_); (case side1 => repeat (first | exact (Kd.C_below HR1.out HB.out) | (with_reducible refine Kd.C_alloc ?_ _) | (with_reducible refine Kd.C_drewN ?_ _) | (with_reducible refine Kd.C_drew ?_))); (case side2 => exact HC1.out); rintro e w76 ⟨v609, rfl, ho0, hb⟩; refine ⟨_, rfl, ?_⟩; have n0_ := Aside0.mk (Kd.R_elder' (by (with_reducible repeat (first | apply Kd.R_alloc | apply Kd.R_drewN | apply Kd.R_drew)); exact HO_163.out) (Kd.R_base ho0) hb); have n1_ := Aside0.mk (Kd.R_lower (Kd.R_new' ho0 (Kd.R_lt (by (with_reducible repeat (first | apply Kd.R_alloc | apply Kd.R_drewN | apply Kd.R_drew)); exact HO_163.out))) (below_size (by repeat (first | (with_reducible first | exact HB.out | apply below_alloc | apply pw_below_drewN | apply below_drew1) | exact HB.out)))); have n2_ := Aside0.mk (below_step (by repeat (first | (with_reducible first | exact HB.out | apply below_alloc | apply pw_below_drewN | apply below_drew1) | exact HB.out)) hb); clear HO_163; clear HB; have HO_163 := n0_; have HO610 := n1_; have HB := n2_; clear n0_ n1_ n2_; (try clear hb); (try clear hb2); (try clear hk); (try clear hi); (try clear ho0); obtain ⟨Ao77, co77, eo77⟩ := Kd.R_slice HO610.out; subst eo77) | ((with_reducible refine gate_callee (f := 43) rfl ?_); refine goesL_ (some 187) rfl rfl Try.func43 (by kernel_rfl) rfl #[.int .i64 a0, .slice Ao77 t607.length co77] rfl (by (try simp only [List.map_toArray, List.map_cons, List.map_nil]); first | done | rfl | (simp only [List.length_drop, List.length_take]; rfl)) ?_; (with_reducible refine (leaf_Many.calls k4 a0 _ _ t607 t611 t612 _ ?side1 ?side2 A72.out).mono ?_); (case side1 => repeat (first | exact (Kd.R_reads' HO610.out).2.2 | (with_reducible refine Kd.C_alloc ?_ _) | (with_reducible refine Kd.C_drewN ?_ _) | (with_reducible refine Kd.C_drew ?_))); (case side2 => exact (Kd.R_reads' HO610.out).2.1); rintro e w78 ⟨rfl, hb⟩; refine ⟨_, rfl, ?_⟩; have n0_ := Aside0.mk (Kd.R_below (by (with_reducible repeat (first | apply Kd.R_alloc | apply Kd.R_drewN | apply Kd.R_drew)); exact HO_163.out) hb); have n1_ := Aside0.mk (Kd.R_below (by (with_reducible repeat (first | apply Kd.R_alloc | apply Kd.R_drewN | apply Kd.R_drew)); exact HO610.out) hb); have n2_ := Aside0.mk (below_step (by repeat (first | (with_reducible first | exact HB.out | apply below_alloc | apply pw_below_drewN | apply below_drew1) | exact HB.out)) hb); clear HO_163; clear HO610; clear HB; have HO_163 := n0_; have HO610 := n1_; have HB := n2_; clear n0_ n1_ n2_; (try clear hb); (try clear hb2); (try clear hk); (try clear hi)))
                                    go_ret
                                    exact ⟨by first | rfl | (simp [errW_none, errW_some] <;> rfl) | (simp [*, errW_none, errW_some] <;> rfl), by repeat (first | (with_reducible first | exact HB.out | apply below_alloc | apply pw_below_drewN | apply below_drew1) | exact HB.out)⟩
                                  · rw [if_neg c75] at H
                                    have c75b0 : (t612 == 0) = false := beq_eq_false_iff_ne.mpr c75
                                    have c75b1 : (t612 != 0) = true := bne_iff_ne.mpr c75
                                    exact absurd ((Option.some.inj H).trans hT.out) Bool.false_ne_true
                                · rw [if_neg c74] at H
                                  have c74b0 : (t608 == 0) = false := beq_eq_false_iff_ne.mpr c74
                                  have c74b1 : (t608 != 0) = true := bne_iff_ne.mpr c74
                                  exact absurd ((Option.some.inj H).trans hT.out) Bool.false_ne_true
                              · replace c73 := Bool.eq_false_iff.mpr c73
                                subst c73
                                have H1 : (some false) = some r := by rw [if_neg (show ¬ (false = true) by decide)] at H; exact H
                                clear H
                                have H := H1
                                clear H1
                                exact absurd ((Option.some.inj H).trans hT.out) Bool.false_ne_true
    · rw [if_neg c8] at H
      have c8b0 : (t575 == 0) = false := beq_eq_false_iff_ne.mpr c8
      have c8b1 : (t575 != 0) = true := bne_iff_ne.mpr c8
      by_cases c79 : t573 = true
      · subst c79
        have H1 : (some ((t574.length : Int) == 0)) = some r := by rw [if_pos rfl] at H; exact H
        clear H
        have H := H1
        clear H1
        obtain rfl := Option.some.inj H
        go_enter Try.func11, Try.ntmps11
        go_wp2_with (first | ((with_reducible refine gate_callee (f := 21) rfl ?_); refine goesL_ (some 33) rfl rfl Try.func21 (by kernel_rfl) rfl #[] rfl (by (try simp only [List.map_toArray, List.map_cons, List.map_nil]); first | done | rfl | (simp only [List.length_drop, List.length_take]; rfl)) ?_; (with_reducible refine (medlarlaw10_live.calls k  true _ A4.out).mono ?_); rintro e w80 ⟨rfl, hb⟩; refine ⟨_, rfl, ?_⟩; have n0_ := Aside0.mk (below_step (by repeat (first | (with_reducible first | exact HB.out | apply below_alloc | apply pw_below_drewN | apply below_drew1) | exact HB.out)) hb); clear HB; have HB := n0_; clear n0_; (try clear hb); (try clear hb2); (try clear hk); (try clear hi)) | ((with_reducible refine gate_callee (f := 22) rfl ?_); refine goesL_ (some 41) rfl rfl Try.func22 (by kernel_rfl) rfl #[.int .i64 a0, .slice A1 l1.length c1] rfl (by (try simp only [List.map_toArray, List.map_cons, List.map_nil]); first | done | rfl | (simp only [List.length_drop, List.length_take]; rfl)) ?_; (with_reducible refine (whole_Cover.calls k a0 _ _ l1 t574 t575 _ ?side1 ?side2 A7.out).mono ?_); (case side1 => repeat (first | exact (Kd.C_below HR1.out HB.out) | (with_reducible refine Kd.C_alloc ?_ _) | (with_reducible refine Kd.C_drewN ?_ _) | (with_reducible refine Kd.C_drew ?_))); (case side2 => exact HC1.out); rintro e w81 ⟨v576, rfl, ho0, hb⟩; refine ⟨_, rfl, ?_⟩; have n0_ := Aside0.mk (Kd.R_lower ho0 (below_size (by repeat (first | (with_reducible first | exact HB.out | apply below_alloc | apply pw_below_drewN | apply below_drew1) | exact HB.out)))); have n1_ := Aside0.mk (below_step (by repeat (first | (with_reducible first | exact HB.out | apply below_alloc | apply pw_below_drewN | apply below_drew1) | exact HB.out)) hb); clear HB; have HO577 := n0_; have HB := n1_; clear n0_ n1_; (try clear hb); (try clear hb2); (try clear hk); (try clear hi); (try clear ho0); obtain ⟨Ao82, co82, eo82⟩ := Kd.R_slice HO577.out; subst eo82))
        go_ret
        exact ⟨by first | rfl | (simp [errW_none, errW_some] <;> rfl) | (simp [*, errW_none, errW_some] <;> rfl), by repeat (first | (with_reducible first | exact HB.out | apply below_alloc | apply pw_below_drewN | apply below_drew1) | exact HB.out)⟩
      · replace c79 := Bool.eq_false_iff.mpr c79
        subst c79
        have H1 : (some false) = some r := by rw [if_neg (show ¬ (false = true) by decide)] at H; exact H
        clear H
        have H := H1
        clear H1
        exact absurd ((Option.some.inj H).trans hT.out) Bool.false_ne_true

/-- THE ONE PURE STATEMENT of medlarlaw10_WholeCovers: yours. -/
def medlarlaw10_WholeCovers.Pure : Prop := ∀ (a0 : Int) (l1 : List Int) (a2 : Int), (Lit.int .i64 a0).wf = true → l1.length ≤ maxLen → l1.length * 8 ≤ 140737488351232 → (∀ x ∈ l1, (Lit.int .u64 x).wf = true) → (Lit.int .u64 a2).wf = true → ∃ k, medlarlaw10_WholeCovers.f k a0 l1 a2 = some true
theorem medlarlaw10_WholeCovers.walk (P : medlarlaw10_WholeCovers.Pure) (a0 : Int) (a1 : Option Addr) (len1 cap1 : Nat) (z1 : List Int) (a2 : Int) (w : World) (w0 : (Lit.int .i64 a0).wf = true) (w1 : (a1 = none ∧ len1 = 0 ∧ cap1 = 0 ∧ z1 = []) ∨ ∃ x, a1 = some x ∧ len1 ≤ cap1 ∧ cap1 ≤ maxLen ∧ z1.length = cap1 ∧ (∀ i, i < z1.length → w.cell? (x.add i) = some (.int .u64 (z1.getD i 0))) ∧ ∀ n ∈ z1, (Lit.int .u64 n).wf = true) (y1 : len1 * 8 ≤ 140737488351232) (w2 : (Lit.int .u64 a2).wf = true) :
    Calls Try.prog 11 #[.int .i64 a0, .slice a1 len1 cap1, .int .u64 a2] w fun e w' => e = .returned (.bool true) ∧ Below w.heap.size w w' := by
  obtain ⟨l1, rfl, hr1, hm1, hw1, hc1⟩ := ReadsInt.ofRowC w1
  obtain ⟨k, h⟩ := P a0 l1 a2 w0 hm1 y1 hw1 w2
  refine (medlarlaw10_WholeCovers.calls k a0 _ _ l1 a2 true w (Kd.C_of_reads (d := (0 : Int)) (h1 := fun _ => rfl) hr1) hc1 h ⟨rfl⟩).mono ?_
  rintro e w' ⟨rfl, hd⟩
  exact ⟨rfl, hd⟩

end Go.Proofs.Ytoikjfcdpiikbaa.MP
