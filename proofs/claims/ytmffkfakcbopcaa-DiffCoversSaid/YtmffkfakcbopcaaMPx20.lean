-- written by a program of this session (wip/tools/mprint.sh) for this seat
import Derived.Test.YtmffkfakcbopcaaMPx0
import Derived.Test.YtmffkfakcbopcaaMPx3
import Derived.Test.YtmffkfakcbopcaaMPx5
import Derived.Test.YtmffkfakcbopcaaMPx8
import Derived.Test.YtmffkfakcbopcaaMPx10
import Derived.Test.YtmffkfakcbopcaaMPx16
import Derived.Test.YtmffkfakcbopcaaMPx17
import Derived.Test.YtmffkfakcbopcaaMPx18
import Derived.Test.YtmffkfakcbopcaaMPx19
namespace Go.Proofs.Ytmffkfakcbopcaa.MP
open Go.RowKit Go.Proofs.YtmffkfakcbopcaaW.PrintWords Go.Proofs.YtmffkfakcbopcaaW.PrintLast Go.Proofs.YtmffkfakcbopcaaW.PrintMore
attribute [local go_sem] max2_int min2_int max_two min_two max_three min_three max_four min_four   -- for this text's walks alone
set_option linter.unusedVariables false
set_option linter.unusedSimpArgs false

/-! ### medlarlaw11_DiffCovers: function 6 -/
mutual
def medlarlaw11_DiffCovers.j0 : Nat → Int → List Int → Int → Bool → List (S34) → Bool → Option (Bool)
  | 0, _, _, _, _, _, _ => none
  | k + 1, x0, x1, x2, x7, x8, x66 => if x66 = true then (some false) else ((leaf_Has.f k x0 x1 x2).bind fun bt518 => (medlarlaw11_DiffCovers.l0 k x0 x1 x2 x7 x8 0 bt518.1 bt518.2 0 x8 (x8.length : Int) 0))
def medlarlaw11_DiffCovers.l0 : Nat → Int → List Int → Int → Bool → List (S34) → Int → Bool → Int → Int → List (S34) → Int → Int → Option (Bool)
  | 0, _, _, _, _, _, _, _, _, _, _, _, _ => none
  | k + 1, x0, x1, x2, x7, x8, x12, x13, x14, x15, x74, x75, x76 => if x76 < x75 then (if 0 ≤ x76 then (if x76 < (x74.length : Int) then ((sub_Has.f k x0 ((rd_T34 x74 x76).f0) ((rd_T34 x74 x76).f1) x2).bind fun bt522 => (if bt522.2 = x14 then (if x76 > 0 then (if 0 ≤ (wrap64 (x76 - 1)) then (if (wrap64 (x76 - 1)) < (x8.length : Int) then ((sub_Less.f k ((rd_T34 x8 (wrap64 (x76 - 1))).f0) ((rd_T34 x8 (wrap64 (x76 - 1))).f1) ((rd_T34 x74 x76).f0) ((rd_T34 x74 x76).f1)).bind fun t525 => (medlarlaw11_DiffCovers.j2 k x0 x1 x2 x7 x8 x12 x13 x14 x15 x76 bt522.1 x74 x75 x76 (!t525) ((rd_T34 x74 x76).f0) ((rd_T34 x74 x76).f1))) else (none)) else (none)) else (medlarlaw11_DiffCovers.j2 k x0 x1 x2 x7 x8 x12 x13 x14 x15 x76 bt522.1 x74 x75 x76 false ((rd_T34 x74 x76).f0) ((rd_T34 x74 x76).f1))) else (medlarlaw11_DiffCovers.j2 k x0 x1 x2 x7 x8 x12 x13 x14 x15 x76 bt522.1 x74 x75 x76 true ((rd_T34 x74 x76).f0) ((rd_T34 x74 x76).f1)))) else (none)) else (none)) else (if x14 = 0 then (if ((x12 == 1) != (!x13)) = true then (medlarlaw11_DiffCovers.j5 k x0 x1 x7 x15 true) else (medlarlaw11_DiffCovers.j5 k x0 x1 x7 x15 (decide (x12 > 1)))) else (medlarlaw11_DiffCovers.j5 k x0 x1 x7 x15 (decide (x12 > 1))))
def medlarlaw11_DiffCovers.j2 : Nat → Int → List Int → Int → Bool → List (S34) → Int → Bool → Int → Int → Int → Bool → List (S34) → Int → Int → Bool → Int → Int → Option (Bool)
  | 0, _, _, _, _, _, _, _, _, _, _, _, _, _, _, _, _, _ => none
  | k + 1, x0, x1, x2, x7, x8, x12, x13, x14, x15, x16, x18, x74, x75, x76, x104, x522000, x522001 => if x104 = true then (some false) else (if x18 = true then (medlarlaw11_DiffCovers.j3 k x0 x1 x2 x7 x8 (wrap64 (x12 + 1)) x13 x14 x15 x16 x74 x75 x76 x522000 x522001) else (medlarlaw11_DiffCovers.j3 k x0 x1 x2 x7 x8 x12 x13 x14 x15 x16 x74 x75 x76 x522000 x522001))
def medlarlaw11_DiffCovers.j3 : Nat → Int → List Int → Int → Bool → List (S34) → Int → Bool → Int → Int → Int → List (S34) → Int → Int → Int → Int → Option (Bool)
  | 0, _, _, _, _, _, _, _, _, _, _, _, _, _, _, _ => none
  | k + 1, x0, x1, x2, x7, x8, x12, x13, x14, x15, x16, x74, x75, x76, x522000, x522001 => if 0 ≤ x16 then (if x16 ≤ (x8.length : Int) then ((some (x8.take (x16 : Int).toNat : List (S34))).bind fun y526 => (medlarlaw11_DiffCovers.l1 k x0 x1 x2 x7 x8 x12 x13 x14 x15 x74 x75 x76 y526 (y526.length : Int) 0 x522000 x522001)) else (none)) else (none)
def medlarlaw11_DiffCovers.l1 : Nat → Int → List Int → Int → Bool → List (S34) → Int → Bool → Int → Int → List (S34) → Int → Int → List (S34) → Int → Int → Int → Int → Option (Bool)
  | 0, _, _, _, _, _, _, _, _, _, _, _, _, _, _, _, _, _ => none
  | k + 1, x0, x1, x2, x7, x8, x12, x13, x14, x15, x74, x75, x76, x110, x111, x112, x522000, x522001 => if x112 < x111 then (if 0 ≤ x112 then (if x112 < (x110.length : Int) then ((sub_Touch.f k x0 x522000 x522001 ((rd_T34 x110 x112).f0) ((rd_T34 x110 x112).f1)).bind fun bt532 => (if bt532.2 = 0 then (if bt532.1 = true then (some false) else (medlarlaw11_DiffCovers.l1 k x0 x1 x2 x7 x8 x12 x13 x14 x15 x74 x75 x76 x110 x111 (wrap64 (x112 + 1)) x522000 x522001)) else (some false))) else (none)) else (none)) else ((sub_Leaves.f k x0 x522000 x522001).bind fun bt534 => ((leaf_Many.f k x0 bt534.1).bind fun bt538 => (if bt534.2 = 0 then (if bt538.2 = 0 then (medlarlaw11_DiffCovers.l0 k x0 x1 x2 x7 x8 x12 x13 x14 (IntKind.u64.wrap (x15 + bt538.1)) x74 x75 (wrap64 (x76 + 1))) else (some false)) else (some false))))
def medlarlaw11_DiffCovers.j5 : Nat → Int → List Int → Bool → Int → Bool → Option (Bool)
  | 0, _, _, _, _, _ => none
  | k + 1, x0, x1, x7, x15, x163 => if x163 = true then (some false) else ((leaf_Gaps.f k x0 x1).bind fun bt540 => ((leaf_Many.f k x0 bt540.1).bind fun bt544 => (if x7 = true then (if bt540.2 = 0 then (if bt544.2 = 0 then (some (x15 == bt544.1)) else (some false)) else (some false)) else (some false))))
end
def medlarlaw11_DiffCovers.f (k : Nat) (a0 : Int) (l1 : List Int) (a2 : Int) : Option (Bool) := (medlarlaw11_live.f k).bind fun t511 => (if (l1.length : Int) > 30 then (some t511) else ((diff_Cover.f k a0 l1).bind fun bt512 => (if bt512.2 = 0 then ((diff_Bound.f k a0 (l1.length : Int)).bind fun bt516 => (if bt516.2 = 0 then (medlarlaw11_DiffCovers.j0 k a0 l1 a2 t511 bt512.1 (decide ((IntKind.u64.wrap ((bt512.1.length : Int))) > bt516.1))) else (medlarlaw11_DiffCovers.j0 k a0 l1 a2 t511 bt512.1 true))) else (if t511 = true then (some ((bt512.1.length : Int) == 0)) else (some false)))))
theorem medlarlaw11_DiffCovers.mono_l : ∀ k, (∀ y0 y1 y2 y3 y4 y5, LeO (medlarlaw11_DiffCovers.j0 k y0 y1 y2 y3 y4 y5) (medlarlaw11_DiffCovers.j0 (k + 1) y0 y1 y2 y3 y4 y5)) ∧ (∀ y0 y1 y2 y3 y4 y5 y6 y7 y8 y9 y10 y11, LeO (medlarlaw11_DiffCovers.l0 k y0 y1 y2 y3 y4 y5 y6 y7 y8 y9 y10 y11) (medlarlaw11_DiffCovers.l0 (k + 1) y0 y1 y2 y3 y4 y5 y6 y7 y8 y9 y10 y11)) ∧ (∀ y0 y1 y2 y3 y4 y5 y6 y7 y8 y9 y10 y11 y12 y13 y14 y15 y16, LeO (medlarlaw11_DiffCovers.j2 k y0 y1 y2 y3 y4 y5 y6 y7 y8 y9 y10 y11 y12 y13 y14 y15 y16) (medlarlaw11_DiffCovers.j2 (k + 1) y0 y1 y2 y3 y4 y5 y6 y7 y8 y9 y10 y11 y12 y13 y14 y15 y16)) ∧ (∀ y0 y1 y2 y3 y4 y5 y6 y7 y8 y9 y10 y11 y12 y13 y14, LeO (medlarlaw11_DiffCovers.j3 k y0 y1 y2 y3 y4 y5 y6 y7 y8 y9 y10 y11 y12 y13 y14) (medlarlaw11_DiffCovers.j3 (k + 1) y0 y1 y2 y3 y4 y5 y6 y7 y8 y9 y10 y11 y12 y13 y14)) ∧ (∀ y0 y1 y2 y3 y4 y5 y6 y7 y8 y9 y10 y11 y12 y13 y14 y15 y16, LeO (medlarlaw11_DiffCovers.l1 k y0 y1 y2 y3 y4 y5 y6 y7 y8 y9 y10 y11 y12 y13 y14 y15 y16) (medlarlaw11_DiffCovers.l1 (k + 1) y0 y1 y2 y3 y4 y5 y6 y7 y8 y9 y10 y11 y12 y13 y14 y15 y16)) ∧ (∀ y0 y1 y2 y3 y4, LeO (medlarlaw11_DiffCovers.j5 k y0 y1 y2 y3 y4) (medlarlaw11_DiffCovers.j5 (k + 1) y0 y1 y2 y3 y4))
  | 0 => ⟨fun _ _ _ _ _ _ r h => by simp [medlarlaw11_DiffCovers.j0] at h, fun _ _ _ _ _ _ _ _ _ _ _ _ r h => by simp [medlarlaw11_DiffCovers.l0] at h, fun _ _ _ _ _ _ _ _ _ _ _ _ _ _ _ _ _ r h => by simp [medlarlaw11_DiffCovers.j2] at h, fun _ _ _ _ _ _ _ _ _ _ _ _ _ _ _ r h => by simp [medlarlaw11_DiffCovers.j3] at h, fun _ _ _ _ _ _ _ _ _ _ _ _ _ _ _ _ _ r h => by simp [medlarlaw11_DiffCovers.l1] at h, fun _ _ _ _ _ r h => by simp [medlarlaw11_DiffCovers.j5] at h⟩
  | k + 1 => by
    obtain ⟨ih0, ih1, ih2, ih3, ih4, ih5⟩ := medlarlaw11_DiffCovers.mono_l k
    refine ⟨?_, ?_, ?_, ?_, ?_, ?_⟩
    · intro y0 y1 y2 y3 y4 y5
      unfold medlarlaw11_DiffCovers.j0
      repeat' first
      | (with_reducible exact ih0 _ _ _ _ _ _)
      | (with_reducible exact ih1 _ _ _ _ _ _ _ _ _ _ _ _)
      | (with_reducible exact ih2 _ _ _ _ _ _ _ _ _ _ _ _ _ _ _ _ _)
      | (with_reducible exact ih3 _ _ _ _ _ _ _ _ _ _ _ _ _ _ _)
      | (with_reducible exact ih4 _ _ _ _ _ _ _ _ _ _ _ _ _ _ _ _ _)
      | (with_reducible exact ih5 _ _ _ _ _)
      | (with_reducible exact diff_Bound.mono _ _ _)
      | (with_reducible exact diff_Cover.mono _ _ _)
      | (with_reducible exact leaf_Gaps.mono _ _ _)
      | (with_reducible exact leaf_Has.mono _ _ _ _)
      | (with_reducible exact leaf_Many.mono _ _ _)
      | (with_reducible exact medlarlaw11_live.mono _)
      | (with_reducible exact sub_Has.mono _ _ _ _ _)
      | (with_reducible exact sub_Leaves.mono _ _ _ _)
      | (with_reducible exact sub_Less.mono _ _ _ _ _)
      | (with_reducible exact sub_Touch.mono _ _ _ _ _ _)
      | (with_reducible exact LeO.refl _)
      | (with_reducible exact LeO.none _)
      | (with_reducible refine LeO.ite ?_ ?_)
      | (with_reducible refine LeO.bind ?_ (fun _ => ?_))
      | exact ih0 _ _ _ _ _ _
      | exact ih1 _ _ _ _ _ _ _ _ _ _ _ _
      | exact ih2 _ _ _ _ _ _ _ _ _ _ _ _ _ _ _ _ _
      | exact ih3 _ _ _ _ _ _ _ _ _ _ _ _ _ _ _
      | exact ih4 _ _ _ _ _ _ _ _ _ _ _ _ _ _ _ _ _
      | exact ih5 _ _ _ _ _
      | exact diff_Bound.mono _ _ _
      | exact diff_Cover.mono _ _ _
      | exact leaf_Gaps.mono _ _ _
      | exact leaf_Has.mono _ _ _ _
      | exact leaf_Many.mono _ _ _
      | exact medlarlaw11_live.mono _
      | exact sub_Has.mono _ _ _ _ _
      | exact sub_Leaves.mono _ _ _ _
      | exact sub_Less.mono _ _ _ _ _
      | exact sub_Touch.mono _ _ _ _ _ _
      | exact LeO.none _
      | refine LeO.ite ?_ ?_
      | refine LeO.bind ?_ (fun _ => ?_)
    · intro y0 y1 y2 y3 y4 y5 y6 y7 y8 y9 y10 y11
      unfold medlarlaw11_DiffCovers.l0
      repeat' first
      | (with_reducible exact ih0 _ _ _ _ _ _)
      | (with_reducible exact ih1 _ _ _ _ _ _ _ _ _ _ _ _)
      | (with_reducible exact ih2 _ _ _ _ _ _ _ _ _ _ _ _ _ _ _ _ _)
      | (with_reducible exact ih3 _ _ _ _ _ _ _ _ _ _ _ _ _ _ _)
      | (with_reducible exact ih4 _ _ _ _ _ _ _ _ _ _ _ _ _ _ _ _ _)
      | (with_reducible exact ih5 _ _ _ _ _)
      | (with_reducible exact diff_Bound.mono _ _ _)
      | (with_reducible exact diff_Cover.mono _ _ _)
      | (with_reducible exact leaf_Gaps.mono _ _ _)
      | (with_reducible exact leaf_Has.mono _ _ _ _)
      | (with_reducible exact leaf_Many.mono _ _ _)
      | (with_reducible exact medlarlaw11_live.mono _)
      | (with_reducible exact sub_Has.mono _ _ _ _ _)
      | (with_reducible exact sub_Leaves.mono _ _ _ _)
      | (with_reducible exact sub_Less.mono _ _ _ _ _)
      | (with_reducible exact sub_Touch.mono _ _ _ _ _ _)
      | (with_reducible exact LeO.refl _)
      | (with_reducible exact LeO.none _)
      | (with_reducible refine LeO.ite ?_ ?_)
      | (with_reducible refine LeO.bind ?_ (fun _ => ?_))
      | exact ih0 _ _ _ _ _ _
      | exact ih1 _ _ _ _ _ _ _ _ _ _ _ _
      | exact ih2 _ _ _ _ _ _ _ _ _ _ _ _ _ _ _ _ _
      | exact ih3 _ _ _ _ _ _ _ _ _ _ _ _ _ _ _
      | exact ih4 _ _ _ _ _ _ _ _ _ _ _ _ _ _ _ _ _
      | exact ih5 _ _ _ _ _
      | exact diff_Bound.mono _ _ _
      | exact diff_Cover.mono _ _ _
      | exact leaf_Gaps.mono _ _ _
      | exact leaf_Has.mono _ _ _ _
      | exact leaf_Many.mono _ _ _
      | exact medlarlaw11_live.mono _
      | exact sub_Has.mono _ _ _ _ _
      | exact sub_Leaves.mono _ _ _ _
      | exact sub_Less.mono _ _ _ _ _
      | exact sub_Touch.mono _ _ _ _ _ _
      | exact LeO.none _
      | refine LeO.ite ?_ ?_
      | refine LeO.bind ?_ (fun _ => ?_)
    · intro y0 y1 y2 y3 y4 y5 y6 y7 y8 y9 y10 y11 y12 y13 y14 y15 y16
      unfold medlarlaw11_DiffCovers.j2
      repeat' first
      | (with_reducible exact ih0 _ _ _ _ _ _)
      | (with_reducible exact ih1 _ _ _ _ _ _ _ _ _ _ _ _)
      | (with_reducible exact ih2 _ _ _ _ _ _ _ _ _ _ _ _ _ _ _ _ _)
      | (with_reducible exact ih3 _ _ _ _ _ _ _ _ _ _ _ _ _ _ _)
      | (with_reducible exact ih4 _ _ _ _ _ _ _ _ _ _ _ _ _ _ _ _ _)
      | (with_reducible exact ih5 _ _ _ _ _)
      | (with_reducible exact diff_Bound.mono _ _ _)
      | (with_reducible exact diff_Cover.mono _ _ _)
      | (with_reducible exact leaf_Gaps.mono _ _ _)
      | (with_reducible exact leaf_Has.mono _ _ _ _)
      | (with_reducible exact leaf_Many.mono _ _ _)
      | (with_reducible exact medlarlaw11_live.mono _)
      | (with_reducible exact sub_Has.mono _ _ _ _ _)
      | (with_reducible exact sub_Leaves.mono _ _ _ _)
      | (with_reducible exact sub_Less.mono _ _ _ _ _)
      | (with_reducible exact sub_Touch.mono _ _ _ _ _ _)
      | (with_reducible exact LeO.refl _)
      | (with_reducible exact LeO.none _)
      | (with_reducible refine LeO.ite ?_ ?_)
      | (with_reducible refine LeO.bind ?_ (fun _ => ?_))
      | exact ih0 _ _ _ _ _ _
      | exact ih1 _ _ _ _ _ _ _ _ _ _ _ _
      | exact ih2 _ _ _ _ _ _ _ _ _ _ _ _ _ _ _ _ _
      | exact ih3 _ _ _ _ _ _ _ _ _ _ _ _ _ _ _
      | exact ih4 _ _ _ _ _ _ _ _ _ _ _ _ _ _ _ _ _
      | exact ih5 _ _ _ _ _
      | exact diff_Bound.mono _ _ _
      | exact diff_Cover.mono _ _ _
      | exact leaf_Gaps.mono _ _ _
      | exact leaf_Has.mono _ _ _ _
      | exact leaf_Many.mono _ _ _
      | exact medlarlaw11_live.mono _
      | exact sub_Has.mono _ _ _ _ _
      | exact sub_Leaves.mono _ _ _ _
      | exact sub_Less.mono _ _ _ _ _
      | exact sub_Touch.mono _ _ _ _ _ _
      | exact LeO.none _
      | refine LeO.ite ?_ ?_
      | refine LeO.bind ?_ (fun _ => ?_)
    · intro y0 y1 y2 y3 y4 y5 y6 y7 y8 y9 y10 y11 y12 y13 y14
      unfold medlarlaw11_DiffCovers.j3
      repeat' first
      | (with_reducible exact ih0 _ _ _ _ _ _)
      | (with_reducible exact ih1 _ _ _ _ _ _ _ _ _ _ _ _)
      | (with_reducible exact ih2 _ _ _ _ _ _ _ _ _ _ _ _ _ _ _ _ _)
      | (with_reducible exact ih3 _ _ _ _ _ _ _ _ _ _ _ _ _ _ _)
      | (with_reducible exact ih4 _ _ _ _ _ _ _ _ _ _ _ _ _ _ _ _ _)
      | (with_reducible exact ih5 _ _ _ _ _)
      | (with_reducible exact diff_Bound.mono _ _ _)
      | (with_reducible exact diff_Cover.mono _ _ _)
      | (with_reducible exact leaf_Gaps.mono _ _ _)
      | (with_reducible exact leaf_Has.mono _ _ _ _)
      | (with_reducible exact leaf_Many.mono _ _ _)
      | (with_reducible exact medlarlaw11_live.mono _)
      | (with_reducible exact sub_Has.mono _ _ _ _ _)
      | (with_reducible exact sub_Leaves.mono _ _ _ _)
      | (with_reducible exact sub_Less.mono _ _ _ _ _)
      | (with_reducible exact sub_Touch.mono _ _ _ _ _ _)
      | (with_reducible exact LeO.refl _)
      | (with_reducible exact LeO.none _)
      | (with_reducible refine LeO.ite ?_ ?_)
      | (with_reducible refine LeO.bind ?_ (fun _ => ?_))
      | exact ih0 _ _ _ _ _ _
      | exact ih1 _ _ _ _ _ _ _ _ _ _ _ _
      | exact ih2 _ _ _ _ _ _ _ _ _ _ _ _ _ _ _ _ _
      | exact ih3 _ _ _ _ _ _ _ _ _ _ _ _ _ _ _
      | exact ih4 _ _ _ _ _ _ _ _ _ _ _ _ _ _ _ _ _
      | exact ih5 _ _ _ _ _
      | exact diff_Bound.mono _ _ _
      | exact diff_Cover.mono _ _ _
      | exact leaf_Gaps.mono _ _ _
      | exact leaf_Has.mono _ _ _ _
      | exact leaf_Many.mono _ _ _
      | exact medlarlaw11_live.mono _
      | exact sub_Has.mono _ _ _ _ _
      | exact sub_Leaves.mono _ _ _ _
      | exact sub_Less.mono _ _ _ _ _
      | exact sub_Touch.mono _ _ _ _ _ _
      | exact LeO.none _
      | refine LeO.ite ?_ ?_
      | refine LeO.bind ?_ (fun _ => ?_)
    · intro y0 y1 y2 y3 y4 y5 y6 y7 y8 y9 y10 y11 y12 y13 y14 y15 y16
      unfold medlarlaw11_DiffCovers.l1
      repeat' first
      | (with_reducible exact ih0 _ _ _ _ _ _)
      | (with_reducible exact ih1 _ _ _ _ _ _ _ _ _ _ _ _)
      | (with_reducible exact ih2 _ _ _ _ _ _ _ _ _ _ _ _ _ _ _ _ _)
      | (with_reducible exact ih3 _ _ _ _ _ _ _ _ _ _ _ _ _ _ _)
      | (with_reducible exact ih4 _ _ _ _ _ _ _ _ _ _ _ _ _ _ _ _ _)
      | (with_reducible exact ih5 _ _ _ _ _)
      | (with_reducible exact diff_Bound.mono _ _ _)
      | (with_reducible exact diff_Cover.mono _ _ _)
      | (with_reducible exact leaf_Gaps.mono _ _ _)
      | (with_reducible exact leaf_Has.mono _ _ _ _)
      | (with_reducible exact leaf_Many.mono _ _ _)
      | (with_reducible exact medlarlaw11_live.mono _)
      | (with_reducible exact sub_Has.mono _ _ _ _ _)
      | (with_reducible exact sub_Leaves.mono _ _ _ _)
      | (with_reducible exact sub_Less.mono _ _ _ _ _)
      | (with_reducible exact sub_Touch.mono _ _ _ _ _ _)
      | (with_reducible exact LeO.refl _)
      | (with_reducible exact LeO.none _)
      | (with_reducible refine LeO.ite ?_ ?_)
      | (with_reducible refine LeO.bind ?_ (fun _ => ?_))
      | exact ih0 _ _ _ _ _ _
      | exact ih1 _ _ _ _ _ _ _ _ _ _ _ _
      | exact ih2 _ _ _ _ _ _ _ _ _ _ _ _ _ _ _ _ _
      | exact ih3 _ _ _ _ _ _ _ _ _ _ _ _ _ _ _
      | exact ih4 _ _ _ _ _ _ _ _ _ _ _ _ _ _ _ _ _
      | exact ih5 _ _ _ _ _
      | exact diff_Bound.mono _ _ _
      | exact diff_Cover.mono _ _ _
      | exact leaf_Gaps.mono _ _ _
      | exact leaf_Has.mono _ _ _ _
      | exact leaf_Many.mono _ _ _
      | exact medlarlaw11_live.mono _
      | exact sub_Has.mono _ _ _ _ _
      | exact sub_Leaves.mono _ _ _ _
      | exact sub_Less.mono _ _ _ _ _
      | exact sub_Touch.mono _ _ _ _ _ _
      | exact LeO.none _
      | refine LeO.ite ?_ ?_
      | refine LeO.bind ?_ (fun _ => ?_)
    · intro y0 y1 y2 y3 y4
      unfold medlarlaw11_DiffCovers.j5
      repeat' first
      | (with_reducible exact ih0 _ _ _ _ _ _)
      | (with_reducible exact ih1 _ _ _ _ _ _ _ _ _ _ _ _)
      | (with_reducible exact ih2 _ _ _ _ _ _ _ _ _ _ _ _ _ _ _ _ _)
      | (with_reducible exact ih3 _ _ _ _ _ _ _ _ _ _ _ _ _ _ _)
      | (with_reducible exact ih4 _ _ _ _ _ _ _ _ _ _ _ _ _ _ _ _ _)
      | (with_reducible exact ih5 _ _ _ _ _)
      | (with_reducible exact diff_Bound.mono _ _ _)
      | (with_reducible exact diff_Cover.mono _ _ _)
      | (with_reducible exact leaf_Gaps.mono _ _ _)
      | (with_reducible exact leaf_Has.mono _ _ _ _)
      | (with_reducible exact leaf_Many.mono _ _ _)
      | (with_reducible exact medlarlaw11_live.mono _)
      | (with_reducible exact sub_Has.mono _ _ _ _ _)
      | (with_reducible exact sub_Leaves.mono _ _ _ _)
      | (with_reducible exact sub_Less.mono _ _ _ _ _)
      | (with_reducible exact sub_Touch.mono _ _ _ _ _ _)
      | (with_reducible exact LeO.refl _)
      | (with_reducible exact LeO.none _)
      | (with_reducible refine LeO.ite ?_ ?_)
      | (with_reducible refine LeO.bind ?_ (fun _ => ?_))
      | exact ih0 _ _ _ _ _ _
      | exact ih1 _ _ _ _ _ _ _ _ _ _ _ _
      | exact ih2 _ _ _ _ _ _ _ _ _ _ _ _ _ _ _ _ _
      | exact ih3 _ _ _ _ _ _ _ _ _ _ _ _ _ _ _
      | exact ih4 _ _ _ _ _ _ _ _ _ _ _ _ _ _ _ _ _
      | exact ih5 _ _ _ _ _
      | exact diff_Bound.mono _ _ _
      | exact diff_Cover.mono _ _ _
      | exact leaf_Gaps.mono _ _ _
      | exact leaf_Has.mono _ _ _ _
      | exact leaf_Many.mono _ _ _
      | exact medlarlaw11_live.mono _
      | exact sub_Has.mono _ _ _ _ _
      | exact sub_Leaves.mono _ _ _ _
      | exact sub_Less.mono _ _ _ _ _
      | exact sub_Touch.mono _ _ _ _ _ _
      | exact LeO.none _
      | refine LeO.ite ?_ ?_
      | refine LeO.bind ?_ (fun _ => ?_)
theorem medlarlaw11_DiffCovers.mono : ∀ a0 a1 a2 k, LeO (medlarlaw11_DiffCovers.f k a0 a1 a2) (medlarlaw11_DiffCovers.f (k + 1) a0 a1 a2) := by
  intro a0 a1 a2 k
  obtain ⟨ih0, ih1, ih2, ih3, ih4, ih5⟩ := medlarlaw11_DiffCovers.mono_l k
  unfold medlarlaw11_DiffCovers.f
  repeat' first
      | (with_reducible exact ih0 _ _ _ _ _ _)
      | (with_reducible exact ih1 _ _ _ _ _ _ _ _ _ _ _ _)
      | (with_reducible exact ih2 _ _ _ _ _ _ _ _ _ _ _ _ _ _ _ _ _)
      | (with_reducible exact ih3 _ _ _ _ _ _ _ _ _ _ _ _ _ _ _)
      | (with_reducible exact ih4 _ _ _ _ _ _ _ _ _ _ _ _ _ _ _ _ _)
      | (with_reducible exact ih5 _ _ _ _ _)
      | (with_reducible exact diff_Bound.mono _ _ _)
      | (with_reducible exact diff_Cover.mono _ _ _)
      | (with_reducible exact leaf_Gaps.mono _ _ _)
      | (with_reducible exact leaf_Has.mono _ _ _ _)
      | (with_reducible exact leaf_Many.mono _ _ _)
      | (with_reducible exact medlarlaw11_live.mono _)
      | (with_reducible exact sub_Has.mono _ _ _ _ _)
      | (with_reducible exact sub_Leaves.mono _ _ _ _)
      | (with_reducible exact sub_Less.mono _ _ _ _ _)
      | (with_reducible exact sub_Touch.mono _ _ _ _ _ _)
      | (with_reducible exact LeO.refl _)
      | (with_reducible exact LeO.none _)
      | (with_reducible refine LeO.ite ?_ ?_)
      | (with_reducible refine LeO.bind ?_ (fun _ => ?_))
      | exact ih0 _ _ _ _ _ _
      | exact ih1 _ _ _ _ _ _ _ _ _ _ _ _
      | exact ih2 _ _ _ _ _ _ _ _ _ _ _ _ _ _ _ _ _
      | exact ih3 _ _ _ _ _ _ _ _ _ _ _ _ _ _ _
      | exact ih4 _ _ _ _ _ _ _ _ _ _ _ _ _ _ _ _ _
      | exact ih5 _ _ _ _ _
      | exact diff_Bound.mono _ _ _
      | exact diff_Cover.mono _ _ _
      | exact leaf_Gaps.mono _ _ _
      | exact leaf_Has.mono _ _ _ _
      | exact leaf_Many.mono _ _ _
      | exact medlarlaw11_live.mono _
      | exact sub_Has.mono _ _ _ _ _
      | exact sub_Leaves.mono _ _ _ _
      | exact sub_Less.mono _ _ _ _ _
      | exact sub_Touch.mono _ _ _ _ _ _
      | exact LeO.none _
      | refine LeO.ite ?_ ?_
      | refine LeO.bind ?_ (fun _ => ?_)
def medlarlaw11_DiffCovers.T17 : Bool × List (List Nat × List Nat) := (true, [([], []), ([], []), ([0, 1], [0, 1]), ([2], [2]), ([3], [3]), ([4, 3], [3, 4]), ([5, 3, 3], [3, 5]), ([6], [6]), ([6], [6]), ([8, 6], [6, 8]), ([7, 9, 6], [6, 7, 9]), ([10, 6], [6, 10]), ([6], [6]), ([11, 12, 6, 6], [6, 11, 12]), ([13, 6], [6, 13]), ([6, 14, 3], [3, 6, 14]), ([3, 15], [3, 15])])
def medlarlaw11_DiffCovers.B17 : List Nat := [0, 0, 3, 7, 15, 31, 63, 127, 127, 383, 1023, 2047, 127, 8191, 16383, 32767, 65535]
theorem medlarlaw11_DiffCovers.tab17 : rtab .any (opsOf Try.f6 17) = medlarlaw11_DiffCovers.T17 := by kernel_rfl
theorem medlarlaw11_DiffCovers.bits17 : waitsOk medlarlaw11_DiffCovers.T17.2 medlarlaw11_DiffCovers.B17 = true := by kernel_rfl
set_option maxHeartbeats 8000000 in
set_option maxRecDepth 100000 in
theorem medlarlaw11_DiffCovers.calls (k : Nat) (a0 : Int) (A1 : Option Addr) (c1 : Nat) (l1 : List Int) (a2 : Int) (r : Bool) (w : World) (hr1 : Kd.C (Kd.int .u64) w A1 l1.length l1) (hc1 : l1.length ≤ c1) (h : medlarlaw11_DiffCovers.f k a0 l1 a2 = some r) (hT : Aside0 (r = true)) :
    Calls Try.prog 6 #[.int .i64 a0, .slice A1 l1.length c1, .int .u64 a2] w fun e w' => e = .returned (.bool r) ∧ Below w.heap.size w w' := by
  have hu34 := Try.underlying34
  have HR1 := Aside0.mk hr1
  have HC1 := Aside0.mk hc1
  clear hr1 hc1
  have HB := Aside0.mk (Below.refl w.heap.size w)
  have H : ((medlarlaw11_live.f k).bind fun t511 => (if (l1.length : Int) > 30 then (some t511) else ((diff_Cover.f k a0 l1).bind fun bt512 => (if bt512.2 = 0 then ((diff_Bound.f k a0 (l1.length : Int)).bind fun bt516 => (if bt516.2 = 0 then (medlarlaw11_DiffCovers.j0 k a0 l1 a2 t511 bt512.1 (decide ((IntKind.u64.wrap ((bt512.1.length : Int))) > bt516.1))) else (medlarlaw11_DiffCovers.j0 k a0 l1 a2 t511 bt512.1 true))) else (if t511 = true then (some ((bt512.1.length : Int) == 0)) else (some false)))))) = some r := h
  clear h
  replace H := Option.bind_eq_some_iff.mp H
  obtain ⟨t511, A40, H⟩ := H
  replace H : (if (l1.length : Int) > 30 then (some t511) else ((diff_Cover.f k a0 l1).bind fun bt512 => (if bt512.2 = 0 then ((diff_Bound.f k a0 (l1.length : Int)).bind fun bt516 => (if bt516.2 = 0 then (medlarlaw11_DiffCovers.j0 k a0 l1 a2 t511 bt512.1 (decide ((IntKind.u64.wrap ((bt512.1.length : Int))) > bt516.1))) else (medlarlaw11_DiffCovers.j0 k a0 l1 a2 t511 bt512.1 true))) else (if t511 = true then (some ((bt512.1.length : Int) == 0)) else (some false))))) = some r := H
  have A4 := Aside0.mk A40
  clear A40
  by_cases c5 : (l1.length : Int) > 30
  · rw [if_pos c5] at H
    have c5b0 : decide (30 < (l1.length : Int)) = true := decide_eq_true c5
    have c5b1 : decide (30 < l1.length) = true := decide_eq_true (by omega)
    clear c5
    obtain rfl := Option.some.inj H
    go_enter Try.func6, Try.ntmps6
    go_wp2_with (first | ((with_reducible refine gate_callee (f := 14) rfl ?_); refine goesL_ (some 32) rfl rfl Try.func14 (by kernel_rfl) rfl #[] rfl (by (try simp only [List.map_toArray, List.map_cons, List.map_nil]); first | done | rfl | (simp only [List.length_drop, List.length_take]; rfl)) ?_; (with_reducible refine (medlarlaw11_live.calls k  t511 _ A4.out).mono ?_); rintro e w6 ⟨rfl, hb⟩; refine ⟨_, rfl, ?_⟩; have n0_ := Aside0.mk (below_step (by repeat (first | (with_reducible first | exact HB.out | apply below_alloc | apply pw_below_drewN | apply below_drew1) | exact HB.out)) hb); clear HB; have HB := n0_; clear n0_; (try clear hb); (try clear hb2); (try clear hk); (try clear hi)))
    go_ret
    exact ⟨by first | rfl | (simp [errW_none, errW_some] <;> rfl) | (simp [*, errW_none, errW_some] <;> rfl), by repeat (first | (with_reducible first | exact HB.out | apply below_alloc | apply pw_below_drewN | apply below_drew1) | exact HB.out)⟩
  · rw [if_neg c5] at H
    have c5b0 : decide (30 < (l1.length : Int)) = false := decide_eq_false c5
    have c5b1 : decide (30 < l1.length) = false := decide_eq_false (by omega)
    clear c5
    replace H := Option.bind_eq_some_iff.mp H
    obtain ⟨⟨t512, t513⟩, A70, H⟩ := H
    replace H : (if t513 = 0 then ((diff_Bound.f k a0 (l1.length : Int)).bind fun bt516 => (if bt516.2 = 0 then (medlarlaw11_DiffCovers.j0 k a0 l1 a2 t511 t512 (decide ((IntKind.u64.wrap ((t512.length : Int))) > bt516.1))) else (medlarlaw11_DiffCovers.j0 k a0 l1 a2 t511 t512 true))) else (if t511 = true then (some ((t512.length : Int) == 0)) else (some false))) = some r := H
    have A7 := Aside0.mk A70
    clear A70
    by_cases c8 : t513 = 0
    · rw [if_pos c8] at H
      have c8b0 : (t513 == 0) = true := beq_iff_eq.mpr c8
      have c8b1 : (t513 != 0) = false := bne_eq_false_iff_eq.mpr c8
      clear c8
      replace H := Option.bind_eq_some_iff.mp H
      obtain ⟨⟨t516, t517⟩, A90, H⟩ := H
      replace H : (if t517 = 0 then (medlarlaw11_DiffCovers.j0 k a0 l1 a2 t511 t512 (decide ((IntKind.u64.wrap ((t512.length : Int))) > t516))) else (medlarlaw11_DiffCovers.j0 k a0 l1 a2 t511 t512 true)) = some r := H
      have A9 := Aside0.mk A90
      clear A90
      have HC10 := Aside0.mk H
      clear H
      go_enter Try.func6, Try.ntmps6
      go_upto_region 8 with (first | ((with_reducible refine gate_callee (f := 14) rfl ?_); refine goesL_ (some 32) rfl rfl Try.func14 (by kernel_rfl) rfl #[] rfl (by (try simp only [List.map_toArray, List.map_cons, List.map_nil]); first | done | rfl | (simp only [List.length_drop, List.length_take]; rfl)) ?_; (with_reducible refine (medlarlaw11_live.calls k  t511 _ A4.out).mono ?_); rintro e w11 ⟨rfl, hb⟩; refine ⟨_, rfl, ?_⟩; have n0_ := Aside0.mk (below_step (by repeat (first | (with_reducible first | exact HB.out | apply below_alloc | apply pw_below_drewN | apply below_drew1) | exact HB.out)) hb); clear HB; have HB := n0_; clear n0_; (try clear hb); (try clear hb2); (try clear hk); (try clear hi)) | ((with_reducible refine gate_callee (f := 15) rfl ?_); refine goesL_ (some 40) rfl rfl Try.func15 (by kernel_rfl) rfl #[.int .i64 a0, .slice A1 l1.length c1] rfl (by (try simp only [List.map_toArray, List.map_cons, List.map_nil]); first | done | rfl | (simp only [List.length_drop, List.length_take]; rfl)) ?_; (with_reducible refine (diff_Cover.calls k a0 _ _ l1 t512 t513 _ ?side1 ?side2 A7.out).mono ?_); (case side1 => repeat (first | exact (Kd.C_below HR1.out HB.out) | (with_reducible refine Kd.C_alloc ?_ _) | (with_reducible refine Kd.C_drewN ?_ _) | (with_reducible refine Kd.C_drew ?_))); (case side2 => exact HC1.out); rintro e w12 ⟨v514, rfl, ho0, hb⟩; refine ⟨_, rfl, ?_⟩; have n0_ := Aside0.mk (Kd.R_lower ho0 (below_size (by repeat (first | (with_reducible first | exact HB.out | apply below_alloc | apply pw_below_drewN | apply below_drew1) | exact HB.out)))); have n1_ := Aside0.mk (below_step (by repeat (first | (with_reducible first | exact HB.out | apply below_alloc | apply pw_below_drewN | apply below_drew1) | exact HB.out)) hb); clear HB; have HO515 := n0_; have HB := n1_; clear n0_ n1_; (try clear hb); (try clear hb2); (try clear hk); (try clear hi); (try clear ho0)) | ((with_reducible refine gate_callee (f := 17) rfl ?_); refine goesL_ (some 55) rfl rfl Try.func17 (by kernel_rfl) rfl #[.int .i64 a0, .int .i64 (l1.length : Int)] rfl (by (try simp only [List.map_toArray, List.map_cons, List.map_nil]); first | done | rfl | (simp only [List.length_drop, List.length_take]; rfl)) ?_; (with_reducible refine (diff_Bound.calls k a0 (l1.length : Int) t516 t517 _ A9.out).mono ?_); rintro e w13 ⟨rfl, hb⟩; refine ⟨_, rfl, ?_⟩; have n0_ := Aside0.mk (Kd.R_below (by (with_reducible repeat (first | apply Kd.R_alloc | apply Kd.R_drewN | apply Kd.R_drew)); exact HO515.out) hb); have n1_ := Aside0.mk (below_step (by repeat (first | (with_reducible first | exact HB.out | apply below_alloc | apply pw_below_drewN | apply below_drew1) | exact HB.out)) hb); clear HO515; clear HB; have HO515 := n0_; have HB := n1_; clear n0_ n1_; (try clear hb); (try clear hb2); (try clear hk); (try clear hi)))
      (try simp only [Act.put, List.setIfInBounds_toArray, List.set_cons_zero, List.set_cons_succ])
      go_cut [66] (fun v66 wc => ∃ (kq : Nat) (x66_9 : Bool), v66 = .bool x66_9 ∧ Aside0 (medlarlaw11_DiffCovers.j0 kq a0 l1 a2 t511 t512 x66_9 = some r) ∧ Aside0 (kq ≤ k) ∧ Aside0 (Kd.R k34 34 wc w.heap.size (fun _ => True) v514 t512) ∧ Aside0 (Below w.heap.size w wc))
      case first =>
        have H := HC10.out
        clear HC10
        by_cases c14 : t517 = 0
        · rw [if_pos c14] at H
          have c14b0 : (t517 == 0) = true := beq_iff_eq.mpr c14
          have c14b1 : (t517 != 0) = false := bne_eq_false_iff_eq.mpr c14
          clear c14
          (first | rw [c14b0] | (simp only [i64_w, i32_w]; rw [c14b0]) | skip)
          have H' := Aside0.mk H
          clear H
          obtain ⟨Ao15, co15, eo15⟩ := Kd.R_slice HO515.out
          subst eo15
          go_wp2
          go_meet
          case rel => exact ⟨_, (decide ((IntKind.u64.wrap ((t512.length : Int))) > t516)), (by first | rfl | (simp; done) | (simp [*]; done)), H', ⟨by first | omega | exact Nat.le_refl _⟩, ⟨by (with_reducible repeat (first | apply Kd.R_alloc | apply Kd.R_drewN | apply Kd.R_drew)); exact HO515.out⟩, ⟨by repeat (first | (with_reducible first | exact HB.out | apply below_alloc | apply pw_below_drewN | apply below_drew1) | exact HB.out)⟩⟩
        · rw [if_neg c14] at H
          have c14b0 : (t517 == 0) = false := beq_eq_false_iff_ne.mpr c14
          have c14b1 : (t517 != 0) = true := bne_iff_ne.mpr c14
          (first | rw [c14b0] | (simp only [i64_w, i32_w]; rw [c14b0]) | skip)
          have H' := Aside0.mk H
          clear H
          go_wp2
          go_meet
          case rel => exact ⟨_, (true), (by first | rfl | (simp; done) | (simp [*]; done)), H', ⟨by first | omega | exact Nat.le_refl _⟩, ⟨by (with_reducible repeat (first | apply Kd.R_alloc | apply Kd.R_drewN | apply Kd.R_drew)); exact HO515.out⟩, ⟨by repeat (first | (with_reducible first | exact HB.out | apply below_alloc | apply pw_below_drewN | apply below_drew1) | exact HB.out)⟩⟩
      case rest =>
        clear HC10
        try clear c1
        try clear p2
        try clear c5
        try clear c5b0
        try clear c5b1
        try clear c6
        try clear c8
        try clear c8b0
        try clear c8b1
        try clear c14
        try clear c14b0
        try clear c14b1
        try clear c15
        obtain ⟨kq, x66_9, rfl, HA, HJ9, HO_8, HB⟩ := hcut
        cases kq with
        | zero => exact absurd HA.out (by simp [medlarlaw11_DiffCovers.j0])
        | succ kj9 =>
          have H := HA.out
          clear HA
          simp only [medlarlaw11_DiffCovers.j0] at H
          by_cases c16 : x66_9 = true
          · subst c16
            have H1 : (some false) = some r := by rw [if_pos rfl] at H; exact H
            clear H
            have H := H1
            clear H1
            exact absurd ((Option.some.inj H).trans hT.out) Bool.false_ne_true
          · replace c16 := Bool.eq_false_iff.mpr c16
            subst c16
            have H1 : ((leaf_Has.f kj9 a0 l1 a2).bind fun bt518 => (medlarlaw11_DiffCovers.l0 kj9 a0 l1 a2 t511 t512 0 bt518.1 bt518.2 0 t512 (t512.length : Int) 0)) = some r := by rw [if_neg (show ¬ (false = true) by decide)] at H; exact H
            clear H
            have H := H1
            clear H1
            replace H := Option.bind_eq_some_iff.mp H
            obtain ⟨⟨t518, t519⟩, A170, H⟩ := H
            replace H : (medlarlaw11_DiffCovers.l0 kj9 a0 l1 a2 t511 t512 0 t518 t519 0 t512 (t512.length : Int) 0) = some r := H
            have A17 := Aside0.mk A170
            clear A170
            have H' := Aside0.mk H
            clear H
            go_wp2_with (first | ((with_reducible refine gate_callee (f := 23) rfl ?_); refine goesL_ (some 71) rfl rfl Try.func23 (by kernel_rfl) rfl #[.int .i64 a0, .slice A1 l1.length c1, .int .u64 a2] rfl (by (try simp only [List.map_toArray, List.map_cons, List.map_nil]); first | done | rfl | (simp only [List.length_drop, List.length_take]; rfl)) ?_; (with_reducible refine (leaf_Has.calls kj9 a0 _ _ l1 a2 t518 t519 _ ?side1 ?side2 A17.out).mono ?_); (case side1 => repeat (first | exact (Kd.C_below HR1.out HB.out) | (with_reducible refine Kd.C_alloc ?_ _) | (with_reducible refine Kd.C_drewN ?_ _) | (with_reducible refine Kd.C_drew ?_))); (case side2 => exact HC1.out); rintro e w' ⟨rfl, ⟨nd, rfl⟩⟩; refine ⟨_, rfl, ?_⟩; obtain ⟨Ao18, co18, eo18⟩ := Kd.R_slice HO_8.out; subst eo18))
            go_loopg [12, 15, 76] kj9 (fun kq v12 v15 v76 w' => ∃ (x12_2 : Int) (x15_2 : Int) (x76_2 : Int), v12 = .int .i64 x12_2 ∧ v15 = .int .u64 x15_2 ∧ v76 = .int .i64 x76_2 ∧ Aside0 (medlarlaw11_DiffCovers.l0 kq a0 l1 a2 t511 t512 x12_2 t518 t519 x15_2 t512 (t512.length : Int) x76_2 = some r) ∧ Aside0 (kq ≤ kj9) ∧ Aside0 (Kd.R k34 34 w' w.heap.size (fun _ => True) (.slice Ao18 t512.length co18) t512) ∧ Aside0 (Kd.R k34 34 w' w.heap.size (fun _ => True) (.slice Ao18 t512.length co18) t512) ∧ Aside0 (Below w.heap.size w w'))
            case atStart => exact ⟨(0), (0), (0), (by first | rfl | (simp; done) | (simp [*]; done)), (by first | rfl | (simp; done) | (simp [*]; done)), (by first | rfl | (simp; done) | (simp [*]; done)), H', ⟨Nat.le_refl _⟩, ⟨by (with_reducible repeat (first | apply Kd.R_alloc | apply Kd.R_drewN | apply Kd.R_drew)); exact HO_8.out⟩, ⟨by (with_reducible repeat (first | apply Kd.R_alloc | apply Kd.R_drewN | apply Kd.R_drew)); exact HO_8.out⟩, ⟨by repeat (first | (with_reducible first | exact HB.out | apply below_alloc | apply pw_below_drewN | apply below_drew1) | exact HB.out)⟩⟩
            case round =>
              clear H'
              try clear c1
              try clear c2
              try clear p2
              try clear c5
              try clear c5b0
              try clear c5b1
              try clear c6
              try clear c8
              try clear c8b0
              try clear c8b1
              try clear c14
              try clear c14b0
              try clear c14b1
              try clear c15
              try clear c16
              try clear c17
              try clear p2
              obtain ⟨x12_2, x15_2, x76_2, rfl, rfl, rfl, HA, HK2, HO_8, HO_74, HB⟩ := hrel
              cases gk with
              | zero => exact absurd HA.out (by simp [medlarlaw11_DiffCovers.l0])
              | succ k2 =>
                have H := HA.out
                clear HA
                simp only [medlarlaw11_DiffCovers.l0] at H
                by_cases c19 : x76_2 < (t512.length : Int)
                · rw [if_pos c19] at H
                  have c19b0 : decide (x76_2 < (t512.length : Int)) = true := decide_eq_true c19
                  clear c19
                  by_cases c20 : 0 ≤ x76_2
                  · rw [if_pos c20] at H
                    have c20b0 : decide (0 ≤ x76_2) = true := decide_eq_true c20
                    clear c20
                    by_cases c21 : x76_2 < (t512.length : Int)
                    · rw [if_pos c21] at H
                      have c21b0 : decide (x76_2 < (t512.length : Int)) = true := decide_eq_true c21
                      clear c21
                      replace H := Option.bind_eq_some_iff.mp H
                      obtain ⟨⟨t522, t523⟩, A220, H⟩ := H
                      replace H : (if t523 = t519 then (if x76_2 > 0 then (if 0 ≤ (wrap64 (x76_2 - 1)) then (if (wrap64 (x76_2 - 1)) < (t512.length : Int) then ((sub_Less.f k2 ((rd_T34 t512 (wrap64 (x76_2 - 1))).f0) ((rd_T34 t512 (wrap64 (x76_2 - 1))).f1) ((rd_T34 t512 x76_2).f0) ((rd_T34 t512 x76_2).f1)).bind fun t525 => (medlarlaw11_DiffCovers.j2 k2 a0 l1 a2 t511 t512 x12_2 t518 t519 x15_2 x76_2 t522 t512 (t512.length : Int) x76_2 (!t525) ((rd_T34 t512 x76_2).f0) ((rd_T34 t512 x76_2).f1))) else (none)) else (none)) else (medlarlaw11_DiffCovers.j2 k2 a0 l1 a2 t511 t512 x12_2 t518 t519 x15_2 x76_2 t522 t512 (t512.length : Int) x76_2 false ((rd_T34 t512 x76_2).f0) ((rd_T34 t512 x76_2).f1))) else (medlarlaw11_DiffCovers.j2 k2 a0 l1 a2 t511 t512 x12_2 t518 t519 x15_2 x76_2 t522 t512 (t512.length : Int) x76_2 true ((rd_T34 t512 x76_2).f0) ((rd_T34 t512 x76_2).f1))) = some r := H
                      have A22 := Aside0.mk A220
                      clear A220
                      have HC23 := Aside0.mk H
                      clear H
                      have p520 : 0 ≤ (x76_2 : Int) := of_decide_eq_true (by first | (with_reducible assumption) | assumption)
                      have q520 : x76_2 < (t512.length : Int) := of_decide_eq_true (by first | (with_reducible assumption) | assumption)
                      obtain ⟨ad520, e520, hx520_0, hx520_1⟩ := at_T34 (Kd.R_reads' HO_74.out).2.2 x76_2 p520 q520
                      cases e520
                      replace p520 := eq_true p520
                      replace q520 := eq_true q520
                      go_upto_region 17 with (first | ((with_reducible refine gate_dst (N := 17) rfl ?_); (try (refine gate_guard (by rfl) ?_; dsimp only)); refine box_event ?hg (N := 17) ?hd (cs := #[.int .u64 0, .int .u64 0]) (t := 34) ?hr ?_; (case hd => rfl); (case hg => rfl); (case hr => first | (go_simp; done) | (go_simp; rfl)); intro gb521 hg w24 hbox hb; have n0_ := Aside0.mk (Kd.R_below (Kd.R_elderB (by (with_reducible repeat (first | apply Kd.R_alloc | apply Kd.R_drewN | apply Kd.R_drew)); exact HO_8.out) gb521 (Nat.le_of_eq hg.symm)) hb); have n1_ := Aside0.mk (Kd.R_below (Kd.R_elderB (by (with_reducible repeat (first | apply Kd.R_alloc | apply Kd.R_drewN | apply Kd.R_drew)); exact HO_74.out) gb521 (Nat.le_of_eq hg.symm)) hb); have n2_ := Aside0.mk (below_step (by repeat (first | (with_reducible first | exact HB.out | apply below_alloc | apply pw_below_drewN | apply below_drew1) | exact HB.out)) hb); have n3_ := Aside0.mk (hbox); have n4_ := Aside0.mk ((by rw [hg]; exact (below_size (by repeat (first | (with_reducible first | exact HB.out | apply below_alloc | apply pw_below_drewN | apply below_drew1) | exact HB.out))) : w.heap.size ≤ gb521)); have n5_ := Aside0.mk ((by rw [hg]; exact (below_size (by repeat (first | (with_reducible first | exact HB.out | apply below_alloc | apply pw_below_drewN | apply below_drew1) | exact HB.out))) : w.heap.size ≤ gb521)); clear HO_8; clear HO_74; clear HB; have HO_8 := n0_; have HO_74 := n1_; have HB := n2_; have BK521 := n3_; have GW521 := n4_; have GE521 := n5_; clear n0_ n1_ n2_ n3_ n4_ n5_; clear hb hbox hg; have hcz25_0 : w24.cell? ⟨gb521, 0, none⟩ = some (.int .u64 0) := (blk_cell BK521.out 0).trans rfl; have hcz25_1 : w24.cell? ⟨gb521, 1, none⟩ = some (.int .u64 0) := (blk_cell BK521.out 1).trans rfl; have hfz25_0 := blk_frozen BK521.out 0; have hfz25_1 := blk_frozen BK521.out 1) | ((with_reducible refine gate_callee (f := 20) rfl ?_); refine goesL_ (some 85) rfl rfl Try.func20 (by kernel_rfl) rfl #[.int .i64 a0, .agg #[.int .u64 ((rd_T34 t512 x76_2).f0), .int .u64 ((rd_T34 t512 x76_2).f1)], .int .u64 a2] rfl (by (try simp only [List.map_toArray, List.map_cons, List.map_nil]); first | done | rfl | (simp only [List.length_drop, List.length_take]; rfl)) ?_; (with_reducible refine (sub_Has.calls k2 a0 ((rd_T34 t512 x76_2).f0) ((rd_T34 t512 x76_2).f1) a2 t522 t523 _ A22.out).mono ?_); rintro e w26 ⟨rfl, hb⟩; refine ⟨_, rfl, ?_⟩; have n0_ := Aside0.mk (Kd.R_below (by (with_reducible repeat (first | apply Kd.R_alloc | apply Kd.R_drewN | apply Kd.R_drew)); exact (Kd.R_mono (Kd.R_far (p := ⟨gb521, 1, none⟩) (Kd.R_far (p := ⟨gb521, 0, none⟩) (Kd.R_mono HO_8.out (fun k_ hk => (⟨hk, hk.2⟩ : _ ∧ k_ ≠ gb521))) (fun _ hk => hk.2) (.int .u64 ((rd_T34 t512 x76_2).f0))) (fun _ hk => hk.2) (.int .u64 ((rd_T34 t512 x76_2).f1))) (fun _ h_ => h_.1))) hb); have n1_ := Aside0.mk (Kd.R_below (by (with_reducible repeat (first | apply Kd.R_alloc | apply Kd.R_drewN | apply Kd.R_drew)); exact (Kd.R_mono (Kd.R_far (p := ⟨gb521, 1, none⟩) (Kd.R_far (p := ⟨gb521, 0, none⟩) (Kd.R_mono HO_74.out (fun k_ hk => (⟨hk, hk.2⟩ : _ ∧ k_ ≠ gb521))) (fun _ hk => hk.2) (.int .u64 ((rd_T34 t512 x76_2).f0))) (fun _ hk => hk.2) (.int .u64 ((rd_T34 t512 x76_2).f1))) (fun _ h_ => h_.1))) hb); have n2_ := Aside0.mk (blk_below (g := gb521) (o := .cells #[.int .u64 ((rd_T34 t512 x76_2).f0), .int .u64 ((rd_T34 t512 x76_2).f1)] 34 (0, 0)) (by (with_reducible repeat (first | refine blk_drewN ?_ _ | refine blk_drew ?_ | refine blk_alloc ?_ _)); refine blk_put (cs := #[.int .u64 ((rd_T34 t512 x76_2).f0), .int .u64 0]) ?_ 1 _ rfl; (with_reducible repeat (first | refine blk_drewN ?_ _ | refine blk_drew ?_ | refine blk_alloc ?_ _)); refine blk_put (cs := #[.int .u64 0, .int .u64 0]) ?_ 0 _ rfl; (with_reducible repeat (first | refine blk_drewN ?_ _ | refine blk_drew ?_ | refine blk_alloc ?_ _)); exact BK521.out) hb); have n3_ := Aside0.mk (below_step (by repeat (first | (with_reducible first | exact HB.out | apply below_alloc | apply pw_below_drewN | apply below_drew1 | refine below_set ?_ GE521.out) | exact HB.out)) hb); clear HO_8; clear HO_74; clear BK521; clear HB; have HO_8 := n0_; have HO_74 := n1_; have BK521 := n2_; have HB := n3_; clear n0_ n1_ n2_ n3_; (try clear hb); (try clear hb2); (try clear hk); (try clear hi)))
                      (try simp only [Act.put, List.setIfInBounds_toArray, List.set_cons_zero, List.set_cons_succ])
                      go_cut [104] (fun v104 wc => ∃ (kq : Nat) (x104_22 : Bool), v104 = .bool x104_22 ∧ Aside0 (medlarlaw11_DiffCovers.j2 kq a0 l1 a2 t511 t512 x12_2 t518 t519 x15_2 x76_2 t522 t512 (t512.length : Int) x76_2 x104_22 ((rd_T34 t512 x76_2).f0) ((rd_T34 t512 x76_2).f1) = some r) ∧ Aside0 (kq ≤ k2) ∧ Aside0 (Kd.R k34 34 wc w.heap.size (fun k_ => k_ ≠ gb521) (.slice (some ad520) t512.length co18) t512) ∧ Aside0 (Kd.R k34 34 wc w.heap.size (fun k_ => k_ ≠ gb521) (.slice (some ad520) t512.length co18) t512) ∧ Aside0 (wc.heap[gb521]? = some (.cells #[.int .u64 ((rd_T34 t512 x76_2).f0), .int .u64 ((rd_T34 t512 x76_2).f1)] 34 (0, 0))) ∧ Aside0 (Below w.heap.size w wc))
                      case first =>
                        have H := HC23.out
                        clear HC23
                        by_cases c27 : t523 = t519
                        · rw [if_pos c27] at H
                          have c27b0 : (t523 == t519) = true := beq_iff_eq.mpr c27
                          have c27b1 : (t523 != t519) = false := bne_eq_false_iff_eq.mpr c27
                          clear c27
                          (first | rw [c27b0] | (simp only [i64_w, i32_w]; rw [c27b0]) | skip)
                          by_cases c28 : x76_2 > 0
                          · rw [if_pos c28] at H
                            have c28b0 : decide (0 < x76_2) = true := decide_eq_true c28
                            clear c28
                            obtain ⟨ji29, hji29⟩ : ∃ j_ : Int, (wrap64 (x76_2 - 1)) = j_ := ⟨_, rfl⟩
                            replace H : (if 0 ≤ (ji29) then (if (ji29) < (t512.length : Int) then ((sub_Less.f k2 ((rd_T34 t512 (ji29)).f0) ((rd_T34 t512 (ji29)).f1) ((rd_T34 t512 x76_2).f0) ((rd_T34 t512 x76_2).f1)).bind fun t525 => (medlarlaw11_DiffCovers.j2 k2 a0 l1 a2 t511 t512 x12_2 t518 t519 x15_2 x76_2 t522 t512 (t512.length : Int) x76_2 (!t525) ((rd_T34 t512 x76_2).f0) ((rd_T34 t512 x76_2).f1))) else (none)) else (none)) = some r := by first | (rw [hji29] at H; exact H) | (simp only [hji29] at H ⊢; exact H)
                            have hji29w : (IntKind.i64.wrap (x76_2 - 1)) = ji29 := (i64_w _).trans hji29
                            by_cases c30 : 0 ≤ (ji29)
                            · rw [if_pos c30] at H
                              have c30b0 : decide (0 ≤ (ji29)) = true := decide_eq_true c30
                              clear c30
                              by_cases c31 : (ji29) < (t512.length : Int)
                              · rw [if_pos c31] at H
                                have c31b0 : decide ((ji29) < (t512.length : Int)) = true := decide_eq_true c31
                                clear c31
                                replace H := Option.bind_eq_some_iff.mp H
                                obtain ⟨t525, A320, H⟩ := H
                                replace H : (medlarlaw11_DiffCovers.j2 k2 a0 l1 a2 t511 t512 x12_2 t518 t519 x15_2 x76_2 t522 t512 (t512.length : Int) x76_2 (!t525) ((rd_T34 t512 x76_2).f0) ((rd_T34 t512 x76_2).f1)) = some r := H
                                have A32 := Aside0.mk A320
                                clear A320
                                have H' := Aside0.mk H
                                clear H
                                try go_wp2
                                have n0_ := Aside0.mk (Kd.R_drew HO_8.out)
                                have n1_ := Aside0.mk (Kd.R_drew HO_74.out)
                                have n2_ := Aside0.mk (blk_drew BK521.out)
                                have n3_ := Aside0.mk (below_drew1 HB.out)
                                clear HO_8
                                clear HO_74
                                clear BK521
                                clear HB
                                have HO_8 := n0_
                                have HO_74 := n1_
                                have BK521 := n2_
                                have HB := n3_
                                clear n0_ n1_ n2_ n3_
                                have p524 : 0 ≤ ((ji29) : Int) := of_decide_eq_true (by first | (with_reducible assumption) | assumption)
                                have q524 : (ji29) < (t512.length : Int) := of_decide_eq_true (by first | (with_reducible assumption) | assumption)
                                obtain ⟨ad524, e524, hx524_0, hx524_1⟩ := at_T34 (Kd.R_reads' HO_8.out).2.2 (ji29) p524 q524
                                obtain rfl : ad520 = ad524 := (by injection e524)
                                replace p524 := eq_true p524
                                replace q524 := eq_true q524
                                refine start_ (n := 17) (S := fun w' => w'.cell? ⟨gb521, 0, none⟩ = some (.int .u64 ((rd_T34 t512 x76_2).f0)) ∧ w'.cell? ⟨gb521, 1, none⟩ = some (.int .u64 ((rd_T34 t512 x76_2).f1)) ∧ w'.cell? (ad520.add (((ji29)).toNat * 2)) = some (.int .u64 ((rd_T34 t512 (ji29)).f0)) ∧ w'.cell? ⟨(ad520.add (((ji29)).toNat * 2)).block, (ad520.add (((ji29)).toNat * 2)).off + 1, none⟩ = some (.int .u64 ((rd_T34 t512 (ji29)).f1))) (ds := []) #[false, false, false, false, false, false, false, false, false, false, false, false, false, false, false, false, false] (by kernel_rfl) rfl rfl ⟨(blk_cell BK521.out 0).trans rfl, (blk_cell BK521.out 1).trans rfl, hx524_0, hx524_1⟩ (fun hHeld => ?_); refine with_tabW medlarlaw11_DiffCovers.tab17 medlarlaw11_DiffCovers.bits17 (fun HT_ HW_ => ?_)
                                generalize w26.drew = w33 at HO_8 HO_74 BK521 HB hx524_0 hx524_1 hHeld ⊢
                                refine pure_ (i := 0) (N := some 88) (v := ?_) (a' := ?_) #[true, false, false, false, false, false, false, false, false, false, false, false, false, false, false, false, false] rfl rfl (any_of HT_.out (by kernel_rfl)) (fun _ _ _ h => h) (Or.inl ⟨by rfl, ?_⟩) ?_ ?_
                                rotate_left
                                · intro w'
                                  go_simp
                                  with_reducible rfl
                                rotate_left
                                · simp only [Act.put, List.setIfInBounds_toArray, List.set_cons_zero, List.set_cons_succ, i64_w, i32_w]
                                  rfl
                                refine pure_ (i := 1) (N := some 89) (v := ?_) (a' := ?_) #[true, true, false, false, false, false, false, false, false, false, false, false, false, false, false, false, false] rfl rfl (any_of HT_.out (by kernel_rfl)) (fun _ _ _ h => h) (Or.inl ⟨by rfl, ?_⟩) ?_ ?_
                                rotate_left
                                · intro w'
                                  go_simp
                                  with_reducible rfl
                                rotate_left
                                · simp only [Act.put, List.setIfInBounds_toArray, List.set_cons_zero, List.set_cons_succ, i64_w, i32_w]
                                  rfl
                                refine pure_ (i := 2) (N := some 90) (v := ?_) (a' := ?_) #[true, true, true, false, false, false, false, false, false, false, false, false, false, false, false, false, false] rfl rfl (any_of HT_.out (by kernel_rfl)) (fun _ _ _ h => h) (Or.inl ⟨by rfl, ?_⟩) ?_ ?_
                                rotate_left
                                · intro w'
                                  go_simp
                                  with_reducible rfl
                                rotate_left
                                · simp only [Act.put, List.setIfInBounds_toArray, List.set_cons_zero, List.set_cons_succ, i64_w, i32_w]
                                  rfl
                                refine pure_ (i := 3) (N := some 91) (v := ?_) (a' := ?_) #[true, true, true, true, false, false, false, false, false, false, false, false, false, false, false, false, false] rfl rfl (any_of HT_.out (by kernel_rfl)) (fun _ _ _ h => h) (Or.inl ⟨by rfl, ?_⟩) ?_ ?_
                                rotate_left
                                · intro w'
                                  go_simp
                                  with_reducible rfl
                                rotate_left
                                · simp only [Act.put, List.setIfInBounds_toArray, List.set_cons_zero, List.set_cons_succ, i64_w, i32_w]
                                  rfl
                                refine pure_ (i := 4) (N := some 92) (v := ?_) (a' := ?_) #[true, true, true, true, true, false, false, false, false, false, false, false, false, false, false, false, false] rfl rfl (any_of HT_.out (by kernel_rfl)) (fun _ _ _ h => h) (Or.inl ⟨by rfl, ?_⟩) ?_ ?_
                                rotate_left
                                · intro w'
                                  go_simp
                                  with_reducible rfl
                                rotate_left
                                · simp only [Act.put, List.setIfInBounds_toArray, List.set_cons_zero, List.set_cons_succ, i64_w, i32_w]
                                  rfl
                                refine pure_ (i := 5) (N := some 93) (v := ?_) (a' := ?_) #[true, true, true, true, true, true, false, false, false, false, false, false, false, false, false, false, false] rfl rfl (any_of HT_.out (by kernel_rfl)) (fun _ _ _ h => h) (Or.inl ⟨by rfl, ?_⟩) ?_ ?_
                                rotate_left
                                · intro w'
                                  go_simp
                                  with_reducible rfl
                                rotate_left
                                · simp only [Act.put, List.setIfInBounds_toArray, List.set_cons_zero, List.set_cons_succ, i64_w, i32_w]
                                  rfl
                                refine pure_ (i := 6) (N := some 94) (v := ?_) (a' := ?_) #[true, true, true, true, true, true, true, false, false, false, false, false, false, false, false, false, false] rfl rfl (any_of HT_.out (by kernel_rfl)) (fun _ _ _ h => h) (Or.inl ⟨by rfl, ?_⟩) ?_ ?_
                                rotate_left
                                · intro w'
                                  go_simp
                                  with_reducible rfl
                                rotate_left
                                · simp only [Act.put, List.setIfInBounds_toArray, List.set_cons_zero, List.set_cons_succ, i64_w, i32_w]
                                  rfl
                                refine pure_ (i := 7) (N := some 95) (v := ?_) (a' := ?_) #[true, true, true, true, true, true, true, true, false, false, false, false, false, false, false, false, false] rfl rfl (any_of HT_.out (by kernel_rfl)) (fun _ _ _ h => h) (Or.inl ⟨by rfl, ?_⟩) ?_ ?_
                                rotate_left
                                · intro w'
                                  go_simp
                                  with_reducible rfl
                                rotate_left
                                · simp only [Act.put, List.setIfInBounds_toArray, List.set_cons_zero, List.set_cons_succ, i64_w, i32_w]
                                  rfl
                                refine pure_ (i := 8) (N := some 96) (v := ?_) (a' := ?_) #[true, true, true, true, true, true, true, true, true, false, false, false, false, false, false, false, false] rfl rfl (any_of HT_.out (by kernel_rfl)) (fun _ _ _ h => h) (Or.inl ⟨by rfl, ?_⟩) ?_ ?_
                                rotate_left
                                · intro w'
                                  go_simp
                                  with_reducible rfl
                                rotate_left
                                · simp only [Act.put, List.setIfInBounds_toArray, List.set_cons_zero, List.set_cons_succ, i64_w, i32_w]
                                  rfl
                                refine pure_ (i := 9) (N := some 97) (v := ?_) (a' := ?_) #[true, true, true, true, true, true, true, true, true, true, false, false, false, false, false, false, false] rfl rfl (any_of HT_.out (by kernel_rfl)) (fun _ _ _ h => h) (Or.inl ⟨by rfl, ?_⟩) ?_ ?_
                                rotate_left
                                · intro w'
                                  go_simp
                                  with_reducible rfl
                                rotate_left
                                · simp only [Act.put, List.setIfInBounds_toArray, List.set_cons_zero, List.set_cons_succ, i64_w, i32_w]
                                  rfl
                                refine pure_ (i := 10) (N := some 98) (v := ?_) (a' := ?_) #[true, true, true, true, true, true, true, true, true, true, true, false, false, false, false, false, false] rfl rfl (any_of HT_.out (by kernel_rfl)) (fun _ _ _ h => h) (Or.inl ⟨by rfl, ?_⟩) ?_ ?_
                                rotate_left
                                · intro w'
                                  go_simp
                                  with_reducible rfl
                                rotate_left
                                · simp only [Act.put, List.setIfInBounds_toArray, List.set_cons_zero, List.set_cons_succ, i64_w, i32_w]
                                  rfl
                                refine take_ (i := 11) (N := some 99) (v := ?_) (a' := ?_) #[true, true, true, true, true, true, true, true, true, true, true, true, false, false, false, false, false] rfl rfl (take_ofW HT_.out HW_.out (by kernel_rfl)) (fun _ _ _ h => h) (Or.inl ⟨by rfl, ?_⟩) hHeld ?_ ?_
                                rotate_left
                                · rintro w' ⟨s0, s1, s2, s3⟩
                                  go_simp
                                  with_reducible rfl
                                rotate_left
                                · simp only [Act.put, List.setIfInBounds_toArray, List.set_cons_zero, List.set_cons_succ, i64_w, i32_w]
                                  rfl
                                refine take_ (i := 12) (N := some 100) (v := ?_) (a' := ?_) #[true, true, true, true, true, true, true, true, true, true, true, true, true, false, false, false, false] rfl rfl (take_ofW HT_.out HW_.out (by kernel_rfl)) (fun _ _ _ h => h) (Or.inl ⟨by rfl, ?_⟩) hHeld ?_ ?_
                                rotate_left
                                · rintro w' ⟨s0, s1, s2, s3⟩
                                  go_simp
                                  with_reducible rfl
                                rotate_left
                                · simp only [Act.put, List.setIfInBounds_toArray, List.set_cons_zero, List.set_cons_succ, i64_w, i32_w]
                                  rfl
                                refine one_ (i := 13) (N := some 101) #[true, true, true, true, true, true, true, true, true, true, true, true, true, true, false, false, false] rfl rfl (one_of HT_.out (by kernel_rfl)) (by decide) (fun K hK => ?_)
                                refine goes_ Try.func24 (by kernel_rfl) rfl #[.agg #[.int .u64 ((rd_T34 t512 (ji29)).f0), .int .u64 ((rd_T34 t512 (ji29)).f1)], .agg #[.int .u64 ((rd_T34 t512 x76_2).f0), .int .u64 ((rd_T34 t512 x76_2).f1)]] (by rfl) rfl rfl (by (try simp only [List.map_toArray, List.map_cons, List.map_nil]); first | done | (simp only [hji29]; rfl) | rfl | (simp only [List.length_drop, List.length_take]; rfl)) ?_
                                with_reducible refine (sub_Less.calls k2 ((rd_T34 t512 (ji29)).f0) ((rd_T34 t512 (ji29)).f1) ((rd_T34 t512 x76_2).f0) ((rd_T34 t512 x76_2).f1) t525 _ A32.out).mono ?_
                                rintro e w34 ⟨rfl, hb⟩
                                have HS2_ := (hb.cell (World.block_lt_of_cell? _ _ (hHeld.2.2.1))).trans (hHeld.2.2.1)
                                have HS3_ := (hb.cell (World.block_lt_of_cell? _ _ (hHeld.2.2.2))).trans (hHeld.2.2.2)
                                refine ⟨_, rfl, ?_⟩
                                have n0_ := Aside0.mk (Kd.R_below (by (with_reducible repeat (first | apply Kd.R_alloc | apply Kd.R_drewN | apply Kd.R_drew)); exact HO_8.out) hb)
                                have n1_ := Aside0.mk (Kd.R_below (by (with_reducible repeat (first | apply Kd.R_alloc | apply Kd.R_drewN | apply Kd.R_drew)); exact HO_74.out) hb)
                                have n2_ := Aside0.mk (blk_below (g := gb521) (o := .cells #[.int .u64 ((rd_T34 t512 x76_2).f0), .int .u64 ((rd_T34 t512 x76_2).f1)] 34 (0, 0)) (by (with_reducible repeat (first | refine blk_drewN ?_ _ | refine blk_drew ?_ | refine blk_alloc ?_ _)); exact BK521.out) hb)
                                have n3_ := Aside0.mk (below_step (by repeat (first | (with_reducible first | exact HB.out | apply below_alloc | apply pw_below_drewN | apply below_drew1 | refine below_set ?_ GE521.out) | exact HB.out)) hb)
                                clear HO_8
                                clear HO_74
                                clear BK521
                                clear HB
                                have HO_8 := n0_
                                have HO_74 := n1_
                                have BK521 := n2_
                                have HB := n3_
                                clear n0_ n1_ n2_ n3_
                                (try clear hb)
                                (try clear hb2)
                                (try clear hk)
                                (try clear hi)
                                refine hK.out _ _ ⟨(blk_cell BK521.out 0).trans rfl, (blk_cell BK521.out 1).trans rfl, HS2_, HS3_⟩ (fun hHeld => ?_)
                                clear hK K
                                refine norm_ (a' := ?_) ?_ ?_
                                rotate_left
                                · show Act.put _ (some 101) _ = _
                                  simp only [Act.put, List.setIfInBounds_toArray, List.set_cons_zero, List.set_cons_succ, i64_w, i32_w]
                                  rfl
                                refine pure_ (i := 14) (N := some 102) (v := ?_) (a' := ?_) #[true, true, true, true, true, true, true, true, true, true, true, true, true, true, true, false, false] rfl rfl (any_of HT_.out (by kernel_rfl)) (fun _ _ _ h => h) (Or.inl ⟨by rfl, ?_⟩) ?_ ?_
                                rotate_left
                                · intro w'
                                  go_simp
                                  with_reducible rfl
                                rotate_left
                                · simp only [Act.put, List.setIfInBounds_toArray, List.set_cons_zero, List.set_cons_succ, i64_w, i32_w]
                                  rfl
                                refine pure_ (i := 15) (N := some 103) (v := ?_) (a' := ?_) #[true, true, true, true, true, true, true, true, true, true, true, true, true, true, true, true, false] rfl rfl (any_of HT_.out (by kernel_rfl)) (fun _ _ _ h => h) (Or.inl ⟨by rfl, ?_⟩) ?_ ?_
                                rotate_left
                                · intro w'
                                  go_simp
                                  with_reducible rfl
                                rotate_left
                                · simp only [Act.put, List.setIfInBounds_toArray, List.set_cons_zero, List.set_cons_succ, i64_w, i32_w]
                                  rfl
                                refine pure_ (i := 16) (N := some 104) (v := ?_) (a' := ?_) #[true, true, true, true, true, true, true, true, true, true, true, true, true, true, true, true, true] rfl rfl (any_of HT_.out (by kernel_rfl)) (fun _ _ _ h => h) (Or.inl ⟨by rfl, ?_⟩) ?_ ?_
                                rotate_left
                                · intro w'
                                  go_simp
                                  with_reducible rfl
                                rotate_left
                                · simp only [Act.put, List.setIfInBounds_toArray, List.set_cons_zero, List.set_cons_succ, i64_w, i32_w]
                                  rfl
                                refine done_ (done_of HT_.out (by kernel_rfl)) ?_
                                try go_wp2
                                go_meet
                                case rel => exact ⟨_, (!t525), (by first | rfl | (simp; done) | (simp [*]; done)), H', ⟨by have := HJ9.out; have := HK2.out; first | omega | exact Nat.le_refl _⟩, ⟨by (with_reducible repeat (first | apply Kd.R_alloc | apply Kd.R_drewN | apply Kd.R_drew)); exact Kd.R_mono HO_8.out (fun _ hk => hk.2)⟩, ⟨by (with_reducible repeat (first | apply Kd.R_alloc | apply Kd.R_drewN | apply Kd.R_drew)); exact Kd.R_mono HO_74.out (fun _ hk => hk.2)⟩, ⟨by (with_reducible repeat (first | refine blk_drewN ?_ _ | refine blk_drew ?_ | refine blk_alloc ?_ _)); exact BK521.out⟩, ⟨by repeat (first | (with_reducible first | exact HB.out | apply below_alloc | apply pw_below_drewN | apply below_drew1 | refine below_set ?_ GE521.out) | exact HB.out)⟩⟩
                              · rw [if_neg c31] at H
                                exact absurd H (by simp)
                            · rw [if_neg c30] at H
                              exact absurd H (by simp)
                          · rw [if_neg c28] at H
                            have c28b0 : decide (0 < x76_2) = false := decide_eq_false c28
                            clear c28
                            have H' := Aside0.mk H
                            clear H
                            try go_wp2
                            have n0_ := Aside0.mk (Kd.R_drew HO_8.out)
                            have n1_ := Aside0.mk (Kd.R_drew HO_74.out)
                            have n2_ := Aside0.mk (blk_drew BK521.out)
                            have n3_ := Aside0.mk (below_drew1 HB.out)
                            clear HO_8
                            clear HO_74
                            clear BK521
                            clear HB
                            have HO_8 := n0_
                            have HO_74 := n1_
                            have BK521 := n2_
                            have HB := n3_
                            clear n0_ n1_ n2_ n3_
                            refine start_ (n := 17) (S := fun w' => True) (ds := []) #[false, false, false, false, false, false, false, false, false, false, false, false, false, false, false, false, false] (by kernel_rfl) rfl rfl trivial (fun hHeld => ?_); refine with_tabW medlarlaw11_DiffCovers.tab17 medlarlaw11_DiffCovers.bits17 (fun HT_ HW_ => ?_)
                            generalize w26.drew = w35 at HO_8 HO_74 BK521 HB hHeld ⊢
                            refine pure_ (i := 0) (N := some 88) (v := ?_) (a' := ?_) #[true, false, false, false, false, false, false, false, false, false, false, false, false, false, false, false, false] rfl rfl (any_of HT_.out (by kernel_rfl)) (fun _ _ _ h => h) (Or.inl ⟨by rfl, ?_⟩) ?_ ?_
                            rotate_left
                            · intro w'
                              go_simp
                              with_reducible rfl
                            rotate_left
                            · simp only [Act.put, List.setIfInBounds_toArray, List.set_cons_zero, List.set_cons_succ, i64_w, i32_w]
                              rfl
                            refine pure_ (i := 1) (N := some 89) (v := ?_) (a' := ?_) #[true, true, false, false, false, false, false, false, false, false, false, false, false, false, false, false, false] rfl rfl (any_of HT_.out (by kernel_rfl)) (fun _ _ _ h => h) (Or.inl ⟨by rfl, ?_⟩) ?_ ?_
                            rotate_left
                            · intro w'
                              go_simp
                              with_reducible rfl
                            rotate_left
                            · simp only [Act.put, List.setIfInBounds_toArray, List.set_cons_zero, List.set_cons_succ, i64_w, i32_w]
                              rfl
                            refine pure_ (i := 2) (N := some 90) (v := ?_) (a' := ?_) #[true, true, true, false, false, false, false, false, false, false, false, false, false, false, false, false, false] rfl rfl (any_of HT_.out (by kernel_rfl)) (fun _ _ _ h => h) (Or.inl ⟨by rfl, ?_⟩) ?_ ?_
                            rotate_left
                            · intro w'
                              go_simp
                              with_reducible rfl
                            rotate_left
                            · simp only [Act.put, List.setIfInBounds_toArray, List.set_cons_zero, List.set_cons_succ, i64_w, i32_w]
                              rfl
                            refine pure_ (i := 3) (N := some 91) (v := ?_) (a' := ?_) #[true, true, true, true, false, false, false, false, false, false, false, false, false, false, false, false, false] rfl rfl (any_of HT_.out (by kernel_rfl)) (fun _ _ _ h => h) (Or.inl ⟨by rfl, ?_⟩) ?_ ?_
                            rotate_left
                            · intro w'
                              go_simp
                              with_reducible rfl
                            rotate_left
                            · simp only [Act.put, List.setIfInBounds_toArray, List.set_cons_zero, List.set_cons_succ, i64_w, i32_w]
                              rfl
                            refine pure_ (i := 4) (N := some 92) (v := ?_) (a' := ?_) #[true, true, true, true, true, false, false, false, false, false, false, false, false, false, false, false, false] rfl rfl (any_of HT_.out (by kernel_rfl)) (fun _ _ _ h => h) (Or.inl ⟨by rfl, ?_⟩) ?_ ?_
                            rotate_left
                            · intro w'
                              go_simp
                              with_reducible rfl
                            rotate_left
                            · simp only [Act.put, List.setIfInBounds_toArray, List.set_cons_zero, List.set_cons_succ, i64_w, i32_w]
                              rfl
                            refine pure_ (i := 5) (N := some 93) (v := ?_) (a' := ?_) #[true, true, true, true, true, true, false, false, false, false, false, false, false, false, false, false, false] rfl rfl (any_of HT_.out (by kernel_rfl)) (fun _ _ _ h => h) (Or.inl ⟨by rfl, ?_⟩) ?_ ?_
                            rotate_left
                            · intro w'
                              go_simp
                              with_reducible rfl
                            rotate_left
                            · simp only [Act.put, List.setIfInBounds_toArray, List.set_cons_zero, List.set_cons_succ, i64_w, i32_w]
                              rfl
                            refine pure_ (i := 6) (N := some 94) (v := ?_) (a' := ?_) #[true, true, true, true, true, true, true, false, false, false, false, false, false, false, false, false, false] rfl rfl (any_of HT_.out (by kernel_rfl)) (fun _ _ _ h => h) (Or.inl ⟨by rfl, ?_⟩) ?_ ?_
                            rotate_left
                            · intro w'
                              go_simp
                              with_reducible rfl
                            rotate_left
                            · simp only [Act.put, List.setIfInBounds_toArray, List.set_cons_zero, List.set_cons_succ, i64_w, i32_w]
                              rfl
                            refine pure_ (i := 7) (N := some 95) (v := undef) (a' := ?_) #[true, true, true, true, true, true, true, true, false, false, false, false, false, false, false, false, false] rfl rfl (any_of HT_.out (by kernel_rfl)) (fun _ _ _ h => h) (Or.inr ⟨by rfl, rfl⟩) ?_ ?_
                            rotate_left
                            · simp only [Act.put, List.setIfInBounds_toArray, List.set_cons_zero, List.set_cons_succ, i64_w, i32_w]
                              rfl
                            refine pure_ (i := 8) (N := some 96) (v := undef) (a' := ?_) #[true, true, true, true, true, true, true, true, true, false, false, false, false, false, false, false, false] rfl rfl (any_of HT_.out (by kernel_rfl)) (fun _ _ _ h => h) (Or.inr ⟨by rfl, rfl⟩) ?_ ?_
                            rotate_left
                            · simp only [Act.put, List.setIfInBounds_toArray, List.set_cons_zero, List.set_cons_succ, i64_w, i32_w]
                              rfl
                            refine pure_ (i := 9) (N := some 97) (v := undef) (a' := ?_) #[true, true, true, true, true, true, true, true, true, true, false, false, false, false, false, false, false] rfl rfl (any_of HT_.out (by kernel_rfl)) (fun _ _ _ h => h) (Or.inr ⟨by rfl, rfl⟩) ?_ ?_
                            rotate_left
                            · simp only [Act.put, List.setIfInBounds_toArray, List.set_cons_zero, List.set_cons_succ, i64_w, i32_w]
                              rfl
                            refine pure_ (i := 10) (N := some 98) (v := undef) (a' := ?_) #[true, true, true, true, true, true, true, true, true, true, true, false, false, false, false, false, false] rfl rfl (any_of HT_.out (by kernel_rfl)) (fun _ _ _ h => h) (Or.inr ⟨by rfl, rfl⟩) ?_ ?_
                            rotate_left
                            · simp only [Act.put, List.setIfInBounds_toArray, List.set_cons_zero, List.set_cons_succ, i64_w, i32_w]
                              rfl
                            refine pure_ (i := 11) (N := some 99) (v := undef) (a' := ?_) #[true, true, true, true, true, true, true, true, true, true, true, true, false, false, false, false, false] rfl rfl (any_of HT_.out (by kernel_rfl)) (fun _ _ _ h => h) (Or.inr ⟨by rfl, rfl⟩) ?_ ?_
                            rotate_left
                            · simp only [Act.put, List.setIfInBounds_toArray, List.set_cons_zero, List.set_cons_succ, i64_w, i32_w]
                              rfl
                            refine pure_ (i := 12) (N := some 100) (v := undef) (a' := ?_) #[true, true, true, true, true, true, true, true, true, true, true, true, true, false, false, false, false] rfl rfl (any_of HT_.out (by kernel_rfl)) (fun _ _ _ h => h) (Or.inr ⟨by rfl, rfl⟩) ?_ ?_
                            rotate_left
                            · simp only [Act.put, List.setIfInBounds_toArray, List.set_cons_zero, List.set_cons_succ, i64_w, i32_w]
                              rfl
                            refine pure_ (i := 13) (N := some 101) (v := undef) (a' := ?_) #[true, true, true, true, true, true, true, true, true, true, true, true, true, true, false, false, false] rfl rfl (any_of HT_.out (by kernel_rfl)) (fun _ _ _ h => h) (Or.inr ⟨by rfl, rfl⟩) ?_ ?_
                            rotate_left
                            · simp only [Act.put, List.setIfInBounds_toArray, List.set_cons_zero, List.set_cons_succ, i64_w, i32_w]
                              rfl
                            refine pure_ (i := 14) (N := some 102) (v := undef) (a' := ?_) #[true, true, true, true, true, true, true, true, true, true, true, true, true, true, true, false, false] rfl rfl (any_of HT_.out (by kernel_rfl)) (fun _ _ _ h => h) (Or.inr ⟨by rfl, rfl⟩) ?_ ?_
                            rotate_left
                            · simp only [Act.put, List.setIfInBounds_toArray, List.set_cons_zero, List.set_cons_succ, i64_w, i32_w]
                              rfl
                            refine pure_ (i := 15) (N := some 103) (v := ?_) (a' := ?_) #[true, true, true, true, true, true, true, true, true, true, true, true, true, true, true, true, false] rfl rfl (any_of HT_.out (by kernel_rfl)) (fun _ _ _ h => h) (Or.inl ⟨by rfl, ?_⟩) ?_ ?_
                            rotate_left
                            · intro w'
                              go_simp
                              with_reducible rfl
                            rotate_left
                            · simp only [Act.put, List.setIfInBounds_toArray, List.set_cons_zero, List.set_cons_succ, i64_w, i32_w]
                              rfl
                            refine pure_ (i := 16) (N := some 104) (v := ?_) (a' := ?_) #[true, true, true, true, true, true, true, true, true, true, true, true, true, true, true, true, true] rfl rfl (any_of HT_.out (by kernel_rfl)) (fun _ _ _ h => h) (Or.inl ⟨by rfl, ?_⟩) ?_ ?_
                            rotate_left
                            · intro w'
                              go_simp
                              with_reducible rfl
                            rotate_left
                            · simp only [Act.put, List.setIfInBounds_toArray, List.set_cons_zero, List.set_cons_succ, i64_w, i32_w]
                              rfl
                            refine done_ (done_of HT_.out (by kernel_rfl)) ?_
                            try go_wp2
                            go_meet
                            case rel => exact ⟨_, (false), (by first | rfl | (simp; done) | (simp [*]; done)), H', ⟨by have := HJ9.out; have := HK2.out; first | omega | exact Nat.le_refl _⟩, ⟨by (with_reducible repeat (first | apply Kd.R_alloc | apply Kd.R_drewN | apply Kd.R_drew)); exact Kd.R_mono HO_8.out (fun _ hk => hk.2)⟩, ⟨by (with_reducible repeat (first | apply Kd.R_alloc | apply Kd.R_drewN | apply Kd.R_drew)); exact Kd.R_mono HO_74.out (fun _ hk => hk.2)⟩, ⟨by (with_reducible repeat (first | refine blk_drewN ?_ _ | refine blk_drew ?_ | refine blk_alloc ?_ _)); exact BK521.out⟩, ⟨by repeat (first | (with_reducible first | exact HB.out | apply below_alloc | apply pw_below_drewN | apply below_drew1 | refine below_set ?_ GE521.out) | exact HB.out)⟩⟩
                        · rw [if_neg c27] at H
                          have c27b0 : (t523 == t519) = false := beq_eq_false_iff_ne.mpr c27
                          have c27b1 : (t523 != t519) = true := bne_iff_ne.mpr c27
                          (first | rw [c27b0] | (simp only [i64_w, i32_w]; rw [c27b0]) | skip)
                          have H' := Aside0.mk H
                          clear H
                          try go_wp2
                          have n0_ := Aside0.mk (Kd.R_drew HO_8.out)
                          have n1_ := Aside0.mk (Kd.R_drew HO_74.out)
                          have n2_ := Aside0.mk (blk_drew BK521.out)
                          have n3_ := Aside0.mk (below_drew1 HB.out)
                          clear HO_8
                          clear HO_74
                          clear BK521
                          clear HB
                          have HO_8 := n0_
                          have HO_74 := n1_
                          have BK521 := n2_
                          have HB := n3_
                          clear n0_ n1_ n2_ n3_
                          refine start_ (n := 17) (S := fun w' => True) (ds := []) #[false, false, false, false, false, false, false, false, false, false, false, false, false, false, false, false, false] (by kernel_rfl) rfl rfl trivial (fun hHeld => ?_); refine with_tabW medlarlaw11_DiffCovers.tab17 medlarlaw11_DiffCovers.bits17 (fun HT_ HW_ => ?_)
                          generalize w26.drew = w36 at HO_8 HO_74 BK521 HB hHeld ⊢
                          refine pure_ (i := 0) (N := some 88) (v := ?_) (a' := ?_) #[true, false, false, false, false, false, false, false, false, false, false, false, false, false, false, false, false] rfl rfl (any_of HT_.out (by kernel_rfl)) (fun _ _ _ h => h) (Or.inl ⟨by rfl, ?_⟩) ?_ ?_
                          rotate_left
                          · intro w'
                            go_simp
                            with_reducible rfl
                          rotate_left
                          · simp only [Act.put, List.setIfInBounds_toArray, List.set_cons_zero, List.set_cons_succ, i64_w, i32_w]
                            rfl
                          refine pure_ (i := 1) (N := some 89) (v := ?_) (a' := ?_) #[true, true, false, false, false, false, false, false, false, false, false, false, false, false, false, false, false] rfl rfl (any_of HT_.out (by kernel_rfl)) (fun _ _ _ h => h) (Or.inl ⟨by rfl, ?_⟩) ?_ ?_
                          rotate_left
                          · intro w'
                            go_simp
                            with_reducible rfl
                          rotate_left
                          · simp only [Act.put, List.setIfInBounds_toArray, List.set_cons_zero, List.set_cons_succ, i64_w, i32_w]
                            rfl
                          refine pure_ (i := 2) (N := some 90) (v := ?_) (a' := ?_) #[true, true, true, false, false, false, false, false, false, false, false, false, false, false, false, false, false] rfl rfl (any_of HT_.out (by kernel_rfl)) (fun _ _ _ h => h) (Or.inl ⟨by rfl, ?_⟩) ?_ ?_
                          rotate_left
                          · intro w'
                            go_simp
                            with_reducible rfl
                          rotate_left
                          · simp only [Act.put, List.setIfInBounds_toArray, List.set_cons_zero, List.set_cons_succ, i64_w, i32_w]
                            rfl
                          refine pure_ (i := 3) (N := some 91) (v := ?_) (a' := ?_) #[true, true, true, true, false, false, false, false, false, false, false, false, false, false, false, false, false] rfl rfl (any_of HT_.out (by kernel_rfl)) (fun _ _ _ h => h) (Or.inl ⟨by rfl, ?_⟩) ?_ ?_
                          rotate_left
                          · intro w'
                            go_simp
                            with_reducible rfl
                          rotate_left
                          · simp only [Act.put, List.setIfInBounds_toArray, List.set_cons_zero, List.set_cons_succ, i64_w, i32_w]
                            rfl
                          refine pure_ (i := 4) (N := some 92) (v := undef) (a' := ?_) #[true, true, true, true, true, false, false, false, false, false, false, false, false, false, false, false, false] rfl rfl (any_of HT_.out (by kernel_rfl)) (fun _ _ _ h => h) (Or.inr ⟨by rfl, rfl⟩) ?_ ?_
                          rotate_left
                          · simp only [Act.put, List.setIfInBounds_toArray, List.set_cons_zero, List.set_cons_succ, i64_w, i32_w]
                            rfl
                          refine pure_ (i := 5) (N := some 93) (v := undef) (a' := ?_) #[true, true, true, true, true, true, false, false, false, false, false, false, false, false, false, false, false] rfl rfl (any_of HT_.out (by kernel_rfl)) (fun _ _ _ h => h) (Or.inr ⟨by rfl, rfl⟩) ?_ ?_
                          rotate_left
                          · simp only [Act.put, List.setIfInBounds_toArray, List.set_cons_zero, List.set_cons_succ, i64_w, i32_w]
                            rfl
                          refine pure_ (i := 6) (N := some 94) (v := undef) (a' := ?_) #[true, true, true, true, true, true, true, false, false, false, false, false, false, false, false, false, false] rfl rfl (any_of HT_.out (by kernel_rfl)) (fun _ _ _ h => h) (Or.inr ⟨by rfl, rfl⟩) ?_ ?_
                          rotate_left
                          · simp only [Act.put, List.setIfInBounds_toArray, List.set_cons_zero, List.set_cons_succ, i64_w, i32_w]
                            rfl
                          refine pure_ (i := 7) (N := some 95) (v := undef) (a' := ?_) #[true, true, true, true, true, true, true, true, false, false, false, false, false, false, false, false, false] rfl rfl (any_of HT_.out (by kernel_rfl)) (fun _ _ _ h => h) (Or.inr ⟨by rfl, rfl⟩) ?_ ?_
                          rotate_left
                          · simp only [Act.put, List.setIfInBounds_toArray, List.set_cons_zero, List.set_cons_succ, i64_w, i32_w]
                            rfl
                          refine pure_ (i := 8) (N := some 96) (v := undef) (a' := ?_) #[true, true, true, true, true, true, true, true, true, false, false, false, false, false, false, false, false] rfl rfl (any_of HT_.out (by kernel_rfl)) (fun _ _ _ h => h) (Or.inr ⟨by rfl, rfl⟩) ?_ ?_
                          rotate_left
                          · simp only [Act.put, List.setIfInBounds_toArray, List.set_cons_zero, List.set_cons_succ, i64_w, i32_w]
                            rfl
                          refine pure_ (i := 9) (N := some 97) (v := undef) (a' := ?_) #[true, true, true, true, true, true, true, true, true, true, false, false, false, false, false, false, false] rfl rfl (any_of HT_.out (by kernel_rfl)) (fun _ _ _ h => h) (Or.inr ⟨by rfl, rfl⟩) ?_ ?_
                          rotate_left
                          · simp only [Act.put, List.setIfInBounds_toArray, List.set_cons_zero, List.set_cons_succ, i64_w, i32_w]
                            rfl
                          refine pure_ (i := 10) (N := some 98) (v := undef) (a' := ?_) #[true, true, true, true, true, true, true, true, true, true, true, false, false, false, false, false, false] rfl rfl (any_of HT_.out (by kernel_rfl)) (fun _ _ _ h => h) (Or.inr ⟨by rfl, rfl⟩) ?_ ?_
                          rotate_left
                          · simp only [Act.put, List.setIfInBounds_toArray, List.set_cons_zero, List.set_cons_succ, i64_w, i32_w]
                            rfl
                          refine pure_ (i := 11) (N := some 99) (v := undef) (a' := ?_) #[true, true, true, true, true, true, true, true, true, true, true, true, false, false, false, false, false] rfl rfl (any_of HT_.out (by kernel_rfl)) (fun _ _ _ h => h) (Or.inr ⟨by rfl, rfl⟩) ?_ ?_
                          rotate_left
                          · simp only [Act.put, List.setIfInBounds_toArray, List.set_cons_zero, List.set_cons_succ, i64_w, i32_w]
                            rfl
                          refine pure_ (i := 12) (N := some 100) (v := undef) (a' := ?_) #[true, true, true, true, true, true, true, true, true, true, true, true, true, false, false, false, false] rfl rfl (any_of HT_.out (by kernel_rfl)) (fun _ _ _ h => h) (Or.inr ⟨by rfl, rfl⟩) ?_ ?_
                          rotate_left
                          · simp only [Act.put, List.setIfInBounds_toArray, List.set_cons_zero, List.set_cons_succ, i64_w, i32_w]
                            rfl
                          refine pure_ (i := 13) (N := some 101) (v := undef) (a' := ?_) #[true, true, true, true, true, true, true, true, true, true, true, true, true, true, false, false, false] rfl rfl (any_of HT_.out (by kernel_rfl)) (fun _ _ _ h => h) (Or.inr ⟨by rfl, rfl⟩) ?_ ?_
                          rotate_left
                          · simp only [Act.put, List.setIfInBounds_toArray, List.set_cons_zero, List.set_cons_succ, i64_w, i32_w]
                            rfl
                          refine pure_ (i := 14) (N := some 102) (v := undef) (a' := ?_) #[true, true, true, true, true, true, true, true, true, true, true, true, true, true, true, false, false] rfl rfl (any_of HT_.out (by kernel_rfl)) (fun _ _ _ h => h) (Or.inr ⟨by rfl, rfl⟩) ?_ ?_
                          rotate_left
                          · simp only [Act.put, List.setIfInBounds_toArray, List.set_cons_zero, List.set_cons_succ, i64_w, i32_w]
                            rfl
                          refine pure_ (i := 15) (N := some 103) (v := undef) (a' := ?_) #[true, true, true, true, true, true, true, true, true, true, true, true, true, true, true, true, false] rfl rfl (any_of HT_.out (by kernel_rfl)) (fun _ _ _ h => h) (Or.inr ⟨by rfl, rfl⟩) ?_ ?_
                          rotate_left
                          · simp only [Act.put, List.setIfInBounds_toArray, List.set_cons_zero, List.set_cons_succ, i64_w, i32_w]
                            rfl
                          refine pure_ (i := 16) (N := some 104) (v := ?_) (a' := ?_) #[true, true, true, true, true, true, true, true, true, true, true, true, true, true, true, true, true] rfl rfl (any_of HT_.out (by kernel_rfl)) (fun _ _ _ h => h) (Or.inl ⟨by rfl, ?_⟩) ?_ ?_
                          rotate_left
                          · intro w'
                            go_simp
                            with_reducible rfl
                          rotate_left
                          · simp only [Act.put, List.setIfInBounds_toArray, List.set_cons_zero, List.set_cons_succ, i64_w, i32_w]
                            rfl
                          refine done_ (done_of HT_.out (by kernel_rfl)) ?_
                          try go_wp2
                          go_meet
                          case rel => exact ⟨_, (true), (by first | rfl | (simp; done) | (simp [*]; done)), H', ⟨by have := HJ9.out; have := HK2.out; first | omega | exact Nat.le_refl _⟩, ⟨by (with_reducible repeat (first | apply Kd.R_alloc | apply Kd.R_drewN | apply Kd.R_drew)); exact Kd.R_mono HO_8.out (fun _ hk => hk.2)⟩, ⟨by (with_reducible repeat (first | apply Kd.R_alloc | apply Kd.R_drewN | apply Kd.R_drew)); exact Kd.R_mono HO_74.out (fun _ hk => hk.2)⟩, ⟨by (with_reducible repeat (first | refine blk_drewN ?_ _ | refine blk_drew ?_ | refine blk_alloc ?_ _)); exact BK521.out⟩, ⟨by repeat (first | (with_reducible first | exact HB.out | apply below_alloc | apply pw_below_drewN | apply below_drew1 | refine below_set ?_ GE521.out) | exact HB.out)⟩⟩
                      case rest =>
                        clear HC23
                        try clear c1
                        try clear c2
                        try clear p2
                        try clear c3
                        try clear c5
                        try clear c5b0
                        try clear c5b1
                        try clear p5
                        try clear q5
                        try clear hx5
                        try clear c6
                        try clear p6
                        try clear c8
                        try clear c8b0
                        try clear c8b1
                        try clear c14
                        try clear c14b0
                        try clear c14b1
                        try clear c15
                        try clear c16
                        try clear c17
                        try clear c19
                        try clear c19b0
                        try clear c20
                        try clear c20b0
                        try clear c21
                        try clear c21b0
                        try clear c23
                        try clear c24
                        try clear c27
                        try clear c27b0
                        try clear c27b1
                        try clear c28
                        try clear c28b0
                        try clear c30
                        try clear c30b0
                        try clear c31
                        try clear c31b0
                        try clear hcz25_0
                        try clear hcz25_1
                        try clear hfz25_0
                        try clear hfz25_1
                        try clear hx520_0
                        try clear hx520_1
                        try clear hx524_0
                        try clear hx524_1
                        try clear p2
                        try clear p520
                        try clear p524
                        try clear q520
                        try clear q524
                        obtain ⟨kq, x104_22, rfl, HA, HJ22, HO_8, HO_74, BK521, HB⟩ := hcut
                        cases kq with
                        | zero => exact absurd HA.out (by simp [medlarlaw11_DiffCovers.j2])
                        | succ kj22 =>
                          have H := HA.out
                          clear HA
                          simp only [medlarlaw11_DiffCovers.j2] at H
                          by_cases c37 : x104_22 = true
                          · subst c37
                            have H1 : (some false) = some r := by rw [if_pos rfl] at H; exact H
                            clear H
                            have H := H1
                            clear H1
                            exact absurd ((Option.some.inj H).trans hT.out) Bool.false_ne_true
                          · replace c37 := Bool.eq_false_iff.mpr c37
                            subst c37
                            have H1 : (if t522 = true then (medlarlaw11_DiffCovers.j3 kj22 a0 l1 a2 t511 t512 (wrap64 (x12_2 + 1)) t518 t519 x15_2 x76_2 t512 (t512.length : Int) x76_2 ((rd_T34 t512 x76_2).f0) ((rd_T34 t512 x76_2).f1)) else (medlarlaw11_DiffCovers.j3 kj22 a0 l1 a2 t511 t512 x12_2 t518 t519 x15_2 x76_2 t512 (t512.length : Int) x76_2 ((rd_T34 t512 x76_2).f0) ((rd_T34 t512 x76_2).f1))) = some r := by rw [if_neg (show ¬ (false = true) by decide)] at H; exact H
                            clear H
                            have H := H1
                            clear H1
                            have HC38 := Aside0.mk H
                            clear H
                            go_upto_if 105 with (fail)
                            go_cut [12] (fun v12 wc => ∃ (kq : Nat) (x12_37 : Int), v12 = .int .i64 x12_37 ∧ Aside0 (medlarlaw11_DiffCovers.j3 kq a0 l1 a2 t511 t512 x12_37 t518 t519 x15_2 x76_2 t512 (t512.length : Int) x76_2 ((rd_T34 t512 x76_2).f0) ((rd_T34 t512 x76_2).f1) = some r) ∧ Aside0 (kq ≤ kj22) ∧ Aside0 (Kd.R k34 34 wc w.heap.size (fun k_ => k_ ≠ gb521) (.slice (some ad520) t512.length co18) t512) ∧ Aside0 (Kd.R k34 34 wc w.heap.size (fun k_ => k_ ≠ gb521) (.slice (some ad520) t512.length co18) t512) ∧ Aside0 (wc.heap[gb521]? = some (.cells #[.int .u64 ((rd_T34 t512 x76_2).f0), .int .u64 ((rd_T34 t512 x76_2).f1)] 34 (0, 0))) ∧ Aside0 (Below w.heap.size w wc))
                            case first =>
                              have H := HC38.out
                              clear HC38
                              by_cases c39 : t522 = true
                              · subst c39
                                have H1 : (medlarlaw11_DiffCovers.j3 kj22 a0 l1 a2 t511 t512 (wrap64 (x12_2 + 1)) t518 t519 x15_2 x76_2 t512 (t512.length : Int) x76_2 ((rd_T34 t512 x76_2).f0) ((rd_T34 t512 x76_2).f1)) = some r := by rw [if_pos rfl] at H; exact H
                                clear H
                                have H := H1
                                clear H1
                                have H' := Aside0.mk H
                                clear H
                                go_wp2
                                go_meet
                                case rel => exact ⟨_, (wrap64 (x12_2 + 1)), (by first | rfl | (simp; done) | (simp [*]; done)), H', ⟨by have := HJ9.out; have := HK2.out; have := HJ22.out; first | omega | exact Nat.le_refl _⟩, ⟨by (with_reducible repeat (first | apply Kd.R_alloc | apply Kd.R_drewN | apply Kd.R_drew)); exact HO_8.out⟩, ⟨by (with_reducible repeat (first | apply Kd.R_alloc | apply Kd.R_drewN | apply Kd.R_drew)); exact HO_74.out⟩, ⟨by (with_reducible repeat (first | refine blk_drewN ?_ _ | refine blk_drew ?_ | refine blk_alloc ?_ _)); exact BK521.out⟩, ⟨by repeat (first | (with_reducible first | exact HB.out | apply below_alloc | apply pw_below_drewN | apply below_drew1 | refine below_set ?_ GE521.out) | exact HB.out)⟩⟩
                              · replace c39 := Bool.eq_false_iff.mpr c39
                                subst c39
                                have H1 : (medlarlaw11_DiffCovers.j3 kj22 a0 l1 a2 t511 t512 x12_2 t518 t519 x15_2 x76_2 t512 (t512.length : Int) x76_2 ((rd_T34 t512 x76_2).f0) ((rd_T34 t512 x76_2).f1)) = some r := by rw [if_neg (show ¬ (false = true) by decide)] at H; exact H
                                clear H
                                have H := H1
                                clear H1
                                have H' := Aside0.mk H
                                clear H
                                go_wp2
                                go_meet
                                case rel => exact ⟨_, (x12_2), (by first | rfl | (simp; done) | (simp [*]; done)), H', ⟨by have := HJ9.out; have := HK2.out; have := HJ22.out; first | omega | exact Nat.le_refl _⟩, ⟨by (with_reducible repeat (first | apply Kd.R_alloc | apply Kd.R_drewN | apply Kd.R_drew)); exact HO_8.out⟩, ⟨by (with_reducible repeat (first | apply Kd.R_alloc | apply Kd.R_drewN | apply Kd.R_drew)); exact HO_74.out⟩, ⟨by (with_reducible repeat (first | refine blk_drewN ?_ _ | refine blk_drew ?_ | refine blk_alloc ?_ _)); exact BK521.out⟩, ⟨by repeat (first | (with_reducible first | exact HB.out | apply below_alloc | apply pw_below_drewN | apply below_drew1 | refine below_set ?_ GE521.out) | exact HB.out)⟩⟩
                            case rest =>
                              clear HC38
                              try clear c1
                              try clear c2
                              try clear p2
                              try clear c3
                              try clear c5
                              try clear c5b0
                              try clear c5b1
                              try clear p5
                              try clear q5
                              try clear hx5
                              try clear c6
                              try clear p6
                              try clear c8
                              try clear c8b0
                              try clear c8b1
                              try clear c14
                              try clear c14b0
                              try clear c14b1
                              try clear c15
                              try clear c16
                              try clear c17
                              try clear c19
                              try clear c19b0
                              try clear c20
                              try clear c20b0
                              try clear c21
                              try clear c21b0
                              try clear c23
                              try clear c24
                              try clear c27
                              try clear c27b0
                              try clear c27b1
                              try clear c28
                              try clear c28b0
                              try clear c30
                              try clear c30b0
                              try clear c31
                              try clear c31b0
                              try clear c37
                              try clear c39
                              try clear hcz25_0
                              try clear hcz25_1
                              try clear hfz25_0
                              try clear hfz25_1
                              try clear hx520_0
                              try clear hx520_1
                              try clear hx524_0
                              try clear hx524_1
                              try clear p2
                              try clear p5
                              try clear p520
                              try clear p524
                              try clear p6
                              try clear q5
                              try clear q520
                              try clear q524
                              obtain ⟨kq, x12_37, rfl, HA, HJ37, HO_8, HO_74, BK521, HB⟩ := hcut
                              cases kq with
                              | zero => exact absurd HA.out (by simp [medlarlaw11_DiffCovers.j3])
                              | succ kj37 =>
                                have H := HA.out
                                clear HA
                                simp only [medlarlaw11_DiffCovers.j3] at H
                                by_cases c40 : 0 ≤ x76_2
                                · rw [if_pos c40] at H
                                  have c40b0 := eq_true c40
                                  have c40b1 : decide (0 ≤ x76_2) = true := decide_eq_true c40
                                  clear c40
                                  by_cases c41 : x76_2 ≤ (t512.length : Int)
                                  · rw [if_pos c41] at H
                                    have c41b0 := eq_true c41
                                    have c41b1 : decide (x76_2 ≤ (t512.length : Int)) = true := decide_eq_true c41
                                    clear c41
                                    obtain ⟨y526, hy526⟩ : ∃ y_ : List (S34), y_ = (t512.take (x76_2 : Int).toNat) := ⟨_, rfl⟩
                                    replace H : (medlarlaw11_DiffCovers.l1 kj37 a0 l1 a2 t511 t512 x12_37 t518 t519 x15_2 t512 (t512.length : Int) x76_2 y526 (y526.length : Int) 0 ((rd_T34 t512 x76_2).f0) ((rd_T34 t512 x76_2).f1)) = some r := by first | (rw [hy526]; with_reducible exact H) | (have H2_ := (Option.bind_some _ _).symm.trans H; rw [hy526]; with_reducible exact H2_) | (have H2_ := (Option.bind_some _ _).symm.trans H; with_reducible exact H2_) | with_reducible exact H | (rw [hy526]; exact H) | exact H
                                    have Ny526 := Aside0.mk hy526
                                    clear hy526
                                    have H' := Aside0.mk H
                                    clear H
                                    have q42 : (x76_2 : Int) ≤ ((t512.length : Int) : Int) := of_decide_eq_true (by first | (with_reducible assumption) | assumption)
                                    obtain ⟨i042, hi042, _, hsz42, _⟩ := info_parts info34
                                    have hroom42 : t512.length ≤ co18 := (Kd.R_reads' HO_8.out).2.1
                                    have hC42 : Kd.C k34 _ (some ad520) t512.length t512 := (Kd.R_reads' HO_8.out).2.2
                                    have hcut42 := cut_to (P := Try.prog) 24 34 .i64 Try.underlying24 hi042 (some ad520) t512.length co18 x76_2 (of_decide_eq_true (by first | (with_reducible assumption) | assumption)) q42 hroom42
                                    have hr42 := Kd.C_take (m := (x76_2 : Int).toNat) hC42 (by omega)
                                    have hy42 : y526.length = (x76_2 : Int).toNat := (by rw [Ny526.out, List.length_take]; omega)
                                    rw [← Ny526.out] at hr42
                                    rw [← hy42] at hcut42
                                    have HR529 := Aside0.mk hr42
                                    have HC529 := Aside0.mk (show y526.length ≤ co18 from by omega)
                                    clear hr42 hC42 hroom42 hi042 hsz42
                                    have KY42 := Aside0.mk hy42
                                    clear hy42
                                    have KL42 := Aside0.mk (show (x76_2 : Int).toNat ≤ t512.length from by omega)
                                    replace q42 := eq_true q42
                                    go_wp2
                                    go_loopg [112] kj37 (fun kq v112 w' => ∃ (x112_5 : Int), v112 = .int .i64 x112_5 ∧ Aside0 (medlarlaw11_DiffCovers.l1 kq a0 l1 a2 t511 t512 x12_37 t518 t519 x15_2 t512 (t512.length : Int) x76_2 y526 (y526.length : Int) x112_5 ((rd_T34 t512 x76_2).f0) ((rd_T34 t512 x76_2).f1) = some r) ∧ Aside0 (kq ≤ kj37) ∧ Aside0 (Kd.R k34 34 w' w.heap.size (fun k_ => k_ ≠ gb521) (.slice (some ad520) t512.length co18) t512) ∧ Aside0 (Kd.R k34 34 w' w.heap.size (fun k_ => k_ ≠ gb521) (.slice (some ad520) t512.length co18) t512) ∧ Aside0 (w'.heap[gb521]? = some (.cells #[.int .u64 ((rd_T34 t512 x76_2).f0), .int .u64 ((rd_T34 t512 x76_2).f1)] 34 (0, 0))) ∧ Aside0 (Kd.C k34 w' (some ad520) y526.length y526) ∧ Aside0 (Below w.heap.size w w'))
                                    case atStart => exact ⟨(0), (by first | rfl | (simp; done) | (simp [*]; done)), H', ⟨Nat.le_refl _⟩, ⟨by (with_reducible repeat (first | apply Kd.R_alloc | apply Kd.R_drewN | apply Kd.R_drew)); exact HO_8.out⟩, ⟨by (with_reducible repeat (first | apply Kd.R_alloc | apply Kd.R_drewN | apply Kd.R_drew)); exact HO_74.out⟩, ⟨by (with_reducible repeat (first | refine blk_drewN ?_ _ | refine blk_drew ?_ | refine blk_alloc ?_ _)); exact BK521.out⟩, ⟨by repeat (first | (with_reducible exact HR529.out) | (with_reducible refine Kd.C_alloc ?_ _) | (with_reducible refine Kd.C_drewN ?_ _) | (with_reducible refine Kd.C_drew ?_) | exact HR529.out)⟩, ⟨by repeat (first | (with_reducible first | exact HB.out | apply below_alloc | apply pw_below_drewN | apply below_drew1 | refine below_set ?_ GE521.out) | exact HB.out)⟩⟩
                                    case round =>
                                      clear H'
                                      try clear c1
                                      try clear c2
                                      try clear p2
                                      try clear c3
                                      try clear c4
                                      try clear q4
                                      try clear c5
                                      try clear c5b0
                                      try clear c5b1
                                      try clear p5
                                      try clear q5
                                      try clear hx5
                                      try clear c6
                                      try clear p6
                                      try clear c8
                                      try clear c8b0
                                      try clear c8b1
                                      try clear c14
                                      try clear c14b0
                                      try clear c14b1
                                      try clear c15
                                      try clear c16
                                      try clear c17
                                      try clear c19
                                      try clear c19b0
                                      try clear c20
                                      try clear c20b0
                                      try clear c21
                                      try clear c21b0
                                      try clear c23
                                      try clear c24
                                      try clear c27
                                      try clear c27b0
                                      try clear c27b1
                                      try clear c28
                                      try clear c28b0
                                      try clear c30
                                      try clear c30b0
                                      try clear c31
                                      try clear c31b0
                                      try clear c37
                                      try clear c39
                                      try clear c40
                                      try clear c40b0
                                      try clear c40b1
                                      try clear c41
                                      try clear c41b0
                                      try clear c41b1
                                      try clear q42
                                      try clear hcz25_0
                                      try clear hcz25_1
                                      try clear hfz25_0
                                      try clear hfz25_1
                                      try clear hx520_0
                                      try clear hx520_1
                                      try clear hx524_0
                                      try clear hx524_1
                                      try clear p2
                                      try clear p5
                                      try clear p520
                                      try clear p524
                                      try clear p6
                                      try clear q42
                                      try clear q5
                                      try clear q520
                                      try clear q524
                                      obtain ⟨x112_5, rfl, HA, HK5, HO_8, HO_74, BK521, HR529, HB⟩ := hrel
                                      cases gk with
                                      | zero => exact absurd HA.out (by simp [medlarlaw11_DiffCovers.l1])
                                      | succ k5 =>
                                        have H := HA.out
                                        clear HA
                                        simp only [medlarlaw11_DiffCovers.l1] at H
                                        by_cases c43 : x112_5 < (y526.length : Int)
                                        · rw [if_pos c43] at H
                                          have c43b0 : decide (x112_5 < (y526.length : Int)) = true := decide_eq_true c43
                                          clear c43
                                          by_cases c44 : 0 ≤ x112_5
                                          · rw [if_pos c44] at H
                                            have c44b0 : decide (0 ≤ x112_5) = true := decide_eq_true c44
                                            clear c44
                                            by_cases c45 : x112_5 < (y526.length : Int)
                                            · rw [if_pos c45] at H
                                              have c45b0 : decide (x112_5 < (y526.length : Int)) = true := decide_eq_true c45
                                              clear c45
                                              replace H := Option.bind_eq_some_iff.mp H
                                              obtain ⟨⟨t532, t533⟩, A460, H⟩ := H
                                              replace H : (if t533 = 0 then (if t532 = true then (some false) else (medlarlaw11_DiffCovers.l1 k5 a0 l1 a2 t511 t512 x12_37 t518 t519 x15_2 t512 (t512.length : Int) x76_2 y526 (y526.length : Int) (wrap64 (x112_5 + 1)) ((rd_T34 t512 x76_2).f0) ((rd_T34 t512 x76_2).f1))) else (some false)) = some r := H
                                              have A46 := Aside0.mk A460
                                              clear A460
                                              by_cases c47 : t533 = 0
                                              · rw [if_pos c47] at H
                                                have c47b0 : (t533 == 0) = true := beq_iff_eq.mpr c47
                                                have c47b1 : (t533 != 0) = false := bne_eq_false_iff_eq.mpr c47
                                                clear c47
                                                by_cases c48 : t532 = true
                                                · subst c48
                                                  have H1 : (some false) = some r := by rw [if_pos rfl] at H; exact H
                                                  clear H
                                                  have H := H1
                                                  clear H1
                                                  exact absurd ((Option.some.inj H).trans hT.out) Bool.false_ne_true
                                                · replace c48 := Bool.eq_false_iff.mpr c48
                                                  subst c48
                                                  have H1 : (medlarlaw11_DiffCovers.l1 k5 a0 l1 a2 t511 t512 x12_37 t518 t519 x15_2 t512 (t512.length : Int) x76_2 y526 (y526.length : Int) (wrap64 (x112_5 + 1)) ((rd_T34 t512 x76_2).f0) ((rd_T34 t512 x76_2).f1)) = some r := by rw [if_neg (show ¬ (false = true) by decide)] at H; exact H
                                                  clear H
                                                  have H := H1
                                                  clear H1
                                                  have H' := Aside0.mk H
                                                  clear H
                                                  have p530 : 0 ≤ (x112_5 : Int) := of_decide_eq_true (by first | (with_reducible assumption) | assumption)
                                                  have q530 : x112_5 < (y526.length : Int) := of_decide_eq_true (by first | (with_reducible assumption) | assumption)
                                                  obtain ⟨ad530, e530, hx530_0, hx530_1⟩ := at_T34 HR529.out x112_5 p530 q530
                                                  obtain rfl : ad520 = ad530 := (by injection e530)
                                                  replace p530 := eq_true p530
                                                  replace q530 := eq_true q530
                                                  go_wp2_with (first | ((with_reducible refine gate_dst (N := 21) rfl ?_); (try (refine gate_guard (by rfl) ?_; dsimp only)); refine box_event ?hg (N := 21) ?hd (cs := #[.int .u64 0, .int .u64 0]) (t := 34) ?hr ?_; (case hd => rfl); (case hg => rfl); (case hr => first | (go_simp; done) | (go_simp; rfl)); intro gb531 hg w49 hbox hb; have n0_ := Aside0.mk (Kd.R_below (Kd.R_elderB (by (with_reducible repeat (first | apply Kd.R_alloc | apply Kd.R_drewN | apply Kd.R_drew)); exact HO_8.out) gb531 (Nat.le_of_eq hg.symm)) hb); have n1_ := Aside0.mk (Kd.R_below (Kd.R_elderB (by (with_reducible repeat (first | apply Kd.R_alloc | apply Kd.R_drewN | apply Kd.R_drew)); exact HO_74.out) gb531 (Nat.le_of_eq hg.symm)) hb); have n2_ := Aside0.mk (blk_below (g := gb521) (o := .cells #[.int .u64 ((rd_T34 t512 x76_2).f0), .int .u64 ((rd_T34 t512 x76_2).f1)] 34 (0, 0)) (by (with_reducible repeat (first | refine blk_drewN ?_ _ | refine blk_drew ?_ | refine blk_alloc ?_ _)); exact BK521.out) hb); have n3_ := Aside0.mk (Kd.C_below (by repeat (first | (with_reducible exact HR529.out) | (with_reducible refine Kd.C_alloc ?_ _) | (with_reducible refine Kd.C_drewN ?_ _) | (with_reducible refine Kd.C_drew ?_) | exact HR529.out)) hb); have n4_ := Aside0.mk (below_step (by repeat (first | (with_reducible first | exact HB.out | apply below_alloc | apply pw_below_drewN | apply below_drew1 | refine below_set ?_ GE521.out) | exact HB.out)) hb); have n5_ := Aside0.mk (hbox); have n6_ := Aside0.mk ((by rw [hg]; exact (below_size (by repeat (first | (with_reducible first | exact HB.out | apply below_alloc | apply pw_below_drewN | apply below_drew1 | refine below_set ?_ GE521.out) | exact HB.out))) : w.heap.size ≤ gb531)); have n7_ := Aside0.mk ((by rw [hg]; exact (below_size (by repeat (first | (with_reducible first | exact HB.out | apply below_alloc | apply pw_below_drewN | apply below_drew1 | refine below_set ?_ GE521.out) | exact HB.out))) : w.heap.size ≤ gb531)); have n8_ := Aside0.mk ((by rw [hg]; exact Nat.ne_of_lt (blk_lt (g := gb521) (o := .cells #[.int .u64 ((rd_T34 t512 x76_2).f0), .int .u64 ((rd_T34 t512 x76_2).f1)] 34 (0, 0)) (by (with_reducible repeat (first | refine blk_drewN ?_ _ | refine blk_drew ?_ | refine blk_alloc ?_ _)); exact BK521.out)) : gb521 ≠ gb531)); have n9_ := Aside0.mk ((by rw [hg]; exact Nat.ne_of_gt (blk_lt (g := gb521) (o := .cells #[.int .u64 ((rd_T34 t512 x76_2).f0), .int .u64 ((rd_T34 t512 x76_2).f1)] 34 (0, 0)) (by (with_reducible repeat (first | refine blk_drewN ?_ _ | refine blk_drew ?_ | refine blk_alloc ?_ _)); exact BK521.out)) : gb531 ≠ gb521)); clear HO_8; clear HO_74; clear BK521; clear HR529; clear HB; have HO_8 := n0_; have HO_74 := n1_; have BK521 := n2_; have HR529 := n3_; have HB := n4_; have BK531 := n5_; have GW531 := n6_; have GE531 := n7_; have NB521_531 := n8_; have NB531_521 := n9_; clear n0_ n1_ n2_ n3_ n4_ n5_ n6_ n7_ n8_ n9_; clear hb hbox hg; have hnb50 := NB531_521.out; have hnc50 := NB521_531.out; have hcz51_0 : w49.cell? ⟨gb531, 0, none⟩ = some (.int .u64 0) := (blk_cell BK531.out 0).trans rfl; have hcz51_1 : w49.cell? ⟨gb531, 1, none⟩ = some (.int .u64 0) := (blk_cell BK531.out 1).trans rfl; have hfz51_0 := blk_frozen BK531.out 0; have hfz51_1 := blk_frozen BK531.out 1; have hcz52_0 : w49.cell? ⟨gb521, 0, none⟩ = some (.int .u64 ((rd_T34 t512 x76_2).f0)) := (blk_cell BK521.out 0).trans rfl; have hcz52_1 : w49.cell? ⟨gb521, 1, none⟩ = some (.int .u64 ((rd_T34 t512 x76_2).f1)) := (blk_cell BK521.out 1).trans rfl; have hfz52_0 := blk_frozen BK521.out 0; have hfz52_1 := blk_frozen BK521.out 1) | ((with_reducible refine gate_callee (f := 25) rfl ?_); refine goesL_ (some 120) rfl rfl Try.func25 (by kernel_rfl) rfl #[.int .i64 a0, .agg #[.int .u64 ((rd_T34 t512 x76_2).f0), .int .u64 ((rd_T34 t512 x76_2).f1)], .agg #[.int .u64 ((rd_T34 y526 x112_5).f0), .int .u64 ((rd_T34 y526 x112_5).f1)]] rfl (by (try simp only [List.map_toArray, List.map_cons, List.map_nil]); first | done | rfl | (simp only [List.length_drop, List.length_take]; rfl)) ?_; (with_reducible refine (sub_Touch.calls k5 a0 ((rd_T34 t512 x76_2).f0) ((rd_T34 t512 x76_2).f1) ((rd_T34 y526 x112_5).f0) ((rd_T34 y526 x112_5).f1) false t533 _ A46.out).mono ?_); rintro e w53 ⟨rfl, hb⟩; refine ⟨_, rfl, ?_⟩; have n0_ := Aside0.mk (Kd.R_below (by (with_reducible repeat (first | apply Kd.R_alloc | apply Kd.R_drewN | apply Kd.R_drew)); exact (Kd.R_mono (Kd.R_far (p := ⟨gb531, 1, none⟩) (Kd.R_far (p := ⟨gb531, 0, none⟩) (Kd.R_mono HO_8.out (fun k_ hk => (⟨hk, hk.2⟩ : _ ∧ k_ ≠ gb531))) (fun _ hk => hk.2) (.int .u64 ((rd_T34 y526 x112_5).f0))) (fun _ hk => hk.2) (.int .u64 ((rd_T34 y526 x112_5).f1))) (fun _ h_ => h_.1))) hb); have n1_ := Aside0.mk (Kd.R_below (by (with_reducible repeat (first | apply Kd.R_alloc | apply Kd.R_drewN | apply Kd.R_drew)); exact (Kd.R_mono (Kd.R_far (p := ⟨gb531, 1, none⟩) (Kd.R_far (p := ⟨gb531, 0, none⟩) (Kd.R_mono HO_74.out (fun k_ hk => (⟨hk, hk.2⟩ : _ ∧ k_ ≠ gb531))) (fun _ hk => hk.2) (.int .u64 ((rd_T34 y526 x112_5).f0))) (fun _ hk => hk.2) (.int .u64 ((rd_T34 y526 x112_5).f1))) (fun _ h_ => h_.1))) hb); have n2_ := Aside0.mk (blk_below (g := gb521) (o := .cells #[.int .u64 ((rd_T34 t512 x76_2).f0), .int .u64 ((rd_T34 t512 x76_2).f1)] 34 (0, 0)) (by (with_reducible repeat (first | refine blk_drewN ?_ _ | refine blk_drew ?_ | refine blk_alloc ?_ _)); refine blk_far ?_ NB521_531.out _; (with_reducible repeat (first | refine blk_drewN ?_ _ | refine blk_drew ?_ | refine blk_alloc ?_ _)); refine blk_far ?_ NB521_531.out _; (with_reducible repeat (first | refine blk_drewN ?_ _ | refine blk_drew ?_ | refine blk_alloc ?_ _)); exact BK521.out) hb); have n3_ := Aside0.mk (Kd.C_below ((show Kd.C k34 _ (some ad520) y526.length y526 from by exact Kd.C_same Ny526.out (Kd.C_take (m := (x76_2 : Int).toNat) ((Kd.R_reads' (by (with_reducible repeat (first | apply Kd.R_alloc | apply Kd.R_drewN | apply Kd.R_drew)); exact (Kd.R_mono (Kd.R_far (p := ⟨gb531, 1, none⟩) (Kd.R_far (p := ⟨gb531, 0, none⟩) (Kd.R_mono HO_8.out (fun k_ hk => (⟨hk, hk.2⟩ : _ ∧ k_ ≠ gb531))) (fun _ hk => hk.2) (.int .u64 ((rd_T34 y526 x112_5).f0))) (fun _ hk => hk.2) (.int .u64 ((rd_T34 y526 x112_5).f1))) (fun _ h_ => h_.1)))).2.2) KL42.out))) hb); have n4_ := Aside0.mk (blk_below (g := gb531) (o := .cells #[.int .u64 ((rd_T34 y526 x112_5).f0), .int .u64 ((rd_T34 y526 x112_5).f1)] 34 (0, 0)) (by (with_reducible repeat (first | refine blk_drewN ?_ _ | refine blk_drew ?_ | refine blk_alloc ?_ _)); refine blk_put (cs := #[.int .u64 ((rd_T34 y526 x112_5).f0), .int .u64 0]) ?_ 1 _ rfl; (with_reducible repeat (first | refine blk_drewN ?_ _ | refine blk_drew ?_ | refine blk_alloc ?_ _)); refine blk_put (cs := #[.int .u64 0, .int .u64 0]) ?_ 0 _ rfl; (with_reducible repeat (first | refine blk_drewN ?_ _ | refine blk_drew ?_ | refine blk_alloc ?_ _)); exact BK531.out) hb); have n5_ := Aside0.mk (below_step (by repeat (first | (with_reducible first | exact HB.out | apply below_alloc | apply pw_below_drewN | apply below_drew1 | refine below_set ?_ GE521.out | refine below_set ?_ GE531.out) | exact HB.out)) hb); clear HO_8; clear HO_74; clear BK521; clear HR529; clear BK531; clear HB; have HO_8 := n0_; have HO_74 := n1_; have BK521 := n2_; have HR529 := n3_; have BK531 := n4_; have HB := n5_; clear n0_ n1_ n2_ n3_ n4_ n5_; (try clear hb); (try clear hb2); (try clear hk); (try clear hi)))
                                                  go_roundg k5
                                                  case measure => have := HJ9.out; have := HK2.out; have := HJ22.out; have := HJ37.out; have := HK5.out; omega
                                                  case rel => exact ⟨(wrap64 (x112_5 + 1)), (by first | rfl | (simp; done) | (simp [*]; done)), H', ⟨by have := HJ9.out; have := HK2.out; have := HJ22.out; have := HJ37.out; have := HK5.out; omega⟩, ⟨by (with_reducible repeat (first | apply Kd.R_alloc | apply Kd.R_drewN | apply Kd.R_drew)); exact Kd.R_mono HO_8.out (fun _ hk => hk.1)⟩, ⟨by (with_reducible repeat (first | apply Kd.R_alloc | apply Kd.R_drewN | apply Kd.R_drew)); exact Kd.R_mono HO_74.out (fun _ hk => hk.1)⟩, ⟨by (with_reducible repeat (first | refine blk_drewN ?_ _ | refine blk_drew ?_ | refine blk_alloc ?_ _)); exact BK521.out⟩, ⟨by repeat (first | (with_reducible exact HR529.out) | (with_reducible refine Kd.C_alloc ?_ _) | (with_reducible refine Kd.C_drewN ?_ _) | (with_reducible refine Kd.C_drew ?_) | exact HR529.out)⟩, ⟨by repeat (first | (with_reducible first | exact HB.out | apply below_alloc | apply pw_below_drewN | apply below_drew1 | refine below_set ?_ GE521.out | refine below_set ?_ GE531.out) | exact HB.out)⟩⟩
                                              · rw [if_neg c47] at H
                                                have c47b0 : (t533 == 0) = false := beq_eq_false_iff_ne.mpr c47
                                                have c47b1 : (t533 != 0) = true := bne_iff_ne.mpr c47
                                                exact absurd ((Option.some.inj H).trans hT.out) Bool.false_ne_true
                                            · rw [if_neg c45] at H
                                              exact absurd H (by simp)
                                          · rw [if_neg c44] at H
                                            exact absurd H (by simp)
                                        · rw [if_neg c43] at H
                                          have c43b0 : decide (x112_5 < (y526.length : Int)) = false := decide_eq_false c43
                                          clear c43
                                          replace H := Option.bind_eq_some_iff.mp H
                                          obtain ⟨⟨t534, t537⟩, A540, H⟩ := H
                                          replace H : ((leaf_Many.f k5 a0 t534).bind fun bt538 => (if t537 = 0 then (if bt538.2 = 0 then (medlarlaw11_DiffCovers.l0 k5 a0 l1 a2 t511 t512 x12_37 t518 t519 (IntKind.u64.wrap (x15_2 + bt538.1)) t512 (t512.length : Int) (wrap64 (x76_2 + 1))) else (some false)) else (some false))) = some r := H
                                          have A54 := Aside0.mk A540
                                          clear A540
                                          replace H := Option.bind_eq_some_iff.mp H
                                          obtain ⟨⟨t538, t539⟩, A550, H⟩ := H
                                          replace H : (if t537 = 0 then (if t539 = 0 then (medlarlaw11_DiffCovers.l0 k5 a0 l1 a2 t511 t512 x12_37 t518 t519 (IntKind.u64.wrap (x15_2 + t538)) t512 (t512.length : Int) (wrap64 (x76_2 + 1))) else (some false)) else (some false)) = some r := H
                                          have A55 := Aside0.mk A550
                                          clear A550
                                          by_cases c56 : t537 = 0
                                          · rw [if_pos c56] at H
                                            have c56b0 : (t537 == 0) = true := beq_iff_eq.mpr c56
                                            have c56b1 : (t537 != 0) = false := bne_eq_false_iff_eq.mpr c56
                                            clear c56
                                            by_cases c57 : t539 = 0
                                            · rw [if_pos c57] at H
                                              have c57b0 : (t539 == 0) = true := beq_iff_eq.mpr c57
                                              have c57b1 : (t539 != 0) = false := bne_eq_false_iff_eq.mpr c57
                                              clear c57
                                              have H' := Aside0.mk H
                                              clear H
                                              have hcz58_0 : wr.cell? ⟨gb521, 0, none⟩ = some (.int .u64 ((rd_T34 t512 x76_2).f0)) := (blk_cell BK521.out 0).trans rfl
                                              have hcz58_1 : wr.cell? ⟨gb521, 1, none⟩ = some (.int .u64 ((rd_T34 t512 x76_2).f1)) := (blk_cell BK521.out 1).trans rfl
                                              have hfz58_0 := blk_frozen BK521.out 0
                                              have hfz58_1 := blk_frozen BK521.out 1
                                              go_wp2_with (first | ((with_reducible refine gate_callee (f := 26) rfl ?_); refine goesL_ (some 132) rfl rfl Try.func26 (by kernel_rfl) rfl #[.int .i64 a0, .agg #[.int .u64 ((rd_T34 t512 x76_2).f0), .int .u64 ((rd_T34 t512 x76_2).f1)]] rfl (by (try simp only [List.map_toArray, List.map_cons, List.map_nil]); first | done | rfl | (simp only [List.length_drop, List.length_take]; rfl)) ?_; (with_reducible refine (sub_Leaves.calls k5 a0 ((rd_T34 t512 x76_2).f0) ((rd_T34 t512 x76_2).f1) t534 t537 _ A54.out).mono ?_); rintro e w59 ⟨v535, rfl, ho0, hb⟩; refine ⟨_, rfl, ?_⟩; have n0_ := Aside0.mk (Kd.R_below (by (with_reducible repeat (first | apply Kd.R_alloc | apply Kd.R_drewN | apply Kd.R_drew)); exact HO_8.out) hb); have n1_ := Aside0.mk (Kd.R_below (by (with_reducible repeat (first | apply Kd.R_alloc | apply Kd.R_drewN | apply Kd.R_drew)); exact HO_74.out) hb); have n2_ := Aside0.mk (Kd.R_lower ho0 (below_size (by repeat (first | (with_reducible first | exact HB.out | apply below_alloc | apply pw_below_drewN | apply below_drew1 | refine below_set ?_ GE521.out) | exact HB.out)))); have n3_ := Aside0.mk (blk_below (g := gb521) (o := .cells #[.int .u64 ((rd_T34 t512 x76_2).f0), .int .u64 ((rd_T34 t512 x76_2).f1)] 34 (0, 0)) (by (with_reducible repeat (first | refine blk_drewN ?_ _ | refine blk_drew ?_ | refine blk_alloc ?_ _)); exact BK521.out) hb); have n4_ := Aside0.mk (Kd.C_below (by repeat (first | (with_reducible exact HR529.out) | (with_reducible refine Kd.C_alloc ?_ _) | (with_reducible refine Kd.C_drewN ?_ _) | (with_reducible refine Kd.C_drew ?_) | exact HR529.out)) hb); have n5_ := Aside0.mk (below_step (by repeat (first | (with_reducible first | exact HB.out | apply below_alloc | apply pw_below_drewN | apply below_drew1 | refine below_set ?_ GE521.out) | exact HB.out)) hb); clear HO_8; clear HO_74; clear BK521; clear HR529; clear HB; have HO_8 := n0_; have HO_74 := n1_; have HO536 := n2_; have BK521 := n3_; have HR529 := n4_; have HB := n5_; clear n0_ n1_ n2_ n3_ n4_ n5_; (try clear hb); (try clear hb2); (try clear hk); (try clear hi); (try clear ho0); obtain ⟨Ao60, co60, eo60⟩ := Kd.R_slice HO536.out; subst eo60) | ((with_reducible refine gate_callee (f := 27) rfl ?_); refine goesL_ (some 138) rfl rfl Try.func27 (by kernel_rfl) rfl #[.int .i64 a0, .slice Ao60 t534.length co60] rfl (by (try simp only [List.map_toArray, List.map_cons, List.map_nil]); first | done | rfl | (simp only [List.length_drop, List.length_take]; rfl)) ?_; (with_reducible refine (leaf_Many.calls k5 a0 _ _ t534 t538 t539 _ ?side1 ?side2 A55.out).mono ?_); (case side1 => repeat (first | exact (Kd.R_reads' HO536.out).2.2 | (with_reducible refine Kd.C_alloc ?_ _) | (with_reducible refine Kd.C_drewN ?_ _) | (with_reducible refine Kd.C_drew ?_))); (case side2 => exact (Kd.R_reads' HO536.out).2.1); rintro e w61 ⟨rfl, hb⟩; refine ⟨_, rfl, ?_⟩; have n0_ := Aside0.mk (Kd.R_below (by (with_reducible repeat (first | apply Kd.R_alloc | apply Kd.R_drewN | apply Kd.R_drew)); exact HO_8.out) hb); have n1_ := Aside0.mk (Kd.R_below (by (with_reducible repeat (first | apply Kd.R_alloc | apply Kd.R_drewN | apply Kd.R_drew)); exact HO_74.out) hb); have n2_ := Aside0.mk (Kd.R_below (by (with_reducible repeat (first | apply Kd.R_alloc | apply Kd.R_drewN | apply Kd.R_drew)); exact HO536.out) hb); have n3_ := Aside0.mk (blk_below (g := gb521) (o := .cells #[.int .u64 ((rd_T34 t512 x76_2).f0), .int .u64 ((rd_T34 t512 x76_2).f1)] 34 (0, 0)) (by (with_reducible repeat (first | refine blk_drewN ?_ _ | refine blk_drew ?_ | refine blk_alloc ?_ _)); exact BK521.out) hb); have n4_ := Aside0.mk (Kd.C_below (by repeat (first | (with_reducible exact HR529.out) | (with_reducible refine Kd.C_alloc ?_ _) | (with_reducible refine Kd.C_drewN ?_ _) | (with_reducible refine Kd.C_drew ?_) | exact HR529.out)) hb); have n5_ := Aside0.mk (below_step (by repeat (first | (with_reducible first | exact HB.out | apply below_alloc | apply pw_below_drewN | apply below_drew1 | refine below_set ?_ GE521.out) | exact HB.out)) hb); clear HO_8; clear HO_74; clear HO536; clear BK521; clear HR529; clear HB; have HO_8 := n0_; have HO_74 := n1_; have HO536 := n2_; have BK521 := n3_; have HR529 := n4_; have HB := n5_; clear n0_ n1_ n2_ n3_ n4_ n5_; (try clear hb); (try clear hb2); (try clear hk); (try clear hi)))
                                              go_roundg k5
                                              case measure => have := HJ9.out; have := HK2.out; have := HJ22.out; have := HJ37.out; have := HK5.out; omega
                                              case rel => exact ⟨(x12_37), (IntKind.u64.wrap (x15_2 + t538)), (wrap64 (x76_2 + 1)), (by first | rfl | (simp; done) | (simp [*]; done)), (by first | rfl | (simp; done) | (simp [*]; done)), (by first | rfl | (simp; done) | (simp [*]; done)), H', ⟨by have := HJ9.out; have := HK2.out; have := HJ22.out; have := HJ37.out; have := HK5.out; omega⟩, ⟨by (with_reducible repeat (first | apply Kd.R_alloc | apply Kd.R_drewN | apply Kd.R_drew)); exact Kd.R_mono HO_8.out (fun _ hk => trivial)⟩, ⟨by (with_reducible repeat (first | apply Kd.R_alloc | apply Kd.R_drewN | apply Kd.R_drew)); exact Kd.R_mono HO_74.out (fun _ hk => trivial)⟩, ⟨by repeat (first | (with_reducible first | exact HB.out | apply below_alloc | apply pw_below_drewN | apply below_drew1 | refine below_set ?_ GE521.out) | exact HB.out)⟩⟩
                                            · rw [if_neg c57] at H
                                              have c57b0 : (t539 == 0) = false := beq_eq_false_iff_ne.mpr c57
                                              have c57b1 : (t539 != 0) = true := bne_iff_ne.mpr c57
                                              exact absurd ((Option.some.inj H).trans hT.out) Bool.false_ne_true
                                          · rw [if_neg c56] at H
                                            have c56b0 : (t537 == 0) = false := beq_eq_false_iff_ne.mpr c56
                                            have c56b1 : (t537 != 0) = true := bne_iff_ne.mpr c56
                                            exact absurd ((Option.some.inj H).trans hT.out) Bool.false_ne_true
                                  · rw [if_neg c41] at H
                                    exact absurd H (by simp)
                                · rw [if_neg c40] at H
                                  exact absurd H (by simp)
                    · rw [if_neg c21] at H
                      exact absurd H (by simp)
                  · rw [if_neg c20] at H
                    exact absurd H (by simp)
                · rw [if_neg c19] at H
                  have c19b0 : decide (x76_2 < (t512.length : Int)) = false := decide_eq_false c19
                  clear c19
                  have HC62 := Aside0.mk H
                  clear H
                  go_upto_region 34 with (fail)
                  go_cut [163] (fun v163 wc => ∃ (kq : Nat) (x163_61 : Bool), v163 = .bool x163_61 ∧ Aside0 (medlarlaw11_DiffCovers.j5 kq a0 l1 t511 x15_2 x163_61 = some r) ∧ Aside0 (kq ≤ k2) ∧ Aside0 (Below w.heap.size w wc))
                  case first =>
                    have H := HC62.out
                    clear HC62
                    by_cases c63 : t519 = 0
                    · rw [if_pos c63] at H
                      have c63b0 : (t519 == 0) = true := beq_iff_eq.mpr c63
                      have c63b1 : (t519 != 0) = false := bne_eq_false_iff_eq.mpr c63
                      clear c63
                      (first | rw [c63b0] | (simp only [i64_w, i32_w]; rw [c63b0]) | skip)
                      by_cases c64 : ((x12_2 == 1) != (!t518)) = true
                      · rw [if_pos c64] at H
                        have c64b0 : ((x12_2 == 1) != (!t518)) = true := c64
                        (try (have c64b1 : decide ((x12_2 == 1) = (!t518)) = false := by simpa using c64))
                        (try (have c64b2 : ((x12_2 == 1) == (!t518)) = false := by simpa using c64))
                        (try (have c64b3 : ¬ ((x12_2 == 1) = (!t518)) := by simpa using c64))
                        clear c64
                        have H' := Aside0.mk H
                        clear H
                        go_wp2
                        go_meet
                        case rel => exact ⟨_, (true), (by first | rfl | (simp; done) | (simp [*]; done)), H', ⟨by have := HJ9.out; have := HK2.out; first | omega | exact Nat.le_refl _⟩, ⟨by repeat (first | (with_reducible first | exact HB.out | apply below_alloc | apply pw_below_drewN | apply below_drew1) | exact HB.out)⟩⟩
                      · rw [if_neg c64] at H
                        have c64b0 : ((x12_2 == 1) != (!t518)) = false := by simpa using c64
                        have c64b4 := (show ∀ a b : Bool, (a != b) = false → a = b by decide) _ _ c64b0
                        (try (have c64b1 : decide ((x12_2 == 1) = (!t518)) = true := by simpa using c64))
                        (try (have c64b2 : ((x12_2 == 1) == (!t518)) = true := by simpa using c64))
                        clear c64
                        have H' := Aside0.mk H
                        clear H
                        go_wp2
                        go_meet
                        case rel => exact ⟨_, (decide (x12_2 > 1)), (by first | rfl | (simp; done) | (simp [*]; done)), H', ⟨by have := HJ9.out; have := HK2.out; first | omega | exact Nat.le_refl _⟩, ⟨by repeat (first | (with_reducible first | exact HB.out | apply below_alloc | apply pw_below_drewN | apply below_drew1) | exact HB.out)⟩⟩
                    · rw [if_neg c63] at H
                      have c63b0 : (t519 == 0) = false := beq_eq_false_iff_ne.mpr c63
                      have c63b1 : (t519 != 0) = true := bne_iff_ne.mpr c63
                      (first | rw [c63b0] | (simp only [i64_w, i32_w]; rw [c63b0]) | skip)
                      have H' := Aside0.mk H
                      clear H
                      go_wp2
                      go_meet
                      case rel => exact ⟨_, (decide (x12_2 > 1)), (by first | rfl | (simp; done) | (simp [*]; done)), H', ⟨by have := HJ9.out; have := HK2.out; first | omega | exact Nat.le_refl _⟩, ⟨by repeat (first | (with_reducible first | exact HB.out | apply below_alloc | apply pw_below_drewN | apply below_drew1) | exact HB.out)⟩⟩
                  case rest =>
                    clear HC62
                    try clear c1
                    try clear c2
                    try clear p2
                    try clear c3
                    try clear c4
                    try clear q4
                    try clear c5
                    try clear c5b0
                    try clear c5b1
                    try clear p5
                    try clear q5
                    try clear hx5
                    try clear c6
                    try clear p6
                    try clear c8
                    try clear c8b0
                    try clear c8b1
                    try clear c14
                    try clear c14b0
                    try clear c14b1
                    try clear c15
                    try clear c16
                    try clear c17
                    try clear c19
                    try clear c19b0
                    try clear c20
                    try clear c20b0
                    try clear c21
                    try clear c21b0
                    try clear c23
                    try clear c24
                    try clear c25
                    try clear c26
                    try clear c27
                    try clear c27b0
                    try clear c27b1
                    try clear c28
                    try clear c28b0
                    try clear c30
                    try clear c30b0
                    try clear c31
                    try clear c31b0
                    try clear c37
                    try clear c39
                    try clear c40
                    try clear c40b0
                    try clear c40b1
                    try clear c41
                    try clear c41b0
                    try clear c41b1
                    try clear q42
                    try clear c43
                    try clear c43b0
                    try clear c44
                    try clear c44b0
                    try clear c45
                    try clear c45b0
                    try clear c47
                    try clear c47b0
                    try clear c47b1
                    try clear c48
                    try clear c50
                    try clear p52
                    try clear q52
                    try clear hx52
                    try clear p53
                    try clear q53
                    try clear hx53
                    try clear c56
                    try clear c56b0
                    try clear c56b1
                    try clear c57
                    try clear c57b0
                    try clear c57b1
                    try clear c63
                    try clear c63b0
                    try clear c63b1
                    try clear c64
                    try clear c64b0
                    try clear c64b1
                    try clear c64b2
                    try clear p64
                    try clear hcz25_0
                    try clear hcz25_1
                    try clear hcz51_0
                    try clear hcz51_1
                    try clear hcz52_0
                    try clear hcz52_1
                    try clear hcz58_0
                    try clear hcz58_1
                    try clear hfz25_0
                    try clear hfz25_1
                    try clear hfz51_0
                    try clear hfz51_1
                    try clear hfz52_0
                    try clear hfz52_1
                    try clear hfz58_0
                    try clear hfz58_1
                    try clear hx520_0
                    try clear hx520_1
                    try clear hx524_0
                    try clear hx524_1
                    try clear hx530_0
                    try clear hx530_1
                    try clear p2
                    try clear p5
                    try clear p520
                    try clear p524
                    try clear p530
                    try clear p6
                    try clear q4
                    try clear q42
                    try clear q5
                    try clear q520
                    try clear q524
                    try clear q530
                    obtain ⟨kq, x163_61, rfl, HA, HJ61, HB⟩ := hcut
                    cases kq with
                    | zero => exact absurd HA.out (by simp [medlarlaw11_DiffCovers.j5])
                    | succ kj61 =>
                      have H := HA.out
                      clear HA
                      simp only [medlarlaw11_DiffCovers.j5] at H
                      by_cases c65 : x163_61 = true
                      · subst c65
                        have H1 : (some false) = some r := by rw [if_pos rfl] at H; exact H
                        clear H
                        have H := H1
                        clear H1
                        exact absurd ((Option.some.inj H).trans hT.out) Bool.false_ne_true
                      · replace c65 := Bool.eq_false_iff.mpr c65
                        subst c65
                        have H1 : ((leaf_Gaps.f kj61 a0 l1).bind fun bt540 => ((leaf_Many.f kj61 a0 bt540.1).bind fun bt544 => (if t511 = true then (if bt540.2 = 0 then (if bt544.2 = 0 then (some (x15_2 == bt544.1)) else (some false)) else (some false)) else (some false)))) = some r := by rw [if_neg (show ¬ (false = true) by decide)] at H; exact H
                        clear H
                        have H := H1
                        clear H1
                        replace H := Option.bind_eq_some_iff.mp H
                        obtain ⟨⟨t540, t541⟩, A660, H⟩ := H
                        replace H : ((leaf_Many.f kj61 a0 t540).bind fun bt544 => (if t511 = true then (if t541 = 0 then (if bt544.2 = 0 then (some (x15_2 == bt544.1)) else (some false)) else (some false)) else (some false))) = some r := H
                        have A66 := Aside0.mk A660
                        clear A660
                        replace H := Option.bind_eq_some_iff.mp H
                        obtain ⟨⟨t544, t545⟩, A670, H⟩ := H
                        replace H : (if t511 = true then (if t541 = 0 then (if t545 = 0 then (some (x15_2 == t544)) else (some false)) else (some false)) else (some false)) = some r := H
                        have A67 := Aside0.mk A670
                        clear A670
                        by_cases c68 : t511 = true
                        · subst c68
                          have H1 : (if t541 = 0 then (if t545 = 0 then (some (x15_2 == t544)) else (some false)) else (some false)) = some r := by rw [if_pos rfl] at H; exact H
                          clear H
                          have H := H1
                          clear H1
                          by_cases c69 : t541 = 0
                          · rw [if_pos c69] at H
                            have c69b0 : (t541 == 0) = true := beq_iff_eq.mpr c69
                            have c69b1 : (t541 != 0) = false := bne_eq_false_iff_eq.mpr c69
                            clear c69
                            by_cases c70 : t545 = 0
                            · rw [if_pos c70] at H
                              have c70b0 : (t545 == 0) = true := beq_iff_eq.mpr c70
                              have c70b1 : (t545 != 0) = false := bne_eq_false_iff_eq.mpr c70
                              clear c70
                              obtain rfl := Option.some.inj H
                              go_wp2_with (first | ((with_reducible refine gate_callee (f := 28) rfl ?_); refine goesL_ (some 167) rfl rfl Try.func28 (by kernel_rfl) rfl #[.int .i64 a0, .slice A1 l1.length c1] rfl (by (try simp only [List.map_toArray, List.map_cons, List.map_nil]); first | done | rfl | (simp only [List.length_drop, List.length_take]; rfl)) ?_; (with_reducible refine (leaf_Gaps.calls kj61 a0 _ _ l1 t540 t541 _ ?side1 ?side2 A66.out).mono ?_); (case side1 => repeat (first | exact (Kd.C_below HR1.out HB.out) | (with_reducible refine Kd.C_alloc ?_ _) | (with_reducible refine Kd.C_drewN ?_ _) | (with_reducible refine Kd.C_drew ?_))); (case side2 => exact HC1.out); rintro e w71 ⟨v542, rfl, ho0, hb⟩; refine ⟨_, rfl, ?_⟩; have n0_ := Aside0.mk (Kd.R_lower ho0 (below_size (by repeat (first | (with_reducible first | exact HB.out | apply below_alloc | apply pw_below_drewN | apply below_drew1) | exact HB.out)))); have n1_ := Aside0.mk (below_step (by repeat (first | (with_reducible first | exact HB.out | apply below_alloc | apply pw_below_drewN | apply below_drew1) | exact HB.out)) hb); clear HB; have HO543 := n0_; have HB := n1_; clear n0_ n1_; (try clear hb); (try clear hb2); (try clear hk); (try clear hi); (try clear ho0); obtain ⟨Ao72, co72, eo72⟩ := Kd.R_slice HO543.out; subst eo72) | ((with_reducible refine gate_callee (f := 27) rfl ?_); refine goesL_ (some 173) rfl rfl Try.func27 (by kernel_rfl) rfl #[.int .i64 a0, .slice Ao72 t540.length co72] rfl (by (try simp only [List.map_toArray, List.map_cons, List.map_nil]); first | done | rfl | (simp only [List.length_drop, List.length_take]; rfl)) ?_; (with_reducible refine (leaf_Many.calls kj61 a0 _ _ t540 t544 t545 _ ?side1 ?side2 A67.out).mono ?_); (case side1 => repeat (first | exact (Kd.R_reads' HO543.out).2.2 | (with_reducible refine Kd.C_alloc ?_ _) | (with_reducible refine Kd.C_drewN ?_ _) | (with_reducible refine Kd.C_drew ?_))); (case side2 => exact (Kd.R_reads' HO543.out).2.1); rintro e w73 ⟨rfl, hb⟩; refine ⟨_, rfl, ?_⟩; have n0_ := Aside0.mk (Kd.R_below (by (with_reducible repeat (first | apply Kd.R_alloc | apply Kd.R_drewN | apply Kd.R_drew)); exact HO543.out) hb); have n1_ := Aside0.mk (below_step (by repeat (first | (with_reducible first | exact HB.out | apply below_alloc | apply pw_below_drewN | apply below_drew1) | exact HB.out)) hb); clear HO543; clear HB; have HO543 := n0_; have HB := n1_; clear n0_ n1_; (try clear hb); (try clear hb2); (try clear hk); (try clear hi)))
                              go_ret
                              exact ⟨by first | rfl | (simp [errW_none, errW_some] <;> rfl) | (simp [*, errW_none, errW_some] <;> rfl), by repeat (first | (with_reducible first | exact HB.out | apply below_alloc | apply pw_below_drewN | apply below_drew1) | exact HB.out)⟩
                            · rw [if_neg c70] at H
                              have c70b0 : (t545 == 0) = false := beq_eq_false_iff_ne.mpr c70
                              have c70b1 : (t545 != 0) = true := bne_iff_ne.mpr c70
                              exact absurd ((Option.some.inj H).trans hT.out) Bool.false_ne_true
                          · rw [if_neg c69] at H
                            have c69b0 : (t541 == 0) = false := beq_eq_false_iff_ne.mpr c69
                            have c69b1 : (t541 != 0) = true := bne_iff_ne.mpr c69
                            exact absurd ((Option.some.inj H).trans hT.out) Bool.false_ne_true
                        · replace c68 := Bool.eq_false_iff.mpr c68
                          subst c68
                          have H1 : (some false) = some r := by rw [if_neg (show ¬ (false = true) by decide)] at H; exact H
                          clear H
                          have H := H1
                          clear H1
                          exact absurd ((Option.some.inj H).trans hT.out) Bool.false_ne_true
    · rw [if_neg c8] at H
      have c8b0 : (t513 == 0) = false := beq_eq_false_iff_ne.mpr c8
      have c8b1 : (t513 != 0) = true := bne_iff_ne.mpr c8
      by_cases c74 : t511 = true
      · subst c74
        have H1 : (some ((t512.length : Int) == 0)) = some r := by rw [if_pos rfl] at H; exact H
        clear H
        have H := H1
        clear H1
        obtain rfl := Option.some.inj H
        go_enter Try.func6, Try.ntmps6
        go_wp2_with (first | ((with_reducible refine gate_callee (f := 14) rfl ?_); refine goesL_ (some 32) rfl rfl Try.func14 (by kernel_rfl) rfl #[] rfl (by (try simp only [List.map_toArray, List.map_cons, List.map_nil]); first | done | rfl | (simp only [List.length_drop, List.length_take]; rfl)) ?_; (with_reducible refine (medlarlaw11_live.calls k  true _ A4.out).mono ?_); rintro e w75 ⟨rfl, hb⟩; refine ⟨_, rfl, ?_⟩; have n0_ := Aside0.mk (below_step (by repeat (first | (with_reducible first | exact HB.out | apply below_alloc | apply pw_below_drewN | apply below_drew1) | exact HB.out)) hb); clear HB; have HB := n0_; clear n0_; (try clear hb); (try clear hb2); (try clear hk); (try clear hi)) | ((with_reducible refine gate_callee (f := 15) rfl ?_); refine goesL_ (some 40) rfl rfl Try.func15 (by kernel_rfl) rfl #[.int .i64 a0, .slice A1 l1.length c1] rfl (by (try simp only [List.map_toArray, List.map_cons, List.map_nil]); first | done | rfl | (simp only [List.length_drop, List.length_take]; rfl)) ?_; (with_reducible refine (diff_Cover.calls k a0 _ _ l1 t512 t513 _ ?side1 ?side2 A7.out).mono ?_); (case side1 => repeat (first | exact (Kd.C_below HR1.out HB.out) | (with_reducible refine Kd.C_alloc ?_ _) | (with_reducible refine Kd.C_drewN ?_ _) | (with_reducible refine Kd.C_drew ?_))); (case side2 => exact HC1.out); rintro e w76 ⟨v514, rfl, ho0, hb⟩; refine ⟨_, rfl, ?_⟩; have n0_ := Aside0.mk (Kd.R_lower ho0 (below_size (by repeat (first | (with_reducible first | exact HB.out | apply below_alloc | apply pw_below_drewN | apply below_drew1) | exact HB.out)))); have n1_ := Aside0.mk (below_step (by repeat (first | (with_reducible first | exact HB.out | apply below_alloc | apply pw_below_drewN | apply below_drew1) | exact HB.out)) hb); clear HB; have HO515 := n0_; have HB := n1_; clear n0_ n1_; (try clear hb); (try clear hb2); (try clear hk); (try clear hi); (try clear ho0); obtain ⟨Ao77, co77, eo77⟩ := Kd.R_slice HO515.out; subst eo77))
        go_ret
        exact ⟨by first | rfl | (simp [errW_none, errW_some] <;> rfl) | (simp [*, errW_none, errW_some] <;> rfl), by repeat (first | (with_reducible first | exact HB.out | apply below_alloc | apply pw_below_drewN | apply below_drew1) | exact HB.out)⟩
      · replace c74 := Bool.eq_false_iff.mpr c74
        subst c74
        have H1 : (some false) = some r := by rw [if_neg (show ¬ (false = true) by decide)] at H; exact H
        clear H
        have H := H1
        clear H1
        exact absurd ((Option.some.inj H).trans hT.out) Bool.false_ne_true

/-- THE ONE PURE STATEMENT of medlarlaw11_DiffCovers: yours. -/
def medlarlaw11_DiffCovers.Pure : Prop := ∀ (a0 : Int) (l1 : List Int) (a2 : Int), (Lit.int .i64 a0).wf = true → l1.length ≤ maxLen → l1.length * 8 ≤ 140737488351232 → (∀ x ∈ l1, (Lit.int .u64 x).wf = true) → (Lit.int .u64 a2).wf = true → ∃ k, medlarlaw11_DiffCovers.f k a0 l1 a2 = some true
theorem medlarlaw11_DiffCovers.walk (P : medlarlaw11_DiffCovers.Pure) (a0 : Int) (a1 : Option Addr) (len1 cap1 : Nat) (z1 : List Int) (a2 : Int) (w : World) (w0 : (Lit.int .i64 a0).wf = true) (w1 : (a1 = none ∧ len1 = 0 ∧ cap1 = 0 ∧ z1 = []) ∨ ∃ x, a1 = some x ∧ len1 ≤ cap1 ∧ cap1 ≤ maxLen ∧ z1.length = cap1 ∧ (∀ i, i < z1.length → w.cell? (x.add i) = some (.int .u64 (z1.getD i 0))) ∧ ∀ n ∈ z1, (Lit.int .u64 n).wf = true) (y1 : len1 * 8 ≤ 140737488351232) (w2 : (Lit.int .u64 a2).wf = true) :
    Calls Try.prog 6 #[.int .i64 a0, .slice a1 len1 cap1, .int .u64 a2] w fun e w' => e = .returned (.bool true) ∧ Below w.heap.size w w' := by
  obtain ⟨l1, rfl, hr1, hm1, hw1, hc1⟩ := ReadsInt.ofRowC w1
  obtain ⟨k, h⟩ := P a0 l1 a2 w0 hm1 y1 hw1 w2
  refine (medlarlaw11_DiffCovers.calls k a0 _ _ l1 a2 true w (Kd.C_of_reads (d := (0 : Int)) (h1 := fun _ => rfl) hr1) hc1 h ⟨rfl⟩).mono ?_
  rintro e w' ⟨rfl, hd⟩
  exact ⟨rfl, hd⟩

end Go.Proofs.Ytmffkfakcbopcaa.MP
