-- written by a program of this session (wip/tools/mprint.sh) for this seat
import Derived.Test.YtmaaibcnfhbajaaMPx0
import Derived.Test.YtmaaibcnfhbajaaMPx2
import Derived.Test.YtmaaibcnfhbajaaMPx3
import Derived.Test.YtmaaibcnfhbajaaMPx16
import Derived.Test.YtmaaibcnfhbajaaMPx21
namespace Go.Proofs.Ytmaaibcnfhbajaa.MP
open Go.RowKit Go.Proofs.YtmaaibcnfhbajaaW.PrintWords Go.Proofs.YtmaaibcnfhbajaaW.PrintLast Go.Proofs.YtmaaibcnfhbajaaW.PrintMore
attribute [local go_sem] max2_int min2_int max_two min_two max_three min_three max_four min_four   -- for this text's walks alone
set_option linter.unusedVariables false
set_option linter.unusedSimpArgs false

/-! ### medlarlaw08_SubSplits: function 10 -/
mutual
def medlarlaw08_SubSplits.j0 : Nat → Int → Int → Bool → List (S24) → Bool → Int → Int → Option (Bool)
  | 0, _, _, _, _, _, _, _ => none
  | k + 1, x0, x2, x7, x8, x65, x454000, x454001 => if x65 = true then (some false) else ((sub_Has.f k x0 x454000 x454001 x2).bind fun bt465 => (medlarlaw08_SubSplits.l0 k x0 x2 x7 x8 bt465.1 bt465.2 false x8 (x8.length : Int) 0 x454000 x454001))
def medlarlaw08_SubSplits.l0 : Nat → Int → Int → Bool → List (S24) → Bool → Int → Bool → List (S24) → Int → Int → Int → Int → Option (Bool)
  | 0, _, _, _, _, _, _, _, _, _, _, _, _ => none
  | k + 1, x0, x2, x7, x8, x12, x13, x14, x73, x74, x75, x454000, x454001 => if x75 < x74 then (if 0 ≤ x75 then (if x75 < (x73.length : Int) then ((sub_Useful.f k x0 ((rd_T24 x73 x75).f0) ((rd_T24 x73 x75).f1)).bind fun bt469 => ((sub_Has.f k x0 ((rd_T24 x73 x75).f0) ((rd_T24 x73 x75).f1) x2).bind fun bt471 => (if bt469.2 = 0 then (if bt469.1 = true then (medlarlaw08_SubSplits.j2 k x0 x2 x7 x8 x12 x13 x14 x75 bt471.1 x73 x74 x75 ((bt471.2 == 0) != (x13 == 0)) x454000 x454001 ((rd_T24 x73 x75).f0) ((rd_T24 x73 x75).f1)) else (if x454001 = 0 then (medlarlaw08_SubSplits.j2 k x0 x2 x7 x8 x12 x13 x14 x75 bt471.1 x73 x74 x75 ((bt471.2 == 0) != (x13 == 0)) x454000 x454001 ((rd_T24 x73 x75).f0) ((rd_T24 x73 x75).f1)) else (medlarlaw08_SubSplits.j2 k x0 x2 x7 x8 x12 x13 x14 x75 bt471.1 x73 x74 x75 true x454000 x454001 ((rd_T24 x73 x75).f0) ((rd_T24 x73 x75).f1)))) else (medlarlaw08_SubSplits.j2 k x0 x2 x7 x8 x12 x13 x14 x75 bt471.1 x73 x74 x75 true x454000 x454001 ((rd_T24 x73 x75).f0) ((rd_T24 x73 x75).f1))))) else (none)) else (none)) else (if x7 = true then (some (x14 == x12)) else (some false))
def medlarlaw08_SubSplits.j2 : Nat → Int → Int → Bool → List (S24) → Bool → Int → Bool → Int → Bool → List (S24) → Int → Int → Bool → Int → Int → Int → Int → Option (Bool)
  | 0, _, _, _, _, _, _, _, _, _, _, _, _, _, _, _, _, _ => none
  | k + 1, x0, x2, x7, x8, x12, x13, x14, x15, x19, x73, x74, x75, x110, x454000, x454001, x469000, x469001 => if x110 = true then (some false) else (if x14 = true then (medlarlaw08_SubSplits.j3 k x0 x2 x7 x8 x12 x13 true x15 x73 x74 x75 x454000 x454001 x469000 x469001) else (medlarlaw08_SubSplits.j3 k x0 x2 x7 x8 x12 x13 x19 x15 x73 x74 x75 x454000 x454001 x469000 x469001))
def medlarlaw08_SubSplits.j3 : Nat → Int → Int → Bool → List (S24) → Bool → Int → Bool → Int → List (S24) → Int → Int → Int → Int → Int → Int → Option (Bool)
  | 0, _, _, _, _, _, _, _, _, _, _, _, _, _, _, _ => none
  | k + 1, x0, x2, x7, x8, x12, x13, x14, x15, x73, x74, x75, x454000, x454001, x469000, x469001 => if x15 > 0 then (if 0 < (x8.length : Int) then ((sub_Touch.f k x0 ((rd_T24 x8 0).f0) ((rd_T24 x8 0).f1) x469000 x469001).bind fun bt474 => (if bt474.2 = 0 then (if bt474.1 = true then (some false) else (medlarlaw08_SubSplits.l0 k x0 x2 x7 x8 x12 x13 x14 x73 x74 (wrap64 (x75 + 1)) x454000 x454001)) else (some false))) else (none)) else (medlarlaw08_SubSplits.l0 k x0 x2 x7 x8 x12 x13 x14 x73 x74 (wrap64 (x75 + 1)) x454000 x454001)
end
def medlarlaw08_SubSplits.f (k : Nat) (a0 : Int) (a1_0 : Int) (a1_1 : Int) (a2 : Int) : Option (Bool) := (medlarlaw08_live.f k).bind fun t454 => ((sub_Split.f k a0 a1_0 a1_1).bind fun bt455 => (if bt455.2 = 0 then ((sub_Useful.f k a0 a1_0 a1_1).bind fun bt459 => (if bt459.2 = 0 then (if (bt455.1.length : Int) < 1 then (medlarlaw08_SubSplits.j0 k a0 a2 t454 bt455.1 true a1_0 a1_1) else (if (bt455.1.length : Int) > 2 then (medlarlaw08_SubSplits.j0 k a0 a2 t454 bt455.1 true a1_0 a1_1) else (if bt459.1 = true then ((medlarref08_Same.f k bt455.1 (([(⟨a1_0, a1_1⟩ : S24)] : List (S24)))).bind fun t464 => (medlarlaw08_SubSplits.j0 k a0 a2 t454 bt455.1 (!t464) a1_0 a1_1)) else (medlarlaw08_SubSplits.j0 k a0 a2 t454 bt455.1 false a1_0 a1_1)))) else (medlarlaw08_SubSplits.j0 k a0 a2 t454 bt455.1 true a1_0 a1_1))) else (if t454 = true then (some ((bt455.1.length : Int) == 0)) else (some false))))
theorem medlarlaw08_SubSplits.mono_l : ∀ k, (∀ y0 y1 y2 y3 y4 y5 y6, LeO (medlarlaw08_SubSplits.j0 k y0 y1 y2 y3 y4 y5 y6) (medlarlaw08_SubSplits.j0 (k + 1) y0 y1 y2 y3 y4 y5 y6)) ∧ (∀ y0 y1 y2 y3 y4 y5 y6 y7 y8 y9 y10 y11, LeO (medlarlaw08_SubSplits.l0 k y0 y1 y2 y3 y4 y5 y6 y7 y8 y9 y10 y11) (medlarlaw08_SubSplits.l0 (k + 1) y0 y1 y2 y3 y4 y5 y6 y7 y8 y9 y10 y11)) ∧ (∀ y0 y1 y2 y3 y4 y5 y6 y7 y8 y9 y10 y11 y12 y13 y14 y15 y16, LeO (medlarlaw08_SubSplits.j2 k y0 y1 y2 y3 y4 y5 y6 y7 y8 y9 y10 y11 y12 y13 y14 y15 y16) (medlarlaw08_SubSplits.j2 (k + 1) y0 y1 y2 y3 y4 y5 y6 y7 y8 y9 y10 y11 y12 y13 y14 y15 y16)) ∧ (∀ y0 y1 y2 y3 y4 y5 y6 y7 y8 y9 y10 y11 y12 y13 y14, LeO (medlarlaw08_SubSplits.j3 k y0 y1 y2 y3 y4 y5 y6 y7 y8 y9 y10 y11 y12 y13 y14) (medlarlaw08_SubSplits.j3 (k + 1) y0 y1 y2 y3 y4 y5 y6 y7 y8 y9 y10 y11 y12 y13 y14))
  | 0 => ⟨fun _ _ _ _ _ _ _ r h => by simp [medlarlaw08_SubSplits.j0] at h, fun _ _ _ _ _ _ _ _ _ _ _ _ r h => by simp [medlarlaw08_SubSplits.l0] at h, fun _ _ _ _ _ _ _ _ _ _ _ _ _ _ _ _ _ r h => by simp [medlarlaw08_SubSplits.j2] at h, fun _ _ _ _ _ _ _ _ _ _ _ _ _ _ _ r h => by simp [medlarlaw08_SubSplits.j3] at h⟩
  | k + 1 => by
    obtain ⟨ih0, ih1, ih2, ih3⟩ := medlarlaw08_SubSplits.mono_l k
    refine ⟨?_, ?_, ?_, ?_⟩
    · intro y0 y1 y2 y3 y4 y5 y6
      unfold medlarlaw08_SubSplits.j0
      repeat' first
      | (with_reducible exact ih0 _ _ _ _ _ _ _)
      | (with_reducible exact ih1 _ _ _ _ _ _ _ _ _ _ _ _)
      | (with_reducible exact ih2 _ _ _ _ _ _ _ _ _ _ _ _ _ _ _ _ _)
      | (with_reducible exact ih3 _ _ _ _ _ _ _ _ _ _ _ _ _ _ _)
      | (with_reducible exact medlarlaw08_live.mono _)
      | (with_reducible exact medlarref08_Same.mono _ _ _)
      | (with_reducible exact sub_Has.mono _ _ _ _ _)
      | (with_reducible exact sub_Split.mono _ _ _ _)
      | (with_reducible exact sub_Touch.mono _ _ _ _ _ _)
      | (with_reducible exact sub_Useful.mono _ _ _ _)
      | (with_reducible exact LeO.refl _)
      | (with_reducible exact LeO.none _)
      | (with_reducible refine LeO.ite ?_ ?_)
      | (with_reducible refine LeO.bind ?_ (fun _ => ?_))
      | exact ih0 _ _ _ _ _ _ _
      | exact ih1 _ _ _ _ _ _ _ _ _ _ _ _
      | exact ih2 _ _ _ _ _ _ _ _ _ _ _ _ _ _ _ _ _
      | exact ih3 _ _ _ _ _ _ _ _ _ _ _ _ _ _ _
      | exact medlarlaw08_live.mono _
      | exact medlarref08_Same.mono _ _ _
      | exact sub_Has.mono _ _ _ _ _
      | exact sub_Split.mono _ _ _ _
      | exact sub_Touch.mono _ _ _ _ _ _
      | exact sub_Useful.mono _ _ _ _
      | exact LeO.none _
      | refine LeO.ite ?_ ?_
      | refine LeO.bind ?_ (fun _ => ?_)
    · intro y0 y1 y2 y3 y4 y5 y6 y7 y8 y9 y10 y11
      unfold medlarlaw08_SubSplits.l0
      repeat' first
      | (with_reducible exact ih0 _ _ _ _ _ _ _)
      | (with_reducible exact ih1 _ _ _ _ _ _ _ _ _ _ _ _)
      | (with_reducible exact ih2 _ _ _ _ _ _ _ _ _ _ _ _ _ _ _ _ _)
      | (with_reducible exact ih3 _ _ _ _ _ _ _ _ _ _ _ _ _ _ _)
      | (with_reducible exact medlarlaw08_live.mono _)
      | (with_reducible exact medlarref08_Same.mono _ _ _)
      | (with_reducible exact sub_Has.mono _ _ _ _ _)
      | (with_reducible exact sub_Split.mono _ _ _ _)
      | (with_reducible exact sub_Touch.mono _ _ _ _ _ _)
      | (with_reducible exact sub_Useful.mono _ _ _ _)
      | (with_reducible exact LeO.refl _)
      | (with_reducible exact LeO.none _)
      | (with_reducible refine LeO.ite ?_ ?_)
      | (with_reducible refine LeO.bind ?_ (fun _ => ?_))
      | exact ih0 _ _ _ _ _ _ _
      | exact ih1 _ _ _ _ _ _ _ _ _ _ _ _
      | exact ih2 _ _ _ _ _ _ _ _ _ _ _ _ _ _ _ _ _
      | exact ih3 _ _ _ _ _ _ _ _ _ _ _ _ _ _ _
      | exact medlarlaw08_live.mono _
      | exact medlarref08_Same.mono _ _ _
      | exact sub_Has.mono _ _ _ _ _
      | exact sub_Split.mono _ _ _ _
      | exact sub_Touch.mono _ _ _ _ _ _
      | exact sub_Useful.mono _ _ _ _
      | exact LeO.none _
      | refine LeO.ite ?_ ?_
      | refine LeO.bind ?_ (fun _ => ?_)
    · intro y0 y1 y2 y3 y4 y5 y6 y7 y8 y9 y10 y11 y12 y13 y14 y15 y16
      unfold medlarlaw08_SubSplits.j2
      repeat' first
      | (with_reducible exact ih0 _ _ _ _ _ _ _)
      | (with_reducible exact ih1 _ _ _ _ _ _ _ _ _ _ _ _)
      | (with_reducible exact ih2 _ _ _ _ _ _ _ _ _ _ _ _ _ _ _ _ _)
      | (with_reducible exact ih3 _ _ _ _ _ _ _ _ _ _ _ _ _ _ _)
      | (with_reducible exact medlarlaw08_live.mono _)
      | (with_reducible exact medlarref08_Same.mono _ _ _)
      | (with_reducible exact sub_Has.mono _ _ _ _ _)
      | (with_reducible exact sub_Split.mono _ _ _ _)
      | (with_reducible exact sub_Touch.mono _ _ _ _ _ _)
      | (with_reducible exact sub_Useful.mono _ _ _ _)
      | (with_reducible exact LeO.refl _)
      | (with_reducible exact LeO.none _)
      | (with_reducible refine LeO.ite ?_ ?_)
      | (with_reducible refine LeO.bind ?_ (fun _ => ?_))
      | exact ih0 _ _ _ _ _ _ _
      | exact ih1 _ _ _ _ _ _ _ _ _ _ _ _
      | exact ih2 _ _ _ _ _ _ _ _ _ _ _ _ _ _ _ _ _
      | exact ih3 _ _ _ _ _ _ _ _ _ _ _ _ _ _ _
      | exact medlarlaw08_live.mono _
      | exact medlarref08_Same.mono _ _ _
      | exact sub_Has.mono _ _ _ _ _
      | exact sub_Split.mono _ _ _ _
      | exact sub_Touch.mono _ _ _ _ _ _
      | exact sub_Useful.mono _ _ _ _
      | exact LeO.none _
      | refine LeO.ite ?_ ?_
      | refine LeO.bind ?_ (fun _ => ?_)
    · intro y0 y1 y2 y3 y4 y5 y6 y7 y8 y9 y10 y11 y12 y13 y14
      unfold medlarlaw08_SubSplits.j3
      repeat' first
      | (with_reducible exact ih0 _ _ _ _ _ _ _)
      | (with_reducible exact ih1 _ _ _ _ _ _ _ _ _ _ _ _)
      | (with_reducible exact ih2 _ _ _ _ _ _ _ _ _ _ _ _ _ _ _ _ _)
      | (with_reducible exact ih3 _ _ _ _ _ _ _ _ _ _ _ _ _ _ _)
      | (with_reducible exact medlarlaw08_live.mono _)
      | (with_reducible exact medlarref08_Same.mono _ _ _)
      | (with_reducible exact sub_Has.mono _ _ _ _ _)
      | (with_reducible exact sub_Split.mono _ _ _ _)
      | (with_reducible exact sub_Touch.mono _ _ _ _ _ _)
      | (with_reducible exact sub_Useful.mono _ _ _ _)
      | (with_reducible exact LeO.refl _)
      | (with_reducible exact LeO.none _)
      | (with_reducible refine LeO.ite ?_ ?_)
      | (with_reducible refine LeO.bind ?_ (fun _ => ?_))
      | exact ih0 _ _ _ _ _ _ _
      | exact ih1 _ _ _ _ _ _ _ _ _ _ _ _
      | exact ih2 _ _ _ _ _ _ _ _ _ _ _ _ _ _ _ _ _
      | exact ih3 _ _ _ _ _ _ _ _ _ _ _ _ _ _ _
      | exact medlarlaw08_live.mono _
      | exact medlarref08_Same.mono _ _ _
      | exact sub_Has.mono _ _ _ _ _
      | exact sub_Split.mono _ _ _ _
      | exact sub_Touch.mono _ _ _ _ _ _
      | exact sub_Useful.mono _ _ _ _
      | exact LeO.none _
      | refine LeO.ite ?_ ?_
      | refine LeO.bind ?_ (fun _ => ?_)
theorem medlarlaw08_SubSplits.mono : ∀ a0 a1 a2 a3 k, LeO (medlarlaw08_SubSplits.f k a0 a1 a2 a3) (medlarlaw08_SubSplits.f (k + 1) a0 a1 a2 a3) := by
  intro a0 a1 a2 a3 k
  obtain ⟨ih0, ih1, ih2, ih3⟩ := medlarlaw08_SubSplits.mono_l k
  unfold medlarlaw08_SubSplits.f
  repeat' first
      | (with_reducible exact ih0 _ _ _ _ _ _ _)
      | (with_reducible exact ih1 _ _ _ _ _ _ _ _ _ _ _ _)
      | (with_reducible exact ih2 _ _ _ _ _ _ _ _ _ _ _ _ _ _ _ _ _)
      | (with_reducible exact ih3 _ _ _ _ _ _ _ _ _ _ _ _ _ _ _)
      | (with_reducible exact medlarlaw08_live.mono _)
      | (with_reducible exact medlarref08_Same.mono _ _ _)
      | (with_reducible exact sub_Has.mono _ _ _ _ _)
      | (with_reducible exact sub_Split.mono _ _ _ _)
      | (with_reducible exact sub_Touch.mono _ _ _ _ _ _)
      | (with_reducible exact sub_Useful.mono _ _ _ _)
      | (with_reducible exact LeO.refl _)
      | (with_reducible exact LeO.none _)
      | (with_reducible refine LeO.ite ?_ ?_)
      | (with_reducible refine LeO.bind ?_ (fun _ => ?_))
      | exact ih0 _ _ _ _ _ _ _
      | exact ih1 _ _ _ _ _ _ _ _ _ _ _ _
      | exact ih2 _ _ _ _ _ _ _ _ _ _ _ _ _ _ _ _ _
      | exact ih3 _ _ _ _ _ _ _ _ _ _ _ _ _ _ _
      | exact medlarlaw08_live.mono _
      | exact medlarref08_Same.mono _ _ _
      | exact sub_Has.mono _ _ _ _ _
      | exact sub_Split.mono _ _ _ _
      | exact sub_Touch.mono _ _ _ _ _ _
      | exact sub_Useful.mono _ _ _ _
      | exact LeO.none _
      | refine LeO.ite ?_ ?_
      | refine LeO.bind ?_ (fun _ => ?_)
def medlarlaw08_SubSplits.T19 : Bool × List (List Nat × List Nat) := (true, [([], []), ([], []), ([1], [1]), ([2], [2]), ([], []), ([0, 3, 4], [0, 3, 4]), ([5], [5]), ([6], [6]), ([6], [6]), ([7, 5, 0, 1, 2, 3, 4, 5, 6, 7], [7]), ([8, 9, 0, 1, 2, 3, 4, 5, 6, 7, 8, 9], [8])])
def medlarlaw08_SubSplits.B19 : List Nat := [0, 0, 2, 6, 0, 31, 63, 127, 127, 255, 1023]
theorem medlarlaw08_SubSplits.tab19 : rtab .any (opsOf Try.f10 19) = medlarlaw08_SubSplits.T19 := by kernel_rfl
theorem medlarlaw08_SubSplits.bits19 : waitsOk medlarlaw08_SubSplits.T19.2 medlarlaw08_SubSplits.B19 = true := by kernel_rfl
set_option maxHeartbeats 8000000 in
set_option maxRecDepth 100000 in
theorem medlarlaw08_SubSplits.calls (k : Nat) (a0 : Int) (a1_0 : Int) (a1_1 : Int) (a2 : Int) (r : Bool) (w : World) (h : medlarlaw08_SubSplits.f k a0 a1_0 a1_1 a2 = some r) :
    Calls Try.prog 10 #[.int .i64 a0, .agg #[.int .u64 a1_0, .int .u64 a1_1], .int .u64 a2] w fun e w' => e = .returned (.bool r) ∧ Below w.heap.size w w' := by
  have hu24 := Try.underlying24
  have HB := Aside0.mk (Below.refl w.heap.size w)
  have H : ((medlarlaw08_live.f k).bind fun t454 => ((sub_Split.f k a0 a1_0 a1_1).bind fun bt455 => (if bt455.2 = 0 then ((sub_Useful.f k a0 a1_0 a1_1).bind fun bt459 => (if bt459.2 = 0 then (if (bt455.1.length : Int) < 1 then (medlarlaw08_SubSplits.j0 k a0 a2 t454 bt455.1 true a1_0 a1_1) else (if (bt455.1.length : Int) > 2 then (medlarlaw08_SubSplits.j0 k a0 a2 t454 bt455.1 true a1_0 a1_1) else (if bt459.1 = true then ((medlarref08_Same.f k bt455.1 (([(⟨a1_0, a1_1⟩ : S24)] : List (S24)))).bind fun t464 => (medlarlaw08_SubSplits.j0 k a0 a2 t454 bt455.1 (!t464) a1_0 a1_1)) else (medlarlaw08_SubSplits.j0 k a0 a2 t454 bt455.1 false a1_0 a1_1)))) else (medlarlaw08_SubSplits.j0 k a0 a2 t454 bt455.1 true a1_0 a1_1))) else (if t454 = true then (some ((bt455.1.length : Int) == 0)) else (some false))))) = some r := h
  clear h
  replace H := Option.bind_eq_some_iff.mp H
  obtain ⟨t454, A40, H⟩ := H
  replace H : ((sub_Split.f k a0 a1_0 a1_1).bind fun bt455 => (if bt455.2 = 0 then ((sub_Useful.f k a0 a1_0 a1_1).bind fun bt459 => (if bt459.2 = 0 then (if (bt455.1.length : Int) < 1 then (medlarlaw08_SubSplits.j0 k a0 a2 t454 bt455.1 true a1_0 a1_1) else (if (bt455.1.length : Int) > 2 then (medlarlaw08_SubSplits.j0 k a0 a2 t454 bt455.1 true a1_0 a1_1) else (if bt459.1 = true then ((medlarref08_Same.f k bt455.1 (([(⟨a1_0, a1_1⟩ : S24)] : List (S24)))).bind fun t464 => (medlarlaw08_SubSplits.j0 k a0 a2 t454 bt455.1 (!t464) a1_0 a1_1)) else (medlarlaw08_SubSplits.j0 k a0 a2 t454 bt455.1 false a1_0 a1_1)))) else (medlarlaw08_SubSplits.j0 k a0 a2 t454 bt455.1 true a1_0 a1_1))) else (if t454 = true then (some ((bt455.1.length : Int) == 0)) else (some false)))) = some r := H
  have A4 := Aside0.mk A40
  clear A40
  replace H := Option.bind_eq_some_iff.mp H
  obtain ⟨⟨t455, t458⟩, A50, H⟩ := H
  replace H : (if t458 = 0 then ((sub_Useful.f k a0 a1_0 a1_1).bind fun bt459 => (if bt459.2 = 0 then (if (t455.length : Int) < 1 then (medlarlaw08_SubSplits.j0 k a0 a2 t454 t455 true a1_0 a1_1) else (if (t455.length : Int) > 2 then (medlarlaw08_SubSplits.j0 k a0 a2 t454 t455 true a1_0 a1_1) else (if bt459.1 = true then ((medlarref08_Same.f k t455 (([(⟨a1_0, a1_1⟩ : S24)] : List (S24)))).bind fun t464 => (medlarlaw08_SubSplits.j0 k a0 a2 t454 t455 (!t464) a1_0 a1_1)) else (medlarlaw08_SubSplits.j0 k a0 a2 t454 t455 false a1_0 a1_1)))) else (medlarlaw08_SubSplits.j0 k a0 a2 t454 t455 true a1_0 a1_1))) else (if t454 = true then (some ((t455.length : Int) == 0)) else (some false))) = some r := H
  have A5 := Aside0.mk A50
  clear A50
  by_cases c6 : t458 = 0
  · rw [if_pos c6] at H
    have c6b0 : (t458 == 0) = true := beq_iff_eq.mpr c6
    have c6b1 : (t458 != 0) = false := bne_eq_false_iff_eq.mpr c6
    clear c6
    replace H := Option.bind_eq_some_iff.mp H
    obtain ⟨⟨t459, t460⟩, A70, H⟩ := H
    replace H : (if t460 = 0 then (if (t455.length : Int) < 1 then (medlarlaw08_SubSplits.j0 k a0 a2 t454 t455 true a1_0 a1_1) else (if (t455.length : Int) > 2 then (medlarlaw08_SubSplits.j0 k a0 a2 t454 t455 true a1_0 a1_1) else (if t459 = true then ((medlarref08_Same.f k t455 (([(⟨a1_0, a1_1⟩ : S24)] : List (S24)))).bind fun t464 => (medlarlaw08_SubSplits.j0 k a0 a2 t454 t455 (!t464) a1_0 a1_1)) else (medlarlaw08_SubSplits.j0 k a0 a2 t454 t455 false a1_0 a1_1)))) else (medlarlaw08_SubSplits.j0 k a0 a2 t454 t455 true a1_0 a1_1)) = some r := H
    have A7 := Aside0.mk A70
    clear A70
    have HC8 := Aside0.mk H
    clear H
    go_enter Try.func10, Try.ntmps10
    go_upto_region 6 with (first | ((with_reducible refine gate_dst (N := 4) rfl ?_); (try (refine gate_guard (by rfl) ?_; dsimp only)); refine box_event ?hg (N := 4) ?hd (cs := #[.int .u64 a1_0, .int .u64 a1_1]) (t := 24) ?hr ?_; (case hd => rfl); (case hg => rfl); (case hr => first | (go_simp; done) | (go_simp; rfl)); intro gb453 hg w9 hbox hb; have n0_ := Aside0.mk (below_step (by repeat (first | (with_reducible first | exact HB.out | apply below_alloc | apply pw_below_drewN | apply below_drew1) | exact HB.out)) hb); have n1_ := Aside0.mk (hbox); have n2_ := Aside0.mk ((by rw [hg]; exact (below_size (by repeat (first | (with_reducible first | exact HB.out | apply below_alloc | apply pw_below_drewN | apply below_drew1) | exact HB.out))) : w.heap.size ≤ gb453)); have n3_ := Aside0.mk ((by rw [hg]; exact (below_size (by repeat (first | (with_reducible first | exact HB.out | apply below_alloc | apply pw_below_drewN | apply below_drew1) | exact HB.out))) : w.heap.size ≤ gb453)); clear HB; have HB := n0_; have BK453 := n1_; have GW453 := n2_; have GE453 := n3_; clear n0_ n1_ n2_ n3_; clear hb hbox hg) | ((with_reducible refine gate_callee (f := 14) rfl ?_); refine goesL_ (some 23) rfl rfl Try.func14 (by kernel_rfl) rfl #[] rfl (by (try simp only [List.map_toArray, List.map_cons, List.map_nil]); first | done | rfl | (simp only [List.length_drop, List.length_take]; rfl)) ?_; (with_reducible refine (medlarlaw08_live.calls k  t454 _ A4.out).mono ?_); rintro e w10 ⟨rfl, hb⟩; refine ⟨_, rfl, ?_⟩; have n0_ := Aside0.mk (blk_below (g := gb453) (o := .cells #[.int .u64 a1_0, .int .u64 a1_1] 24 (0, 0)) (by (with_reducible repeat (first | refine blk_drewN ?_ _ | refine blk_drew ?_ | refine blk_alloc ?_ _)); exact BK453.out) hb); have n1_ := Aside0.mk (below_step (by repeat (first | (with_reducible first | exact HB.out | apply below_alloc | apply pw_below_drewN | apply below_drew1 | refine below_set ?_ GE453.out) | exact HB.out)) hb); clear BK453; clear HB; have BK453 := n0_; have HB := n1_; clear n0_ n1_; (try clear hb); (try clear hb2); (try clear hk); (try clear hi); have hcz11_0 : w10.cell? ⟨gb453, 0, none⟩ = some (.int .u64 a1_0) := (blk_cell BK453.out 0).trans rfl; have hcz11_1 : w10.cell? ⟨gb453, 1, none⟩ = some (.int .u64 a1_1) := (blk_cell BK453.out 1).trans rfl; have hfz11_0 := blk_frozen BK453.out 0; have hfz11_1 := blk_frozen BK453.out 1) | ((with_reducible refine gate_callee (f := 19) rfl ?_); refine goesL_ (some 27) rfl rfl Try.func19 (by kernel_rfl) rfl #[.int .i64 a0, .agg #[.int .u64 a1_0, .int .u64 a1_1]] rfl (by (try simp only [List.map_toArray, List.map_cons, List.map_nil]); first | done | rfl | (simp only [List.length_drop, List.length_take]; rfl)) ?_; (with_reducible refine (sub_Split.calls k a0 a1_0 a1_1 t455 t458 _ A5.out).mono ?_); rintro e w12 ⟨v456, rfl, ho0, hb⟩; refine ⟨_, rfl, ?_⟩; have n0_ := Aside0.mk (Kd.R_lower (Kd.R_newB ho0 (g := gb453) (o := .cells #[.int .u64 a1_0, .int .u64 a1_1] 24 (0, 0)) (by (with_reducible repeat (first | refine blk_drewN ?_ _ | refine blk_drew ?_ | refine blk_alloc ?_ _)); exact BK453.out)) (below_size (by repeat (first | (with_reducible first | exact HB.out | apply below_alloc | apply pw_below_drewN | apply below_drew1 | refine below_set ?_ GE453.out) | exact HB.out)))); have n1_ := Aside0.mk (blk_below (g := gb453) (o := .cells #[.int .u64 a1_0, .int .u64 a1_1] 24 (0, 0)) (by (with_reducible repeat (first | refine blk_drewN ?_ _ | refine blk_drew ?_ | refine blk_alloc ?_ _)); exact BK453.out) hb); have n2_ := Aside0.mk (below_step (by repeat (first | (with_reducible first | exact HB.out | apply below_alloc | apply pw_below_drewN | apply below_drew1 | refine below_set ?_ GE453.out) | exact HB.out)) hb); clear BK453; clear HB; have HO457 := n0_; have BK453 := n1_; have HB := n2_; clear n0_ n1_ n2_; (try clear hb); (try clear hb2); (try clear hk); (try clear hi); (try clear ho0); have hcz13_0 : w12.cell? ⟨gb453, 0, none⟩ = some (.int .u64 a1_0) := (blk_cell BK453.out 0).trans rfl; have hcz13_1 : w12.cell? ⟨gb453, 1, none⟩ = some (.int .u64 a1_1) := (blk_cell BK453.out 1).trans rfl; have hfz13_0 := blk_frozen BK453.out 0; have hfz13_1 := blk_frozen BK453.out 1) | ((with_reducible refine gate_callee (f := 17) rfl ?_); refine goesL_ (some 41) rfl rfl Try.func17 (by kernel_rfl) rfl #[.int .i64 a0, .agg #[.int .u64 a1_0, .int .u64 a1_1]] rfl (by (try simp only [List.map_toArray, List.map_cons, List.map_nil]); first | done | rfl | (simp only [List.length_drop, List.length_take]; rfl)) ?_; (with_reducible refine (sub_Useful.calls k a0 a1_0 a1_1 t459 t460 _ A7.out).mono ?_); rintro e w14 ⟨rfl, hb⟩; refine ⟨_, rfl, ?_⟩; have n0_ := Aside0.mk (Kd.R_below (by (with_reducible repeat (first | apply Kd.R_alloc | apply Kd.R_drewN | apply Kd.R_drew)); exact HO457.out) hb); have n1_ := Aside0.mk (blk_below (g := gb453) (o := .cells #[.int .u64 a1_0, .int .u64 a1_1] 24 (0, 0)) (by (with_reducible repeat (first | refine blk_drewN ?_ _ | refine blk_drew ?_ | refine blk_alloc ?_ _)); exact BK453.out) hb); have n2_ := Aside0.mk (below_step (by repeat (first | (with_reducible first | exact HB.out | apply below_alloc | apply pw_below_drewN | apply below_drew1 | refine below_set ?_ GE453.out) | exact HB.out)) hb); clear HO457; clear BK453; clear HB; have HO457 := n0_; have BK453 := n1_; have HB := n2_; clear n0_ n1_ n2_; (try clear hb); (try clear hb2); (try clear hk); (try clear hi)))
    (try simp only [Act.put, List.setIfInBounds_toArray, List.set_cons_zero, List.set_cons_succ])
    go_cut [65] (fun v65 wc => ∃ (kq : Nat) (x65_7 : Bool), v65 = .bool x65_7 ∧ Aside0 (medlarlaw08_SubSplits.j0 kq a0 a2 t454 t455 x65_7 a1_0 a1_1 = some r) ∧ Aside0 (kq ≤ k) ∧ Aside0 (Kd.R k24 24 wc w.heap.size (fun k_ => k_ ≠ gb453) v456 t455) ∧ Aside0 (wc.heap[gb453]? = some (.cells #[.int .u64 a1_0, .int .u64 a1_1] 24 (0, 0))) ∧ Aside0 (Below w.heap.size w wc))
    case first =>
      have H := HC8.out
      clear HC8
      by_cases c15 : t460 = 0
      · rw [if_pos c15] at H
        have c15b0 : (t460 == 0) = true := beq_iff_eq.mpr c15
        have c15b1 : (t460 != 0) = false := bne_eq_false_iff_eq.mpr c15
        clear c15
        (first | rw [c15b0] | (simp only [i64_w, i32_w]; rw [c15b0]) | skip)
        by_cases c16 : (t455.length : Int) < 1
        · rw [if_pos c16] at H
          have c16b0 : decide ((t455.length : Int) < 1) = true := decide_eq_true c16
          have c16b1 : decide (t455.length < 1) = true := decide_eq_true (by omega)
          clear c16
          have H' := Aside0.mk H
          clear H
          obtain ⟨Ao17, co17, eo17⟩ := Kd.R_slice HO457.out
          subst eo17
          go_wp2
          go_meet
          case rel => exact ⟨_, (true), (by first | rfl | (simp; done) | (simp [*]; done)), H', ⟨by first | omega | exact Nat.le_refl _⟩, ⟨by (with_reducible repeat (first | apply Kd.R_alloc | apply Kd.R_drewN | apply Kd.R_drew)); exact Kd.R_mono HO457.out (fun _ hk => hk.2)⟩, ⟨by (with_reducible repeat (first | refine blk_drewN ?_ _ | refine blk_drew ?_ | refine blk_alloc ?_ _)); exact BK453.out⟩, ⟨by repeat (first | (with_reducible first | exact HB.out | apply below_alloc | apply pw_below_drewN | apply below_drew1 | refine below_set ?_ GE453.out) | exact HB.out)⟩⟩
        · rw [if_neg c16] at H
          have c16b0 : decide ((t455.length : Int) < 1) = false := decide_eq_false c16
          have c16b1 : decide (t455.length < 1) = false := decide_eq_false (by omega)
          clear c16
          by_cases c18 : (t455.length : Int) > 2
          · rw [if_pos c18] at H
            have c18b0 : decide (2 < (t455.length : Int)) = true := decide_eq_true c18
            have c18b1 : decide (2 < t455.length) = true := decide_eq_true (by omega)
            clear c18
            have H' := Aside0.mk H
            clear H
            obtain ⟨Ao19, co19, eo19⟩ := Kd.R_slice HO457.out
            subst eo19
            go_wp2
            go_meet
            case rel => exact ⟨_, (true), (by first | rfl | (simp; done) | (simp [*]; done)), H', ⟨by first | omega | exact Nat.le_refl _⟩, ⟨by (with_reducible repeat (first | apply Kd.R_alloc | apply Kd.R_drewN | apply Kd.R_drew)); exact Kd.R_mono HO457.out (fun _ hk => hk.2)⟩, ⟨by (with_reducible repeat (first | refine blk_drewN ?_ _ | refine blk_drew ?_ | refine blk_alloc ?_ _)); exact BK453.out⟩, ⟨by repeat (first | (with_reducible first | exact HB.out | apply below_alloc | apply pw_below_drewN | apply below_drew1 | refine below_set ?_ GE453.out) | exact HB.out)⟩⟩
          · rw [if_neg c18] at H
            have c18b0 : decide (2 < (t455.length : Int)) = false := decide_eq_false c18
            have c18b1 : decide (2 < t455.length) = false := decide_eq_false (by omega)
            clear c18
            by_cases c20 : t459 = true
            · subst c20
              have H1 : ((medlarref08_Same.f k t455 (([(⟨a1_0, a1_1⟩ : S24)] : List (S24)))).bind fun t464 => (medlarlaw08_SubSplits.j0 k a0 a2 t454 t455 (!t464) a1_0 a1_1)) = some r := by rw [if_pos rfl] at H; exact H
              clear H
              have H := H1
              clear H1
              obtain ⟨y461, hy461⟩ : ∃ y_ : List (S24), y_ = (([(⟨a1_0, a1_1⟩ : S24)] : List (S24))) := ⟨_, rfl⟩
              replace H : ((medlarref08_Same.f k t455 y461).bind fun t464 => (medlarlaw08_SubSplits.j0 k a0 a2 t454 t455 (!t464) a1_0 a1_1)) = some r := by first | (rw [hy461]; with_reducible exact H) | (have H2_ := (Option.bind_some _ _).symm.trans H; rw [hy461]; with_reducible exact H2_) | (have H2_ := (Option.bind_some _ _).symm.trans H; with_reducible exact H2_) | with_reducible exact H | (rw [hy461]; exact H) | exact H
              have Ny461 := Aside0.mk hy461
              clear hy461
              replace H := Option.bind_eq_some_iff.mp H
              obtain ⟨t464, A210, H⟩ := H
              replace H : (medlarlaw08_SubSplits.j0 k a0 a2 t454 t455 (!t464) a1_0 a1_1) = some r := H
              have A21 := Aside0.mk A210
              clear A210
              have H' := Aside0.mk H
              clear H
              obtain ⟨Ao22, co22, eo22⟩ := Kd.R_slice HO457.out
              subst eo22
              have hcz23_0 : w14.cell? ⟨gb453, 0, none⟩ = some (.int .u64 a1_0) := (blk_cell BK453.out 0).trans rfl
              have hcz23_1 : w14.cell? ⟨gb453, 1, none⟩ = some (.int .u64 a1_1) := (blk_cell BK453.out 1).trans rfl
              have hfz23_0 := blk_frozen BK453.out 0
              have hfz23_1 := blk_frozen BK453.out 1
              go_wp2_with (first | ((with_reducible refine gate_dst (N := 61) rfl ?_); (try (refine gate_guard (by rfl) ?_; dsimp only)); refine Kd.R_lit k24 _ 24 ?hg (N := 61) ?hd (xs := ([(⟨a1_0, a1_1⟩ : S24)] : List (S24))) (inner := [.int .u64 a1_0, .int .u64 a1_1]) (ok := fun _ => True) (okp := fun _ => True) ?hr ?hp (fun _ hk => hk) trivial (Below.refl _ _) (Nat.le_refl _) (by simp) ?_; (case hd => rfl); (case hg => rfl); (case hr => first | (go_simp; done) | (go_simp; rfl)); (case hp => exact (Reps.c2 (show Kd.M k24 _ _ _ (⟨a1_0, a1_1⟩ : S24) [.int .u64 a1_0, .int .u64 a1_1] from (k24_mkM _ _ _ (⟨a1_0, a1_1⟩ : S24) )) (Reps.none _ _))); intro v462 w24 ho25 hb hg_ hnew_; clear hg_ hnew_; (first | rw [← Ny461.out] at ho25 | (simp only [Int.reduceToNat] at ho25; rw [← Ny461.out] at ho25)); have n0_ := Aside0.mk (Kd.R_elder' (by (with_reducible repeat (first | apply Kd.R_alloc | apply Kd.R_drewN | apply Kd.R_drew)); exact HO457.out) (Kd.R_base ho25) hb); have n1_ := Aside0.mk (Kd.R_lower (Kd.R_newB (Kd.R_new' ho25 (Kd.R_lt (by (with_reducible repeat (first | apply Kd.R_alloc | apply Kd.R_drewN | apply Kd.R_drew)); exact HO457.out))) (g := gb453) (o := .cells #[.int .u64 a1_0, .int .u64 a1_1] 24 (0, 0)) (by (with_reducible repeat (first | refine blk_drewN ?_ _ | refine blk_drew ?_ | refine blk_alloc ?_ _)); exact BK453.out)) (below_size (by repeat (first | (with_reducible first | exact HB.out | apply below_alloc | apply pw_below_drewN | apply below_drew1 | refine below_set ?_ GE453.out) | exact HB.out)))); have n2_ := Aside0.mk (blk_below (g := gb453) (o := .cells #[.int .u64 a1_0, .int .u64 a1_1] 24 (0, 0)) (by (with_reducible repeat (first | refine blk_drewN ?_ _ | refine blk_drew ?_ | refine blk_alloc ?_ _)); exact BK453.out) hb); have n3_ := Aside0.mk (below_step (by repeat (first | (with_reducible first | exact HB.out | apply below_alloc | apply pw_below_drewN | apply below_drew1 | refine below_set ?_ GE453.out) | exact HB.out)) hb); clear HO457; clear BK453; clear HB; have HO457 := n0_; have HO463 := n1_; have BK453 := n2_; have HB := n3_; clear n0_ n1_ n2_ n3_; clear hb ho25; obtain ⟨Ao26, co26, eo26⟩ := Kd.R_slice HO463.out; subst eo26) | (go_at_call 21; (with_reducible refine (medlarref08_Same.calls k _ _ t455 _ _ y461 t464 _ ?side1 ?side2 ?side3 ?side4 A21.out).mono ?_); (case side1 => repeat (first | exact (Kd.R_reads' HO457.out).2.2 | (with_reducible refine Kd.C_alloc ?_ _) | (with_reducible refine Kd.C_drewN ?_ _) | (with_reducible refine Kd.C_drew ?_))); (case side2 => exact (Kd.R_reads' HO457.out).2.1); (case side3 => repeat (first | exact (Kd.R_reads' HO463.out).2.2 | (with_reducible refine Kd.C_alloc ?_ _) | (with_reducible refine Kd.C_drewN ?_ _) | (with_reducible refine Kd.C_drew ?_))); (case side4 => exact (Kd.R_reads' HO463.out).2.1); rintro e w' ⟨rfl, ⟨nd, rfl⟩⟩))
              go_meet
              case rel => exact ⟨_, (!t464), (by first | rfl | (simp; done) | (simp [*]; done)), H', ⟨by first | omega | exact Nat.le_refl _⟩, ⟨by (with_reducible repeat (first | apply Kd.R_alloc | apply Kd.R_drewN | apply Kd.R_drew)); exact Kd.R_mono HO457.out (fun _ hk => hk.1.2)⟩, ⟨by (with_reducible repeat (first | refine blk_drewN ?_ _ | refine blk_drew ?_ | refine blk_alloc ?_ _)); exact BK453.out⟩, ⟨by repeat (first | (with_reducible first | exact HB.out | apply below_alloc | apply pw_below_drewN | apply below_drew1 | refine below_set ?_ GE453.out) | exact HB.out)⟩⟩
            · replace c20 := Bool.eq_false_iff.mpr c20
              subst c20
              have H1 : (medlarlaw08_SubSplits.j0 k a0 a2 t454 t455 false a1_0 a1_1) = some r := by rw [if_neg (show ¬ (false = true) by decide)] at H; exact H
              clear H
              have H := H1
              clear H1
              have H' := Aside0.mk H
              clear H
              obtain ⟨Ao27, co27, eo27⟩ := Kd.R_slice HO457.out
              subst eo27
              go_wp2
              go_meet
              case rel => exact ⟨_, (false), (by first | rfl | (simp; done) | (simp [*]; done)), H', ⟨by first | omega | exact Nat.le_refl _⟩, ⟨by (with_reducible repeat (first | apply Kd.R_alloc | apply Kd.R_drewN | apply Kd.R_drew)); exact Kd.R_mono HO457.out (fun _ hk => hk.2)⟩, ⟨by (with_reducible repeat (first | refine blk_drewN ?_ _ | refine blk_drew ?_ | refine blk_alloc ?_ _)); exact BK453.out⟩, ⟨by repeat (first | (with_reducible first | exact HB.out | apply below_alloc | apply pw_below_drewN | apply below_drew1 | refine below_set ?_ GE453.out) | exact HB.out)⟩⟩
      · rw [if_neg c15] at H
        have c15b0 : (t460 == 0) = false := beq_eq_false_iff_ne.mpr c15
        have c15b1 : (t460 != 0) = true := bne_iff_ne.mpr c15
        (first | rw [c15b0] | (simp only [i64_w, i32_w]; rw [c15b0]) | skip)
        have H' := Aside0.mk H
        clear H
        go_wp2
        go_meet
        case rel => exact ⟨_, (true), (by first | rfl | (simp; done) | (simp [*]; done)), H', ⟨by first | omega | exact Nat.le_refl _⟩, ⟨by (with_reducible repeat (first | apply Kd.R_alloc | apply Kd.R_drewN | apply Kd.R_drew)); exact Kd.R_mono HO457.out (fun _ hk => hk.2)⟩, ⟨by (with_reducible repeat (first | refine blk_drewN ?_ _ | refine blk_drew ?_ | refine blk_alloc ?_ _)); exact BK453.out⟩, ⟨by repeat (first | (with_reducible first | exact HB.out | apply below_alloc | apply pw_below_drewN | apply below_drew1 | refine below_set ?_ GE453.out) | exact HB.out)⟩⟩
    case rest =>
      clear HC8
      try clear c1
      try clear c2
      try clear p2
      try clear c6
      try clear c6b0
      try clear c6b1
      try clear c10
      try clear c14
      try clear c15
      try clear c15b0
      try clear c15b1
      try clear c16
      try clear c16b0
      try clear c16b1
      try clear c17
      try clear c18
      try clear c18b0
      try clear c18b1
      try clear c19
      try clear c20
      try clear hcz11_0
      try clear hcz11_1
      try clear hcz13_0
      try clear hcz13_1
      try clear hcz23_0
      try clear hcz23_1
      try clear hfz11_0
      try clear hfz11_1
      try clear hfz13_0
      try clear hfz13_1
      try clear hfz23_0
      try clear hfz23_1
      obtain ⟨kq, x65_7, rfl, HA, HJ7, HO_8, BK453, HB⟩ := hcut
      cases kq with
      | zero => exact absurd HA.out (by simp [medlarlaw08_SubSplits.j0])
      | succ kj7 =>
        have H := HA.out
        clear HA
        simp only [medlarlaw08_SubSplits.j0] at H
        by_cases c28 : x65_7 = true
        · subst c28
          have H1 : (some false) = some r := by rw [if_pos rfl] at H; exact H
          clear H
          have H := H1
          clear H1
          obtain rfl := Option.some.inj H
          go_wp2
          go_ret
          exact ⟨by first | rfl | (simp [errW_none, errW_some] <;> rfl) | (simp [*, errW_none, errW_some] <;> rfl), by repeat (first | (with_reducible first | exact HB.out | apply below_alloc | apply pw_below_drewN | apply below_drew1 | refine below_set ?_ GE453.out) | exact HB.out)⟩
        · replace c28 := Bool.eq_false_iff.mpr c28
          subst c28
          have H1 : ((sub_Has.f kj7 a0 a1_0 a1_1 a2).bind fun bt465 => (medlarlaw08_SubSplits.l0 kj7 a0 a2 t454 t455 bt465.1 bt465.2 false t455 (t455.length : Int) 0 a1_0 a1_1)) = some r := by rw [if_neg (show ¬ (false = true) by decide)] at H; exact H
          clear H
          have H := H1
          clear H1
          replace H := Option.bind_eq_some_iff.mp H
          obtain ⟨⟨t465, t466⟩, A290, H⟩ := H
          replace H : (medlarlaw08_SubSplits.l0 kj7 a0 a2 t454 t455 t465 t466 false t455 (t455.length : Int) 0 a1_0 a1_1) = some r := H
          have A29 := Aside0.mk A290
          clear A290
          have H' := Aside0.mk H
          clear H
          have hcz30_0 : wc.cell? ⟨gb453, 0, none⟩ = some (.int .u64 a1_0) := (blk_cell BK453.out 0).trans rfl
          have hcz30_1 : wc.cell? ⟨gb453, 1, none⟩ = some (.int .u64 a1_1) := (blk_cell BK453.out 1).trans rfl
          have hfz30_0 := blk_frozen BK453.out 0
          have hfz30_1 := blk_frozen BK453.out 1
          go_wp2_with (first | ((with_reducible refine gate_callee (f := 34) rfl ?_); refine goesL_ (some 70) rfl rfl Try.func34 (by kernel_rfl) rfl #[.int .i64 a0, .agg #[.int .u64 a1_0, .int .u64 a1_1], .int .u64 a2] rfl (by (try simp only [List.map_toArray, List.map_cons, List.map_nil]); first | done | rfl | (simp only [List.length_drop, List.length_take]; rfl)) ?_; (with_reducible refine (sub_Has.calls kj7 a0 a1_0 a1_1 a2 t465 t466 _ A29.out).mono ?_); rintro e w31 ⟨rfl, hb⟩; refine ⟨_, rfl, ?_⟩; have n0_ := Aside0.mk (Kd.R_below (by (with_reducible repeat (first | apply Kd.R_alloc | apply Kd.R_drewN | apply Kd.R_drew)); exact HO_8.out) hb); have n1_ := Aside0.mk (blk_below (g := gb453) (o := .cells #[.int .u64 a1_0, .int .u64 a1_1] 24 (0, 0)) (by (with_reducible repeat (first | refine blk_drewN ?_ _ | refine blk_drew ?_ | refine blk_alloc ?_ _)); exact BK453.out) hb); have n2_ := Aside0.mk (below_step (by repeat (first | (with_reducible first | exact HB.out | apply below_alloc | apply pw_below_drewN | apply below_drew1 | refine below_set ?_ GE453.out) | exact HB.out)) hb); clear HO_8; clear BK453; clear HB; have HO_8 := n0_; have BK453 := n1_; have HB := n2_; clear n0_ n1_ n2_; (try clear hb); (try clear hb2); (try clear hk); (try clear hi); obtain ⟨Ao32, co32, eo32⟩ := Kd.R_slice HO_8.out; subst eo32))
          go_loopg [14, 75] kj7 (fun kq v14 v75 w' => ∃ (x14_2 : Bool) (x75_2 : Int), v14 = .bool x14_2 ∧ v75 = .int .i64 x75_2 ∧ Aside0 (medlarlaw08_SubSplits.l0 kq a0 a2 t454 t455 t465 t466 x14_2 t455 (t455.length : Int) x75_2 a1_0 a1_1 = some r) ∧ Aside0 (kq ≤ kj7) ∧ Aside0 (Kd.R k24 24 w' w.heap.size (fun k_ => k_ ≠ gb453) (.slice Ao32 t455.length co32) t455) ∧ Aside0 (Kd.R k24 24 w' w.heap.size (fun k_ => k_ ≠ gb453) (.slice Ao32 t455.length co32) t455) ∧ Aside0 (w'.heap[gb453]? = some (.cells #[.int .u64 a1_0, .int .u64 a1_1] 24 (0, 0))) ∧ Aside0 (Below w.heap.size w w'))
          case atStart => exact ⟨(false), (0), (by first | rfl | (simp; done) | (simp [*]; done)), (by first | rfl | (simp; done) | (simp [*]; done)), H', ⟨Nat.le_refl _⟩, ⟨by (with_reducible repeat (first | apply Kd.R_alloc | apply Kd.R_drewN | apply Kd.R_drew)); exact HO_8.out⟩, ⟨by (with_reducible repeat (first | apply Kd.R_alloc | apply Kd.R_drewN | apply Kd.R_drew)); exact HO_8.out⟩, ⟨by (with_reducible repeat (first | refine blk_drewN ?_ _ | refine blk_drew ?_ | refine blk_alloc ?_ _)); exact BK453.out⟩, ⟨by repeat (first | (with_reducible first | exact HB.out | apply below_alloc | apply pw_below_drewN | apply below_drew1 | refine below_set ?_ GE453.out) | exact HB.out)⟩⟩
          case round =>
            clear H'
            try clear c1
            try clear c2
            try clear p2
            try clear c3
            try clear c6
            try clear c6b0
            try clear c6b1
            try clear c10
            try clear c14
            try clear c15
            try clear c15b0
            try clear c15b1
            try clear c16
            try clear c16b0
            try clear c16b1
            try clear c17
            try clear c18
            try clear c18b0
            try clear c18b1
            try clear c19
            try clear c20
            try clear c28
            try clear hcz11_0
            try clear hcz11_1
            try clear hcz13_0
            try clear hcz13_1
            try clear hcz23_0
            try clear hcz23_1
            try clear hcz30_0
            try clear hcz30_1
            try clear hfz11_0
            try clear hfz11_1
            try clear hfz13_0
            try clear hfz13_1
            try clear hfz23_0
            try clear hfz23_1
            try clear hfz30_0
            try clear hfz30_1
            try clear p2
            obtain ⟨x14_2, x75_2, rfl, rfl, HA, HK2, HO_8, HO_73, BK453, HB⟩ := hrel
            cases gk with
            | zero => exact absurd HA.out (by simp [medlarlaw08_SubSplits.l0])
            | succ k2 =>
              have H := HA.out
              clear HA
              simp only [medlarlaw08_SubSplits.l0] at H
              by_cases c33 : x75_2 < (t455.length : Int)
              · rw [if_pos c33] at H
                have c33b0 : decide (x75_2 < (t455.length : Int)) = true := decide_eq_true c33
                clear c33
                by_cases c34 : 0 ≤ x75_2
                · rw [if_pos c34] at H
                  have c34b0 : decide (0 ≤ x75_2) = true := decide_eq_true c34
                  clear c34
                  by_cases c35 : x75_2 < (t455.length : Int)
                  · rw [if_pos c35] at H
                    have c35b0 : decide (x75_2 < (t455.length : Int)) = true := decide_eq_true c35
                    clear c35
                    replace H := Option.bind_eq_some_iff.mp H
                    obtain ⟨⟨t469, t470⟩, A360, H⟩ := H
                    replace H : ((sub_Has.f k2 a0 ((rd_T24 t455 x75_2).f0) ((rd_T24 t455 x75_2).f1) a2).bind fun bt471 => (if t470 = 0 then (if t469 = true then (medlarlaw08_SubSplits.j2 k2 a0 a2 t454 t455 t465 t466 x14_2 x75_2 bt471.1 t455 (t455.length : Int) x75_2 ((bt471.2 == 0) != (t466 == 0)) a1_0 a1_1 ((rd_T24 t455 x75_2).f0) ((rd_T24 t455 x75_2).f1)) else (if a1_1 = 0 then (medlarlaw08_SubSplits.j2 k2 a0 a2 t454 t455 t465 t466 x14_2 x75_2 bt471.1 t455 (t455.length : Int) x75_2 ((bt471.2 == 0) != (t466 == 0)) a1_0 a1_1 ((rd_T24 t455 x75_2).f0) ((rd_T24 t455 x75_2).f1)) else (medlarlaw08_SubSplits.j2 k2 a0 a2 t454 t455 t465 t466 x14_2 x75_2 bt471.1 t455 (t455.length : Int) x75_2 true a1_0 a1_1 ((rd_T24 t455 x75_2).f0) ((rd_T24 t455 x75_2).f1)))) else (medlarlaw08_SubSplits.j2 k2 a0 a2 t454 t455 t465 t466 x14_2 x75_2 bt471.1 t455 (t455.length : Int) x75_2 true a1_0 a1_1 ((rd_T24 t455 x75_2).f0) ((rd_T24 t455 x75_2).f1)))) = some r := H
                    have A36 := Aside0.mk A360
                    clear A360
                    replace H := Option.bind_eq_some_iff.mp H
                    obtain ⟨⟨t471, t472⟩, A370, H⟩ := H
                    replace H : (if t470 = 0 then (if t469 = true then (medlarlaw08_SubSplits.j2 k2 a0 a2 t454 t455 t465 t466 x14_2 x75_2 t471 t455 (t455.length : Int) x75_2 ((t472 == 0) != (t466 == 0)) a1_0 a1_1 ((rd_T24 t455 x75_2).f0) ((rd_T24 t455 x75_2).f1)) else (if a1_1 = 0 then (medlarlaw08_SubSplits.j2 k2 a0 a2 t454 t455 t465 t466 x14_2 x75_2 t471 t455 (t455.length : Int) x75_2 ((t472 == 0) != (t466 == 0)) a1_0 a1_1 ((rd_T24 t455 x75_2).f0) ((rd_T24 t455 x75_2).f1)) else (medlarlaw08_SubSplits.j2 k2 a0 a2 t454 t455 t465 t466 x14_2 x75_2 t471 t455 (t455.length : Int) x75_2 true a1_0 a1_1 ((rd_T24 t455 x75_2).f0) ((rd_T24 t455 x75_2).f1)))) else (medlarlaw08_SubSplits.j2 k2 a0 a2 t454 t455 t465 t466 x14_2 x75_2 t471 t455 (t455.length : Int) x75_2 true a1_0 a1_1 ((rd_T24 t455 x75_2).f0) ((rd_T24 t455 x75_2).f1))) = some r := H
                    have A37 := Aside0.mk A370
                    clear A370
                    have HC38 := Aside0.mk H
                    clear H
                    have p467 : 0 ≤ (x75_2 : Int) := of_decide_eq_true (by first | (with_reducible assumption) | assumption)
                    have q467 : x75_2 < (t455.length : Int) := of_decide_eq_true (by first | (with_reducible assumption) | assumption)
                    obtain ⟨ad467, e467, hx467_0, hx467_1⟩ := at_T24 (Kd.R_reads' HO_73.out).2.2 x75_2 p467 q467
                    cases e467
                    replace p467 := eq_true p467
                    replace q467 := eq_true q467
                    go_upto_region 15 with (first | ((with_reducible refine gate_dst (N := 16) rfl ?_); (try (refine gate_guard (by rfl) ?_; dsimp only)); refine box_event ?hg (N := 16) ?hd (cs := #[.int .u64 0, .int .u64 0]) (t := 24) ?hr ?_; (case hd => rfl); (case hg => rfl); (case hr => first | (go_simp; done) | (go_simp; rfl)); intro gb468 hg w39 hbox hb; have n0_ := Aside0.mk (Kd.R_below (Kd.R_elderB (by (with_reducible repeat (first | apply Kd.R_alloc | apply Kd.R_drewN | apply Kd.R_drew)); exact HO_8.out) gb468 (Nat.le_of_eq hg.symm)) hb); have n1_ := Aside0.mk (Kd.R_below (Kd.R_elderB (by (with_reducible repeat (first | apply Kd.R_alloc | apply Kd.R_drewN | apply Kd.R_drew)); exact HO_73.out) gb468 (Nat.le_of_eq hg.symm)) hb); have n2_ := Aside0.mk (blk_below (g := gb453) (o := .cells #[.int .u64 a1_0, .int .u64 a1_1] 24 (0, 0)) (by (with_reducible repeat (first | refine blk_drewN ?_ _ | refine blk_drew ?_ | refine blk_alloc ?_ _)); exact BK453.out) hb); have n3_ := Aside0.mk (below_step (by repeat (first | (with_reducible first | exact HB.out | apply below_alloc | apply pw_below_drewN | apply below_drew1 | refine below_set ?_ GE453.out) | exact HB.out)) hb); have n4_ := Aside0.mk (hbox); have n5_ := Aside0.mk ((by rw [hg]; exact (below_size (by repeat (first | (with_reducible first | exact HB.out | apply below_alloc | apply pw_below_drewN | apply below_drew1 | refine below_set ?_ GE453.out) | exact HB.out))) : w.heap.size ≤ gb468)); have n6_ := Aside0.mk ((by rw [hg]; exact (below_size (by repeat (first | (with_reducible first | exact HB.out | apply below_alloc | apply pw_below_drewN | apply below_drew1 | refine below_set ?_ GE453.out) | exact HB.out))) : w.heap.size ≤ gb468)); have n7_ := Aside0.mk ((by rw [hg]; exact Nat.ne_of_lt (blk_lt (g := gb453) (o := .cells #[.int .u64 a1_0, .int .u64 a1_1] 24 (0, 0)) (by (with_reducible repeat (first | refine blk_drewN ?_ _ | refine blk_drew ?_ | refine blk_alloc ?_ _)); exact BK453.out)) : gb453 ≠ gb468)); have n8_ := Aside0.mk ((by rw [hg]; exact Nat.ne_of_gt (blk_lt (g := gb453) (o := .cells #[.int .u64 a1_0, .int .u64 a1_1] 24 (0, 0)) (by (with_reducible repeat (first | refine blk_drewN ?_ _ | refine blk_drew ?_ | refine blk_alloc ?_ _)); exact BK453.out)) : gb468 ≠ gb453)); clear HO_8; clear HO_73; clear BK453; clear HB; have HO_8 := n0_; have HO_73 := n1_; have BK453 := n2_; have HB := n3_; have BK468 := n4_; have GW468 := n5_; have GE468 := n6_; have NB453_468 := n7_; have NB468_453 := n8_; clear n0_ n1_ n2_ n3_ n4_ n5_ n6_ n7_ n8_; clear hb hbox hg; have hnb40 := NB468_453.out; have hnc40 := NB453_468.out; have hcz41_0 : w39.cell? ⟨gb468, 0, none⟩ = some (.int .u64 0) := (blk_cell BK468.out 0).trans rfl; have hcz41_1 : w39.cell? ⟨gb468, 1, none⟩ = some (.int .u64 0) := (blk_cell BK468.out 1).trans rfl; have hfz41_0 := blk_frozen BK468.out 0; have hfz41_1 := blk_frozen BK468.out 1) | ((with_reducible refine gate_callee (f := 17) rfl ?_); refine goesL_ (some 83) rfl rfl Try.func17 (by kernel_rfl) rfl #[.int .i64 a0, .agg #[.int .u64 ((rd_T24 t455 x75_2).f0), .int .u64 ((rd_T24 t455 x75_2).f1)]] rfl (by (try simp only [List.map_toArray, List.map_cons, List.map_nil]); first | done | rfl | (simp only [List.length_drop, List.length_take]; rfl)) ?_; (with_reducible refine (sub_Useful.calls k2 a0 ((rd_T24 t455 x75_2).f0) ((rd_T24 t455 x75_2).f1) t469 t470 _ A36.out).mono ?_); rintro e w42 ⟨rfl, hb⟩; refine ⟨_, rfl, ?_⟩; have n0_ := Aside0.mk (Kd.R_below (by (with_reducible repeat (first | apply Kd.R_alloc | apply Kd.R_drewN | apply Kd.R_drew)); exact (Kd.R_mono (Kd.R_far (p := ⟨gb468, 1, none⟩) (Kd.R_far (p := ⟨gb468, 0, none⟩) (Kd.R_mono HO_8.out (fun k_ hk => (⟨hk, hk.2⟩ : _ ∧ k_ ≠ gb468))) (fun _ hk => hk.2) (.int .u64 ((rd_T24 t455 x75_2).f0))) (fun _ hk => hk.2) (.int .u64 ((rd_T24 t455 x75_2).f1))) (fun _ h_ => h_.1))) hb); have n1_ := Aside0.mk (Kd.R_below (by (with_reducible repeat (first | apply Kd.R_alloc | apply Kd.R_drewN | apply Kd.R_drew)); exact (Kd.R_mono (Kd.R_far (p := ⟨gb468, 1, none⟩) (Kd.R_far (p := ⟨gb468, 0, none⟩) (Kd.R_mono HO_73.out (fun k_ hk => (⟨hk, hk.2⟩ : _ ∧ k_ ≠ gb468))) (fun _ hk => hk.2) (.int .u64 ((rd_T24 t455 x75_2).f0))) (fun _ hk => hk.2) (.int .u64 ((rd_T24 t455 x75_2).f1))) (fun _ h_ => h_.1))) hb); have n2_ := Aside0.mk (blk_below (g := gb453) (o := .cells #[.int .u64 a1_0, .int .u64 a1_1] 24 (0, 0)) (by (with_reducible repeat (first | refine blk_drewN ?_ _ | refine blk_drew ?_ | refine blk_alloc ?_ _)); refine blk_far ?_ NB453_468.out _; (with_reducible repeat (first | refine blk_drewN ?_ _ | refine blk_drew ?_ | refine blk_alloc ?_ _)); refine blk_far ?_ NB453_468.out _; (with_reducible repeat (first | refine blk_drewN ?_ _ | refine blk_drew ?_ | refine blk_alloc ?_ _)); exact BK453.out) hb); have n3_ := Aside0.mk (blk_below (g := gb468) (o := .cells #[.int .u64 ((rd_T24 t455 x75_2).f0), .int .u64 ((rd_T24 t455 x75_2).f1)] 24 (0, 0)) (by (with_reducible repeat (first | refine blk_drewN ?_ _ | refine blk_drew ?_ | refine blk_alloc ?_ _)); refine blk_put (cs := #[.int .u64 ((rd_T24 t455 x75_2).f0), .int .u64 0]) ?_ 1 _ rfl; (with_reducible repeat (first | refine blk_drewN ?_ _ | refine blk_drew ?_ | refine blk_alloc ?_ _)); refine blk_put (cs := #[.int .u64 0, .int .u64 0]) ?_ 0 _ rfl; (with_reducible repeat (first | refine blk_drewN ?_ _ | refine blk_drew ?_ | refine blk_alloc ?_ _)); exact BK468.out) hb); have n4_ := Aside0.mk (below_step (by repeat (first | (with_reducible first | exact HB.out | apply below_alloc | apply pw_below_drewN | apply below_drew1 | refine below_set ?_ GE453.out | refine below_set ?_ GE468.out) | exact HB.out)) hb); clear HO_8; clear HO_73; clear BK453; clear BK468; clear HB; have HO_8 := n0_; have HO_73 := n1_; have BK453 := n2_; have BK468 := n3_; have HB := n4_; clear n0_ n1_ n2_ n3_ n4_; (try clear hb); (try clear hb2); (try clear hk); (try clear hi); have hcz43_0 : w42.cell? ⟨gb468, 0, none⟩ = some (.int .u64 ((rd_T24 t455 x75_2).f0)) := (blk_cell BK468.out 0).trans rfl; have hcz43_1 : w42.cell? ⟨gb468, 1, none⟩ = some (.int .u64 ((rd_T24 t455 x75_2).f1)) := (blk_cell BK468.out 1).trans rfl; have hfz43_0 := blk_frozen BK468.out 0; have hfz43_1 := blk_frozen BK468.out 1) | ((with_reducible refine gate_callee (f := 34) rfl ?_); refine goesL_ (some 90) rfl rfl Try.func34 (by kernel_rfl) rfl #[.int .i64 a0, .agg #[.int .u64 ((rd_T24 t455 x75_2).f0), .int .u64 ((rd_T24 t455 x75_2).f1)], .int .u64 a2] rfl (by (try simp only [List.map_toArray, List.map_cons, List.map_nil]); first | done | rfl | (simp only [List.length_drop, List.length_take]; rfl)) ?_; (with_reducible refine (sub_Has.calls k2 a0 ((rd_T24 t455 x75_2).f0) ((rd_T24 t455 x75_2).f1) a2 t471 t472 _ A37.out).mono ?_); rintro e w44 ⟨rfl, hb⟩; refine ⟨_, rfl, ?_⟩; have n0_ := Aside0.mk (Kd.R_below (by (with_reducible repeat (first | apply Kd.R_alloc | apply Kd.R_drewN | apply Kd.R_drew)); exact HO_8.out) hb); have n1_ := Aside0.mk (Kd.R_below (by (with_reducible repeat (first | apply Kd.R_alloc | apply Kd.R_drewN | apply Kd.R_drew)); exact HO_73.out) hb); have n2_ := Aside0.mk (blk_below (g := gb453) (o := .cells #[.int .u64 a1_0, .int .u64 a1_1] 24 (0, 0)) (by (with_reducible repeat (first | refine blk_drewN ?_ _ | refine blk_drew ?_ | refine blk_alloc ?_ _)); exact BK453.out) hb); have n3_ := Aside0.mk (blk_below (g := gb468) (o := .cells #[.int .u64 ((rd_T24 t455 x75_2).f0), .int .u64 ((rd_T24 t455 x75_2).f1)] 24 (0, 0)) (by (with_reducible repeat (first | refine blk_drewN ?_ _ | refine blk_drew ?_ | refine blk_alloc ?_ _)); exact BK468.out) hb); have n4_ := Aside0.mk (below_step (by repeat (first | (with_reducible first | exact HB.out | apply below_alloc | apply pw_below_drewN | apply below_drew1 | refine below_set ?_ GE453.out | refine below_set ?_ GE468.out) | exact HB.out)) hb); clear HO_8; clear HO_73; clear BK453; clear BK468; clear HB; have HO_8 := n0_; have HO_73 := n1_; have BK453 := n2_; have BK468 := n3_; have HB := n4_; clear n0_ n1_ n2_ n3_ n4_; (try clear hb); (try clear hb2); (try clear hk); (try clear hi)))
                    (try simp only [Act.put, List.setIfInBounds_toArray, List.set_cons_zero, List.set_cons_succ])
                    go_cut [110] (fun v110 wc => ∃ (kq : Nat) (x110_37 : Bool), v110 = .bool x110_37 ∧ Aside0 (medlarlaw08_SubSplits.j2 kq a0 a2 t454 t455 t465 t466 x14_2 x75_2 t471 t455 (t455.length : Int) x75_2 x110_37 a1_0 a1_1 ((rd_T24 t455 x75_2).f0) ((rd_T24 t455 x75_2).f1) = some r) ∧ Aside0 (kq ≤ k2) ∧ Aside0 (Kd.R k24 24 wc w.heap.size (fun k_ => k_ ≠ gb453 ∧ k_ ≠ gb468) (.slice (some ad467) t455.length co32) t455) ∧ Aside0 (Kd.R k24 24 wc w.heap.size (fun k_ => k_ ≠ gb453 ∧ k_ ≠ gb468) (.slice (some ad467) t455.length co32) t455) ∧ Aside0 (wc.heap[gb453]? = some (.cells #[.int .u64 a1_0, .int .u64 a1_1] 24 (0, 0))) ∧ Aside0 (wc.heap[gb468]? = some (.cells #[.int .u64 ((rd_T24 t455 x75_2).f0), .int .u64 ((rd_T24 t455 x75_2).f1)] 24 (0, 0))) ∧ Aside0 (Below w.heap.size w wc))
                    case first =>
                      have H := HC38.out
                      clear HC38
                      by_cases c45 : t470 = 0
                      · rw [if_pos c45] at H
                        have c45b0 : (t470 == 0) = true := beq_iff_eq.mpr c45
                        have c45b1 : (t470 != 0) = false := bne_eq_false_iff_eq.mpr c45
                        clear c45
                        (first | rw [c45b0] | (simp only [i64_w, i32_w]; rw [c45b0]) | skip)
                        by_cases c46 : t469 = true
                        · subst c46
                          have H1 : (medlarlaw08_SubSplits.j2 k2 a0 a2 t454 t455 t465 t466 x14_2 x75_2 t471 t455 (t455.length : Int) x75_2 ((t472 == 0) != (t466 == 0)) a1_0 a1_1 ((rd_T24 t455 x75_2).f0) ((rd_T24 t455 x75_2).f1)) = some r := by rw [if_pos rfl] at H; exact H
                          clear H
                          have H := H1
                          clear H1
                          have H' := Aside0.mk H
                          clear H
                          go_wp2
                          go_meet
                          case rel => exact ⟨_, (((t472 == 0) != (t466 == 0))), (by first | rfl | (simp; done) | (simp [*]; done)), H', ⟨by have := HJ7.out; have := HK2.out; first | omega | exact Nat.le_refl _⟩, ⟨by (with_reducible repeat (first | apply Kd.R_alloc | apply Kd.R_drewN | apply Kd.R_drew)); exact HO_8.out⟩, ⟨by (with_reducible repeat (first | apply Kd.R_alloc | apply Kd.R_drewN | apply Kd.R_drew)); exact HO_73.out⟩, ⟨by (with_reducible repeat (first | refine blk_drewN ?_ _ | refine blk_drew ?_ | refine blk_alloc ?_ _)); exact BK453.out⟩, ⟨by (with_reducible repeat (first | refine blk_drewN ?_ _ | refine blk_drew ?_ | refine blk_alloc ?_ _)); exact BK468.out⟩, ⟨by repeat (first | (with_reducible first | exact HB.out | apply below_alloc | apply pw_below_drewN | apply below_drew1 | refine below_set ?_ GE453.out | refine below_set ?_ GE468.out) | exact HB.out)⟩⟩
                        · replace c46 := Bool.eq_false_iff.mpr c46
                          subst c46
                          have H1 : (if a1_1 = 0 then (medlarlaw08_SubSplits.j2 k2 a0 a2 t454 t455 t465 t466 x14_2 x75_2 t471 t455 (t455.length : Int) x75_2 ((t472 == 0) != (t466 == 0)) a1_0 a1_1 ((rd_T24 t455 x75_2).f0) ((rd_T24 t455 x75_2).f1)) else (medlarlaw08_SubSplits.j2 k2 a0 a2 t454 t455 t465 t466 x14_2 x75_2 t471 t455 (t455.length : Int) x75_2 true a1_0 a1_1 ((rd_T24 t455 x75_2).f0) ((rd_T24 t455 x75_2).f1))) = some r := by rw [if_neg (show ¬ (false = true) by decide)] at H; exact H
                          clear H
                          have H := H1
                          clear H1
                          by_cases c47 : a1_1 = 0
                          · rw [if_pos c47] at H
                            have c47b0 : (a1_1 == 0) = true := beq_iff_eq.mpr c47
                            have c47b1 : (a1_1 != 0) = false := bne_eq_false_iff_eq.mpr c47
                            clear c47
                            have H' := Aside0.mk H
                            clear H
                            have hnb48 := NB453_468.out
                            have hnc48 := NB468_453.out
                            have hcz49_0 : w44.cell? ⟨gb453, 0, none⟩ = some (.int .u64 a1_0) := (blk_cell BK453.out 0).trans rfl
                            have hcz49_1 : w44.cell? ⟨gb453, 1, none⟩ = some (.int .u64 a1_1) := (blk_cell BK453.out 1).trans rfl
                            have hfz49_0 := blk_frozen BK453.out 0
                            have hfz49_1 := blk_frozen BK453.out 1
                            go_wp2
                            go_meet
                            case rel => exact ⟨_, (((t472 == 0) != (t466 == 0))), (by first | rfl | (simp; done) | (simp [*]; done)), H', ⟨by have := HJ7.out; have := HK2.out; first | omega | exact Nat.le_refl _⟩, ⟨by (with_reducible repeat (first | apply Kd.R_alloc | apply Kd.R_drewN | apply Kd.R_drew)); exact HO_8.out⟩, ⟨by (with_reducible repeat (first | apply Kd.R_alloc | apply Kd.R_drewN | apply Kd.R_drew)); exact HO_73.out⟩, ⟨by (with_reducible repeat (first | refine blk_drewN ?_ _ | refine blk_drew ?_ | refine blk_alloc ?_ _)); exact BK453.out⟩, ⟨by (with_reducible repeat (first | refine blk_drewN ?_ _ | refine blk_drew ?_ | refine blk_alloc ?_ _)); exact BK468.out⟩, ⟨by repeat (first | (with_reducible first | exact HB.out | apply below_alloc | apply pw_below_drewN | apply below_drew1 | refine below_set ?_ GE453.out | refine below_set ?_ GE468.out) | exact HB.out)⟩⟩
                          · rw [if_neg c47] at H
                            have c47b0 : (a1_1 == 0) = false := beq_eq_false_iff_ne.mpr c47
                            have c47b1 : (a1_1 != 0) = true := bne_iff_ne.mpr c47
                            have H' := Aside0.mk H
                            clear H
                            have hnb50 := NB453_468.out
                            have hnc50 := NB468_453.out
                            have hcz51_0 : w44.cell? ⟨gb453, 0, none⟩ = some (.int .u64 a1_0) := (blk_cell BK453.out 0).trans rfl
                            have hcz51_1 : w44.cell? ⟨gb453, 1, none⟩ = some (.int .u64 a1_1) := (blk_cell BK453.out 1).trans rfl
                            have hfz51_0 := blk_frozen BK453.out 0
                            have hfz51_1 := blk_frozen BK453.out 1
                            go_wp2
                            go_meet
                            case rel => exact ⟨_, (true), (by first | rfl | (simp; done) | (simp [*]; done)), H', ⟨by have := HJ7.out; have := HK2.out; first | omega | exact Nat.le_refl _⟩, ⟨by (with_reducible repeat (first | apply Kd.R_alloc | apply Kd.R_drewN | apply Kd.R_drew)); exact HO_8.out⟩, ⟨by (with_reducible repeat (first | apply Kd.R_alloc | apply Kd.R_drewN | apply Kd.R_drew)); exact HO_73.out⟩, ⟨by (with_reducible repeat (first | refine blk_drewN ?_ _ | refine blk_drew ?_ | refine blk_alloc ?_ _)); exact BK453.out⟩, ⟨by (with_reducible repeat (first | refine blk_drewN ?_ _ | refine blk_drew ?_ | refine blk_alloc ?_ _)); exact BK468.out⟩, ⟨by repeat (first | (with_reducible first | exact HB.out | apply below_alloc | apply pw_below_drewN | apply below_drew1 | refine below_set ?_ GE453.out | refine below_set ?_ GE468.out) | exact HB.out)⟩⟩
                      · rw [if_neg c45] at H
                        have c45b0 : (t470 == 0) = false := beq_eq_false_iff_ne.mpr c45
                        have c45b1 : (t470 != 0) = true := bne_iff_ne.mpr c45
                        (first | rw [c45b0] | (simp only [i64_w, i32_w]; rw [c45b0]) | skip)
                        have H' := Aside0.mk H
                        clear H
                        go_wp2
                        go_meet
                        case rel => exact ⟨_, (true), (by first | rfl | (simp; done) | (simp [*]; done)), H', ⟨by have := HJ7.out; have := HK2.out; first | omega | exact Nat.le_refl _⟩, ⟨by (with_reducible repeat (first | apply Kd.R_alloc | apply Kd.R_drewN | apply Kd.R_drew)); exact HO_8.out⟩, ⟨by (with_reducible repeat (first | apply Kd.R_alloc | apply Kd.R_drewN | apply Kd.R_drew)); exact HO_73.out⟩, ⟨by (with_reducible repeat (first | refine blk_drewN ?_ _ | refine blk_drew ?_ | refine blk_alloc ?_ _)); exact BK453.out⟩, ⟨by (with_reducible repeat (first | refine blk_drewN ?_ _ | refine blk_drew ?_ | refine blk_alloc ?_ _)); exact BK468.out⟩, ⟨by repeat (first | (with_reducible first | exact HB.out | apply below_alloc | apply pw_below_drewN | apply below_drew1 | refine below_set ?_ GE453.out | refine below_set ?_ GE468.out) | exact HB.out)⟩⟩
                    case rest =>
                      clear HC38
                      try clear c1
                      try clear c2
                      try clear p2
                      try clear c3
                      try clear c4
                      try clear p4
                      try clear q4
                      try clear hx4
                      try clear c5
                      try clear c6
                      try clear c6b0
                      try clear c6b1
                      try clear c10
                      try clear c14
                      try clear c15
                      try clear c15b0
                      try clear c15b1
                      try clear c16
                      try clear c16b0
                      try clear c16b1
                      try clear c17
                      try clear c18
                      try clear c18b0
                      try clear c18b1
                      try clear c19
                      try clear c20
                      try clear c28
                      try clear c33
                      try clear c33b0
                      try clear c34
                      try clear c34b0
                      try clear c35
                      try clear c35b0
                      try clear c40
                      try clear c45
                      try clear c45b0
                      try clear c45b1
                      try clear c46
                      try clear p46
                      try clear q46
                      try clear hx46
                      try clear c47
                      try clear c47b0
                      try clear c47b1
                      try clear c48
                      try clear c50
                      try clear hcz11_0
                      try clear hcz11_1
                      try clear hcz13_0
                      try clear hcz13_1
                      try clear hcz23_0
                      try clear hcz23_1
                      try clear hcz30_0
                      try clear hcz30_1
                      try clear hcz41_0
                      try clear hcz41_1
                      try clear hcz43_0
                      try clear hcz43_1
                      try clear hcz49_0
                      try clear hcz49_1
                      try clear hcz51_0
                      try clear hcz51_1
                      try clear hfz11_0
                      try clear hfz11_1
                      try clear hfz13_0
                      try clear hfz13_1
                      try clear hfz23_0
                      try clear hfz23_1
                      try clear hfz30_0
                      try clear hfz30_1
                      try clear hfz41_0
                      try clear hfz41_1
                      try clear hfz43_0
                      try clear hfz43_1
                      try clear hfz49_0
                      try clear hfz49_1
                      try clear hfz51_0
                      try clear hfz51_1
                      try clear hx467_0
                      try clear hx467_1
                      try clear p2
                      try clear p467
                      try clear q467
                      obtain ⟨kq, x110_37, rfl, HA, HJ37, HO_8, HO_73, BK453, BK468, HB⟩ := hcut
                      cases kq with
                      | zero => exact absurd HA.out (by simp [medlarlaw08_SubSplits.j2])
                      | succ kj37 =>
                        have H := HA.out
                        clear HA
                        simp only [medlarlaw08_SubSplits.j2] at H
                        by_cases c52 : x110_37 = true
                        · subst c52
                          have H1 : (some false) = some r := by rw [if_pos rfl] at H; exact H
                          clear H
                          have H := H1
                          clear H1
                          obtain rfl := Option.some.inj H
                          go_wp2
                          go_ret
                          exact ⟨by first | rfl | (simp [errW_none, errW_some] <;> rfl) | (simp [*, errW_none, errW_some] <;> rfl), by repeat (first | (with_reducible first | exact HB.out | apply below_alloc | apply pw_below_drewN | apply below_drew1 | refine below_set ?_ GE453.out | refine below_set ?_ GE468.out) | exact HB.out)⟩
                        · replace c52 := Bool.eq_false_iff.mpr c52
                          subst c52
                          have H1 : (if x14_2 = true then (medlarlaw08_SubSplits.j3 kj37 a0 a2 t454 t455 t465 t466 true x75_2 t455 (t455.length : Int) x75_2 a1_0 a1_1 ((rd_T24 t455 x75_2).f0) ((rd_T24 t455 x75_2).f1)) else (medlarlaw08_SubSplits.j3 kj37 a0 a2 t454 t455 t465 t466 t471 x75_2 t455 (t455.length : Int) x75_2 a1_0 a1_1 ((rd_T24 t455 x75_2).f0) ((rd_T24 t455 x75_2).f1))) = some r := by rw [if_neg (show ¬ (false = true) by decide)] at H; exact H
                          clear H
                          have H := H1
                          clear H1
                          have HC53 := Aside0.mk H
                          clear H
                          go_upto_region 17 with (fail)
                          go_cut [14] (fun v14 wc => ∃ (kq : Nat) (x14_52 : Bool), v14 = .bool x14_52 ∧ Aside0 (medlarlaw08_SubSplits.j3 kq a0 a2 t454 t455 t465 t466 x14_52 x75_2 t455 (t455.length : Int) x75_2 a1_0 a1_1 ((rd_T24 t455 x75_2).f0) ((rd_T24 t455 x75_2).f1) = some r) ∧ Aside0 (kq ≤ kj37) ∧ Aside0 (Kd.R k24 24 wc w.heap.size (fun k_ => k_ ≠ gb453 ∧ k_ ≠ gb468) (.slice (some ad467) t455.length co32) t455) ∧ Aside0 (Kd.R k24 24 wc w.heap.size (fun k_ => k_ ≠ gb453 ∧ k_ ≠ gb468) (.slice (some ad467) t455.length co32) t455) ∧ Aside0 (wc.heap[gb453]? = some (.cells #[.int .u64 a1_0, .int .u64 a1_1] 24 (0, 0))) ∧ Aside0 (wc.heap[gb468]? = some (.cells #[.int .u64 ((rd_T24 t455 x75_2).f0), .int .u64 ((rd_T24 t455 x75_2).f1)] 24 (0, 0))) ∧ Aside0 (Below w.heap.size w wc))
                          case first =>
                            have H := HC53.out
                            clear HC53
                            by_cases c54 : x14_2 = true
                            · subst c54
                              have H1 : (medlarlaw08_SubSplits.j3 kj37 a0 a2 t454 t455 t465 t466 true x75_2 t455 (t455.length : Int) x75_2 a1_0 a1_1 ((rd_T24 t455 x75_2).f0) ((rd_T24 t455 x75_2).f1)) = some r := by rw [if_pos rfl] at H; exact H
                              clear H
                              have H := H1
                              clear H1
                              have H' := Aside0.mk H
                              clear H
                              go_wp2
                              go_meet
                              case rel => exact ⟨_, (true), (by first | rfl | (simp; done) | (simp [*]; done)), H', ⟨by have := HJ7.out; have := HK2.out; have := HJ37.out; first | omega | exact Nat.le_refl _⟩, ⟨by (with_reducible repeat (first | apply Kd.R_alloc | apply Kd.R_drewN | apply Kd.R_drew)); exact HO_8.out⟩, ⟨by (with_reducible repeat (first | apply Kd.R_alloc | apply Kd.R_drewN | apply Kd.R_drew)); exact HO_73.out⟩, ⟨by (with_reducible repeat (first | refine blk_drewN ?_ _ | refine blk_drew ?_ | refine blk_alloc ?_ _)); exact BK453.out⟩, ⟨by (with_reducible repeat (first | refine blk_drewN ?_ _ | refine blk_drew ?_ | refine blk_alloc ?_ _)); exact BK468.out⟩, ⟨by repeat (first | (with_reducible first | exact HB.out | apply below_alloc | apply pw_below_drewN | apply below_drew1 | refine below_set ?_ GE453.out | refine below_set ?_ GE468.out) | exact HB.out)⟩⟩
                            · replace c54 := Bool.eq_false_iff.mpr c54
                              subst c54
                              have H1 : (medlarlaw08_SubSplits.j3 kj37 a0 a2 t454 t455 t465 t466 t471 x75_2 t455 (t455.length : Int) x75_2 a1_0 a1_1 ((rd_T24 t455 x75_2).f0) ((rd_T24 t455 x75_2).f1)) = some r := by rw [if_neg (show ¬ (false = true) by decide)] at H; exact H
                              clear H
                              have H := H1
                              clear H1
                              have H' := Aside0.mk H
                              clear H
                              go_wp2
                              go_meet
                              case rel => exact ⟨_, (t471), (by first | rfl | (simp; done) | (simp [*]; done)), H', ⟨by have := HJ7.out; have := HK2.out; have := HJ37.out; first | omega | exact Nat.le_refl _⟩, ⟨by (with_reducible repeat (first | apply Kd.R_alloc | apply Kd.R_drewN | apply Kd.R_drew)); exact HO_8.out⟩, ⟨by (with_reducible repeat (first | apply Kd.R_alloc | apply Kd.R_drewN | apply Kd.R_drew)); exact HO_73.out⟩, ⟨by (with_reducible repeat (first | refine blk_drewN ?_ _ | refine blk_drew ?_ | refine blk_alloc ?_ _)); exact BK453.out⟩, ⟨by (with_reducible repeat (first | refine blk_drewN ?_ _ | refine blk_drew ?_ | refine blk_alloc ?_ _)); exact BK468.out⟩, ⟨by repeat (first | (with_reducible first | exact HB.out | apply below_alloc | apply pw_below_drewN | apply below_drew1 | refine below_set ?_ GE453.out | refine below_set ?_ GE468.out) | exact HB.out)⟩⟩
                          case rest =>
                            clear HC53
                            try clear c1
                            try clear c2
                            try clear p2
                            try clear c3
                            try clear c4
                            try clear p4
                            try clear q4
                            try clear hx4
                            try clear c5
                            try clear c6
                            try clear c6b0
                            try clear c6b1
                            try clear c10
                            try clear c14
                            try clear c15
                            try clear c15b0
                            try clear c15b1
                            try clear c16
                            try clear c16b0
                            try clear c16b1
                            try clear c17
                            try clear c18
                            try clear c18b0
                            try clear c18b1
                            try clear c19
                            try clear c20
                            try clear c28
                            try clear c33
                            try clear c33b0
                            try clear c34
                            try clear c34b0
                            try clear c35
                            try clear c35b0
                            try clear c40
                            try clear c45
                            try clear c45b0
                            try clear c45b1
                            try clear c46
                            try clear p46
                            try clear q46
                            try clear hx46
                            try clear c47
                            try clear c47b0
                            try clear c47b1
                            try clear c48
                            try clear c50
                            try clear c52
                            try clear c54
                            try clear hcz11_0
                            try clear hcz11_1
                            try clear hcz13_0
                            try clear hcz13_1
                            try clear hcz23_0
                            try clear hcz23_1
                            try clear hcz30_0
                            try clear hcz30_1
                            try clear hcz41_0
                            try clear hcz41_1
                            try clear hcz43_0
                            try clear hcz43_1
                            try clear hcz49_0
                            try clear hcz49_1
                            try clear hcz51_0
                            try clear hcz51_1
                            try clear hfz11_0
                            try clear hfz11_1
                            try clear hfz13_0
                            try clear hfz13_1
                            try clear hfz23_0
                            try clear hfz23_1
                            try clear hfz30_0
                            try clear hfz30_1
                            try clear hfz41_0
                            try clear hfz41_1
                            try clear hfz43_0
                            try clear hfz43_1
                            try clear hfz49_0
                            try clear hfz49_1
                            try clear hfz51_0
                            try clear hfz51_1
                            try clear hx467_0
                            try clear hx467_1
                            try clear p2
                            try clear p4
                            try clear p46
                            try clear p467
                            try clear q4
                            try clear q46
                            try clear q467
                            obtain ⟨kq, x14_52, rfl, HA, HJ52, HO_8, HO_73, BK453, BK468, HB⟩ := hcut
                            cases kq with
                            | zero => exact absurd HA.out (by simp [medlarlaw08_SubSplits.j3])
                            | succ kj52 =>
                              have H := HA.out
                              clear HA
                              simp only [medlarlaw08_SubSplits.j3] at H
                              by_cases c55 : x75_2 > 0
                              · rw [if_pos c55] at H
                                have c55b0 : decide (0 < x75_2) = true := decide_eq_true c55
                                clear c55
                                by_cases c56 : 0 < (t455.length : Int)
                                · rw [if_pos c56] at H
                                  have c56b0 : decide (0 < (t455.length : Int)) = true := decide_eq_true c56
                                  have c56b1 : decide (0 < t455.length) = true := decide_eq_true (by omega)
                                  clear c56
                                  replace H := Option.bind_eq_some_iff.mp H
                                  obtain ⟨⟨t474, t475⟩, A570, H⟩ := H
                                  replace H : (if t475 = 0 then (if t474 = true then (some false) else (medlarlaw08_SubSplits.l0 kj52 a0 a2 t454 t455 t465 t466 x14_52 t455 (t455.length : Int) (wrap64 (x75_2 + 1)) a1_0 a1_1)) else (some false)) = some r := H
                                  have A57 := Aside0.mk A570
                                  clear A570
                                  by_cases c58 : t475 = 0
                                  · rw [if_pos c58] at H
                                    have c58b0 : (t475 == 0) = true := beq_iff_eq.mpr c58
                                    have c58b1 : (t475 != 0) = false := bne_eq_false_iff_eq.mpr c58
                                    clear c58
                                    by_cases c59 : t474 = true
                                    · subst c59
                                      have H1 : (some false) = some r := by rw [if_pos rfl] at H; exact H
                                      clear H
                                      have H := H1
                                      clear H1
                                      obtain rfl := Option.some.inj H
                                      try go_wp2
                                      have n0_ := Aside0.mk (Kd.R_drew HO_8.out)
                                      have n1_ := Aside0.mk (Kd.R_drew HO_73.out)
                                      have n2_ := Aside0.mk (blk_drew BK453.out)
                                      have n3_ := Aside0.mk (blk_drew BK468.out)
                                      have n4_ := Aside0.mk (below_drew1 HB.out)
                                      clear HO_8
                                      clear HO_73
                                      clear BK453
                                      clear BK468
                                      clear HB
                                      have HO_8 := n0_
                                      have HO_73 := n1_
                                      have BK453 := n2_
                                      have BK468 := n3_
                                      have HB := n4_
                                      clear n0_ n1_ n2_ n3_ n4_
                                      have p473 : 0 ≤ (0 : Int) := (by omega)
                                      have q473 : 0 < (t455.length : Int) := of_decide_eq_true (by first | (with_reducible assumption) | assumption)
                                      obtain ⟨ad473, e473, hx473_0, hx473_1⟩ := at_T24 (Kd.R_reads' HO_8.out).2.2 0 p473 q473
                                      obtain rfl : ad467 = ad473 := (by injection e473)
                                      have qi473 : (0 < t455.length) = True := eq_true (by omega)
                                      (try rw [show ((0 : Int)).toNat = 0 from rfl] at hx473_0)
                                      (try rw [show 0 * 2 = 0 from rfl] at hx473_0)
                                      (try rw [Addr.add_zero'] at hx473_0)
                                      (try rw [show ((0 : Int)).toNat = 0 from rfl] at hx473_1)
                                      (try rw [show 0 * 2 = 0 from rfl] at hx473_1)
                                      (try rw [Addr.add_zero'] at hx473_1)
                                      replace p473 := eq_true p473
                                      replace q473 := eq_true q473
                                      refine start_ (n := 11) (S := fun w' => w'.cell? ⟨gb468, 0, none⟩ = some (.int .u64 ((rd_T24 t455 x75_2).f0)) ∧ w'.cell? ⟨gb468, 1, none⟩ = some (.int .u64 ((rd_T24 t455 x75_2).f1)) ∧ w'.cell? ad467 = some (.int .u64 ((rd_T24 t455 0).f0)) ∧ w'.cell? ⟨ad467.block, ad467.off + 1, none⟩ = some (.int .u64 ((rd_T24 t455 0).f1))) (ds := []) #[false, false, false, false, false, false, false, false, false, false, false] (by kernel_rfl) rfl rfl ⟨(blk_cell BK468.out 0).trans rfl, (blk_cell BK468.out 1).trans rfl, hx473_0, hx473_1⟩ (fun hHeld => ?_); refine with_tabW medlarlaw08_SubSplits.tab19 medlarlaw08_SubSplits.bits19 (fun HT_ HW_ => ?_)
                                      generalize wc.drew = w60 at HO_8 HO_73 BK453 BK468 HB hx473_0 hx473_1 hHeld ⊢
                                      refine pure_ (i := 0) (N := some 118) (v := ?_) (a' := ?_) #[true, false, false, false, false, false, false, false, false, false, false] rfl rfl (any_of HT_.out (by kernel_rfl)) (fun _ _ _ h => h) (Or.inl ⟨by rfl, ?_⟩) ?_ ?_
                                      rotate_left
                                      · intro w'
                                        go_simp
                                        with_reducible rfl
                                      rotate_left
                                      · simp only [Act.put, List.setIfInBounds_toArray, List.set_cons_zero, List.set_cons_succ, i64_w, i32_w]
                                        rfl
                                      refine pure_ (i := 1) (N := some 119) (v := ?_) (a' := ?_) #[true, true, false, false, false, false, false, false, false, false, false] rfl rfl (any_of HT_.out (by kernel_rfl)) (fun _ _ _ h => h) (Or.inl ⟨by rfl, ?_⟩) ?_ ?_
                                      rotate_left
                                      · intro w'
                                        go_simp
                                        with_reducible rfl
                                      rotate_left
                                      · simp only [Act.put, List.setIfInBounds_toArray, List.set_cons_zero, List.set_cons_succ, i64_w, i32_w]
                                        rfl
                                      refine pure_ (i := 2) (N := some 120) (v := ?_) (a' := ?_) #[true, true, true, false, false, false, false, false, false, false, false] rfl rfl (any_of HT_.out (by kernel_rfl)) (fun _ _ _ h => h) (Or.inl ⟨by rfl, ?_⟩) ?_ ?_
                                      rotate_left
                                      · intro w'
                                        go_simp
                                        with_reducible rfl
                                      rotate_left
                                      · simp only [Act.put, List.setIfInBounds_toArray, List.set_cons_zero, List.set_cons_succ, i64_w, i32_w]
                                        rfl
                                      refine take_ (i := 3) (N := some 121) (v := ?_) (a' := ?_) #[true, true, true, true, false, false, false, false, false, false, false] rfl rfl (take_ofW HT_.out HW_.out (by kernel_rfl)) (fun _ _ _ h => h) (Or.inl ⟨by rfl, ?_⟩) hHeld ?_ ?_
                                      rotate_left
                                      · rintro w' ⟨s0, s1, s2, s3⟩
                                        go_simp
                                        with_reducible rfl
                                      rotate_left
                                      · simp only [Act.put, List.setIfInBounds_toArray, List.set_cons_zero, List.set_cons_succ, i64_w, i32_w]
                                        rfl
                                      refine take_ (i := 4) (N := some 122) (v := ?_) (a' := ?_) #[true, true, true, true, true, false, false, false, false, false, false] rfl rfl (take_ofW HT_.out HW_.out (by kernel_rfl)) (fun _ _ _ h => h) (Or.inl ⟨by rfl, ?_⟩) hHeld ?_ ?_
                                      rotate_left
                                      · rintro w' ⟨s0, s1, s2, s3⟩
                                        go_simp
                                        with_reducible rfl
                                      rotate_left
                                      · simp only [Act.put, List.setIfInBounds_toArray, List.set_cons_zero, List.set_cons_succ, i64_w, i32_w]
                                        rfl
                                      refine one_ (i := 5) (N := some 123) #[true, true, true, true, true, true, false, false, false, false, false] rfl rfl (one_of HT_.out (by kernel_rfl)) (by decide) (fun K hK => ?_)
                                      refine goes_ Try.func31 (by kernel_rfl) rfl #[.int .i64 a0, .agg #[.int .u64 ((rd_T24 t455 0).f0), .int .u64 ((rd_T24 t455 0).f1)], .agg #[.int .u64 ((rd_T24 t455 x75_2).f0), .int .u64 ((rd_T24 t455 x75_2).f1)]] (by rfl) rfl rfl (by (try simp only [List.map_toArray, List.map_cons, List.map_nil]); first | done | rfl | (simp only [List.length_drop, List.length_take]; rfl)) ?_
                                      with_reducible refine (sub_Touch.calls kj52 a0 ((rd_T24 t455 0).f0) ((rd_T24 t455 0).f1) ((rd_T24 t455 x75_2).f0) ((rd_T24 t455 x75_2).f1) true t475 _ A57.out).mono ?_
                                      rintro e w61 ⟨rfl, hb⟩
                                      have HS2_ := (hb.cell (World.block_lt_of_cell? _ _ (hHeld.2.2.1))).trans (hHeld.2.2.1)
                                      have HS3_ := (hb.cell (World.block_lt_of_cell? _ _ (hHeld.2.2.2))).trans (hHeld.2.2.2)
                                      refine ⟨_, rfl, ?_⟩
                                      have n0_ := Aside0.mk (Kd.R_below (by (with_reducible repeat (first | apply Kd.R_alloc | apply Kd.R_drewN | apply Kd.R_drew)); exact HO_8.out) hb)
                                      have n1_ := Aside0.mk (Kd.R_below (by (with_reducible repeat (first | apply Kd.R_alloc | apply Kd.R_drewN | apply Kd.R_drew)); exact HO_73.out) hb)
                                      have n2_ := Aside0.mk (blk_below (g := gb453) (o := .cells #[.int .u64 a1_0, .int .u64 a1_1] 24 (0, 0)) (by (with_reducible repeat (first | refine blk_drewN ?_ _ | refine blk_drew ?_ | refine blk_alloc ?_ _)); exact BK453.out) hb)
                                      have n3_ := Aside0.mk (blk_below (g := gb468) (o := .cells #[.int .u64 ((rd_T24 t455 x75_2).f0), .int .u64 ((rd_T24 t455 x75_2).f1)] 24 (0, 0)) (by (with_reducible repeat (first | refine blk_drewN ?_ _ | refine blk_drew ?_ | refine blk_alloc ?_ _)); exact BK468.out) hb)
                                      have n4_ := Aside0.mk (below_step (by repeat (first | (with_reducible first | exact HB.out | apply below_alloc | apply pw_below_drewN | apply below_drew1 | refine below_set ?_ GE453.out | refine below_set ?_ GE468.out) | exact HB.out)) hb)
                                      clear HO_8
                                      clear HO_73
                                      clear BK453
                                      clear BK468
                                      clear HB
                                      have HO_8 := n0_
                                      have HO_73 := n1_
                                      have BK453 := n2_
                                      have BK468 := n3_
                                      have HB := n4_
                                      clear n0_ n1_ n2_ n3_ n4_
                                      (try clear hb)
                                      (try clear hb2)
                                      (try clear hk)
                                      (try clear hi)
                                      refine hK.out _ _ ⟨(blk_cell BK468.out 0).trans rfl, (blk_cell BK468.out 1).trans rfl, HS2_, HS3_⟩ (fun hHeld => ?_)
                                      clear hK K
                                      refine norm_ (a' := ?_) ?_ ?_
                                      rotate_left
                                      · show Act.put _ (some 123) _ = _
                                        simp only [Act.put, List.setIfInBounds_toArray, List.set_cons_zero, List.set_cons_succ, i64_w, i32_w]
                                        rfl
                                      refine pure_ (i := 6) (N := some 117) (v := ?_) (a' := ?_) #[true, true, true, true, true, true, true, false, false, false, false] rfl rfl (any_of HT_.out (by kernel_rfl)) (fun _ _ _ h => h) (Or.inl ⟨by rfl, ?_⟩) ?_ ?_
                                      rotate_left
                                      · intro w'
                                        go_simp
                                        with_reducible rfl
                                      rotate_left
                                      · simp only [Act.put, List.setIfInBounds_toArray, List.set_cons_zero, List.set_cons_succ, i64_w, i32_w]
                                        rfl
                                      refine pure_ (i := 7) (N := some 124) (v := ?_) (a' := ?_) #[true, true, true, true, true, true, true, true, false, false, false] rfl rfl (any_of HT_.out (by kernel_rfl)) (fun _ _ _ h => h) (Or.inl ⟨by rfl, ?_⟩) ?_ ?_
                                      rotate_left
                                      · intro w'
                                        go_simp
                                        with_reducible rfl
                                      rotate_left
                                      · simp only [Act.put, List.setIfInBounds_toArray, List.set_cons_zero, List.set_cons_succ, i64_w, i32_w]
                                        rfl
                                      refine pure_ (i := 8) (N := some 125) (v := ?_) (a' := ?_) #[true, true, true, true, true, true, true, true, true, false, false] rfl rfl (any_of HT_.out (by kernel_rfl)) (fun _ _ _ h => h) (Or.inl ⟨by rfl, ?_⟩) ?_ ?_
                                      rotate_left
                                      · intro w'
                                        go_simp
                                        with_reducible rfl
                                      rotate_left
                                      · simp only [Act.put, List.setIfInBounds_toArray, List.set_cons_zero, List.set_cons_succ, i64_w, i32_w]
                                        rfl
                                      refine pure_ (i := 9) (N := some 21) (v := ?_) (a' := ?_) #[true, true, true, true, true, true, true, true, true, true, false] rfl rfl (any_of HT_.out (by kernel_rfl)) (fun _ _ _ h => h) (Or.inl ⟨by rfl, ?_⟩) ?_ ?_
                                      rotate_left
                                      · intro w'
                                        go_simp
                                        with_reducible rfl
                                      rotate_left
                                      · simp only [Act.put, List.setIfInBounds_toArray, List.set_cons_zero, List.set_cons_succ, i64_w, i32_w]
                                        rfl
                                      refine pure_ (i := 10) (N := some 22) (v := ?_) (a' := ?_) #[true, true, true, true, true, true, true, true, true, true, true] rfl rfl (any_of HT_.out (by kernel_rfl)) (fun _ _ _ h => h) (Or.inl ⟨by rfl, ?_⟩) ?_ ?_
                                      rotate_left
                                      · intro w'
                                        go_simp
                                        with_reducible rfl
                                      rotate_left
                                      · simp only [Act.put, List.setIfInBounds_toArray, List.set_cons_zero, List.set_cons_succ, i64_w, i32_w]
                                        rfl
                                      refine done_ (done_of HT_.out (by kernel_rfl)) ?_
                                      try go_wp2
                                      go_ret
                                      exact ⟨by first | rfl | (simp [errW_none, errW_some] <;> rfl) | (simp [*, errW_none, errW_some] <;> rfl), by repeat (first | (with_reducible first | exact HB.out | apply below_alloc | apply pw_below_drewN | apply below_drew1 | refine below_set ?_ GE453.out | refine below_set ?_ GE468.out) | exact HB.out)⟩
                                    · replace c59 := Bool.eq_false_iff.mpr c59
                                      subst c59
                                      have H1 : (medlarlaw08_SubSplits.l0 kj52 a0 a2 t454 t455 t465 t466 x14_52 t455 (t455.length : Int) (wrap64 (x75_2 + 1)) a1_0 a1_1) = some r := by rw [if_neg (show ¬ (false = true) by decide)] at H; exact H
                                      clear H
                                      have H := H1
                                      clear H1
                                      have H' := Aside0.mk H
                                      clear H
                                      try go_wp2
                                      have n0_ := Aside0.mk (Kd.R_drew HO_8.out)
                                      have n1_ := Aside0.mk (Kd.R_drew HO_73.out)
                                      have n2_ := Aside0.mk (blk_drew BK453.out)
                                      have n3_ := Aside0.mk (blk_drew BK468.out)
                                      have n4_ := Aside0.mk (below_drew1 HB.out)
                                      clear HO_8
                                      clear HO_73
                                      clear BK453
                                      clear BK468
                                      clear HB
                                      have HO_8 := n0_
                                      have HO_73 := n1_
                                      have BK453 := n2_
                                      have BK468 := n3_
                                      have HB := n4_
                                      clear n0_ n1_ n2_ n3_ n4_
                                      have p473 : 0 ≤ (0 : Int) := (by omega)
                                      have q473 : 0 < (t455.length : Int) := of_decide_eq_true (by first | (with_reducible assumption) | assumption)
                                      obtain ⟨ad473, e473, hx473_0, hx473_1⟩ := at_T24 (Kd.R_reads' HO_8.out).2.2 0 p473 q473
                                      obtain rfl : ad467 = ad473 := (by injection e473)
                                      have qi473 : (0 < t455.length) = True := eq_true (by omega)
                                      (try rw [show ((0 : Int)).toNat = 0 from rfl] at hx473_0)
                                      (try rw [show 0 * 2 = 0 from rfl] at hx473_0)
                                      (try rw [Addr.add_zero'] at hx473_0)
                                      (try rw [show ((0 : Int)).toNat = 0 from rfl] at hx473_1)
                                      (try rw [show 0 * 2 = 0 from rfl] at hx473_1)
                                      (try rw [Addr.add_zero'] at hx473_1)
                                      replace p473 := eq_true p473
                                      replace q473 := eq_true q473
                                      refine start_ (n := 11) (S := fun w' => w'.cell? ⟨gb468, 0, none⟩ = some (.int .u64 ((rd_T24 t455 x75_2).f0)) ∧ w'.cell? ⟨gb468, 1, none⟩ = some (.int .u64 ((rd_T24 t455 x75_2).f1)) ∧ w'.cell? ad467 = some (.int .u64 ((rd_T24 t455 0).f0)) ∧ w'.cell? ⟨ad467.block, ad467.off + 1, none⟩ = some (.int .u64 ((rd_T24 t455 0).f1))) (ds := []) #[false, false, false, false, false, false, false, false, false, false, false] (by kernel_rfl) rfl rfl ⟨(blk_cell BK468.out 0).trans rfl, (blk_cell BK468.out 1).trans rfl, hx473_0, hx473_1⟩ (fun hHeld => ?_); refine with_tabW medlarlaw08_SubSplits.tab19 medlarlaw08_SubSplits.bits19 (fun HT_ HW_ => ?_)
                                      generalize wc.drew = w62 at HO_8 HO_73 BK453 BK468 HB hx473_0 hx473_1 hHeld ⊢
                                      refine pure_ (i := 0) (N := some 118) (v := ?_) (a' := ?_) #[true, false, false, false, false, false, false, false, false, false, false] rfl rfl (any_of HT_.out (by kernel_rfl)) (fun _ _ _ h => h) (Or.inl ⟨by rfl, ?_⟩) ?_ ?_
                                      rotate_left
                                      · intro w'
                                        go_simp
                                        with_reducible rfl
                                      rotate_left
                                      · simp only [Act.put, List.setIfInBounds_toArray, List.set_cons_zero, List.set_cons_succ, i64_w, i32_w]
                                        rfl
                                      refine pure_ (i := 1) (N := some 119) (v := ?_) (a' := ?_) #[true, true, false, false, false, false, false, false, false, false, false] rfl rfl (any_of HT_.out (by kernel_rfl)) (fun _ _ _ h => h) (Or.inl ⟨by rfl, ?_⟩) ?_ ?_
                                      rotate_left
                                      · intro w'
                                        go_simp
                                        with_reducible rfl
                                      rotate_left
                                      · simp only [Act.put, List.setIfInBounds_toArray, List.set_cons_zero, List.set_cons_succ, i64_w, i32_w]
                                        rfl
                                      refine pure_ (i := 2) (N := some 120) (v := ?_) (a' := ?_) #[true, true, true, false, false, false, false, false, false, false, false] rfl rfl (any_of HT_.out (by kernel_rfl)) (fun _ _ _ h => h) (Or.inl ⟨by rfl, ?_⟩) ?_ ?_
                                      rotate_left
                                      · intro w'
                                        go_simp
                                        with_reducible rfl
                                      rotate_left
                                      · simp only [Act.put, List.setIfInBounds_toArray, List.set_cons_zero, List.set_cons_succ, i64_w, i32_w]
                                        rfl
                                      refine take_ (i := 3) (N := some 121) (v := ?_) (a' := ?_) #[true, true, true, true, false, false, false, false, false, false, false] rfl rfl (take_ofW HT_.out HW_.out (by kernel_rfl)) (fun _ _ _ h => h) (Or.inl ⟨by rfl, ?_⟩) hHeld ?_ ?_
                                      rotate_left
                                      · rintro w' ⟨s0, s1, s2, s3⟩
                                        go_simp
                                        with_reducible rfl
                                      rotate_left
                                      · simp only [Act.put, List.setIfInBounds_toArray, List.set_cons_zero, List.set_cons_succ, i64_w, i32_w]
                                        rfl
                                      refine take_ (i := 4) (N := some 122) (v := ?_) (a' := ?_) #[true, true, true, true, true, false, false, false, false, false, false] rfl rfl (take_ofW HT_.out HW_.out (by kernel_rfl)) (fun _ _ _ h => h) (Or.inl ⟨by rfl, ?_⟩) hHeld ?_ ?_
                                      rotate_left
                                      · rintro w' ⟨s0, s1, s2, s3⟩
                                        go_simp
                                        with_reducible rfl
                                      rotate_left
                                      · simp only [Act.put, List.setIfInBounds_toArray, List.set_cons_zero, List.set_cons_succ, i64_w, i32_w]
                                        rfl
                                      refine one_ (i := 5) (N := some 123) #[true, true, true, true, true, true, false, false, false, false, false] rfl rfl (one_of HT_.out (by kernel_rfl)) (by decide) (fun K hK => ?_)
                                      refine goes_ Try.func31 (by kernel_rfl) rfl #[.int .i64 a0, .agg #[.int .u64 ((rd_T24 t455 0).f0), .int .u64 ((rd_T24 t455 0).f1)], .agg #[.int .u64 ((rd_T24 t455 x75_2).f0), .int .u64 ((rd_T24 t455 x75_2).f1)]] (by rfl) rfl rfl (by (try simp only [List.map_toArray, List.map_cons, List.map_nil]); first | done | rfl | (simp only [List.length_drop, List.length_take]; rfl)) ?_
                                      with_reducible refine (sub_Touch.calls kj52 a0 ((rd_T24 t455 0).f0) ((rd_T24 t455 0).f1) ((rd_T24 t455 x75_2).f0) ((rd_T24 t455 x75_2).f1) false t475 _ A57.out).mono ?_
                                      rintro e w63 ⟨rfl, hb⟩
                                      have HS2_ := (hb.cell (World.block_lt_of_cell? _ _ (hHeld.2.2.1))).trans (hHeld.2.2.1)
                                      have HS3_ := (hb.cell (World.block_lt_of_cell? _ _ (hHeld.2.2.2))).trans (hHeld.2.2.2)
                                      refine ⟨_, rfl, ?_⟩
                                      have n0_ := Aside0.mk (Kd.R_below (by (with_reducible repeat (first | apply Kd.R_alloc | apply Kd.R_drewN | apply Kd.R_drew)); exact HO_8.out) hb)
                                      have n1_ := Aside0.mk (Kd.R_below (by (with_reducible repeat (first | apply Kd.R_alloc | apply Kd.R_drewN | apply Kd.R_drew)); exact HO_73.out) hb)
                                      have n2_ := Aside0.mk (blk_below (g := gb453) (o := .cells #[.int .u64 a1_0, .int .u64 a1_1] 24 (0, 0)) (by (with_reducible repeat (first | refine blk_drewN ?_ _ | refine blk_drew ?_ | refine blk_alloc ?_ _)); exact BK453.out) hb)
                                      have n3_ := Aside0.mk (blk_below (g := gb468) (o := .cells #[.int .u64 ((rd_T24 t455 x75_2).f0), .int .u64 ((rd_T24 t455 x75_2).f1)] 24 (0, 0)) (by (with_reducible repeat (first | refine blk_drewN ?_ _ | refine blk_drew ?_ | refine blk_alloc ?_ _)); exact BK468.out) hb)
                                      have n4_ := Aside0.mk (below_step (by repeat (first | (with_reducible first | exact HB.out | apply below_alloc | apply pw_below_drewN | apply below_drew1 | refine below_set ?_ GE453.out | refine below_set ?_ GE468.out) | exact HB.out)) hb)
                                      clear HO_8
                                      clear HO_73
                                      clear BK453
                                      clear BK468
                                      clear HB
                                      have HO_8 := n0_
                                      have HO_73 := n1_
                                      have BK453 := n2_
                                      have BK468 := n3_
                                      have HB := n4_
                                      clear n0_ n1_ n2_ n3_ n4_
                                      (try clear hb)
                                      (try clear hb2)
                                      (try clear hk)
                                      (try clear hi)
                                      refine hK.out _ _ ⟨(blk_cell BK468.out 0).trans rfl, (blk_cell BK468.out 1).trans rfl, HS2_, HS3_⟩ (fun hHeld => ?_)
                                      clear hK K
                                      refine norm_ (a' := ?_) ?_ ?_
                                      rotate_left
                                      · show Act.put _ (some 123) _ = _
                                        simp only [Act.put, List.setIfInBounds_toArray, List.set_cons_zero, List.set_cons_succ, i64_w, i32_w]
                                        rfl
                                      refine pure_ (i := 6) (N := some 117) (v := ?_) (a' := ?_) #[true, true, true, true, true, true, true, false, false, false, false] rfl rfl (any_of HT_.out (by kernel_rfl)) (fun _ _ _ h => h) (Or.inl ⟨by rfl, ?_⟩) ?_ ?_
                                      rotate_left
                                      · intro w'
                                        go_simp
                                        with_reducible rfl
                                      rotate_left
                                      · simp only [Act.put, List.setIfInBounds_toArray, List.set_cons_zero, List.set_cons_succ, i64_w, i32_w]
                                        rfl
                                      refine pure_ (i := 7) (N := some 124) (v := ?_) (a' := ?_) #[true, true, true, true, true, true, true, true, false, false, false] rfl rfl (any_of HT_.out (by kernel_rfl)) (fun _ _ _ h => h) (Or.inl ⟨by rfl, ?_⟩) ?_ ?_
                                      rotate_left
                                      · intro w'
                                        go_simp
                                        with_reducible rfl
                                      rotate_left
                                      · simp only [Act.put, List.setIfInBounds_toArray, List.set_cons_zero, List.set_cons_succ, i64_w, i32_w]
                                        rfl
                                      refine pure_ (i := 8) (N := some 125) (v := ?_) (a' := ?_) #[true, true, true, true, true, true, true, true, true, false, false] rfl rfl (any_of HT_.out (by kernel_rfl)) (fun _ _ _ h => h) (Or.inl ⟨by rfl, ?_⟩) ?_ ?_
                                      rotate_left
                                      · intro w'
                                        go_simp
                                        with_reducible rfl
                                      rotate_left
                                      · simp only [Act.put, List.setIfInBounds_toArray, List.set_cons_zero, List.set_cons_succ, i64_w, i32_w]
                                        rfl
                                      refine pure_ (i := 9) (N := some 21) (v := ?_) (a' := ?_) #[true, true, true, true, true, true, true, true, true, true, false] rfl rfl (any_of HT_.out (by kernel_rfl)) (fun _ _ _ h => h) (Or.inl ⟨by rfl, ?_⟩) ?_ ?_
                                      rotate_left
                                      · intro w'
                                        go_simp
                                        with_reducible rfl
                                      rotate_left
                                      · simp only [Act.put, List.setIfInBounds_toArray, List.set_cons_zero, List.set_cons_succ, i64_w, i32_w]
                                        rfl
                                      refine pure_ (i := 10) (N := some 22) (v := ?_) (a' := ?_) #[true, true, true, true, true, true, true, true, true, true, true] rfl rfl (any_of HT_.out (by kernel_rfl)) (fun _ _ _ h => h) (Or.inl ⟨by rfl, ?_⟩) ?_ ?_
                                      rotate_left
                                      · intro w'
                                        go_simp
                                        with_reducible rfl
                                      rotate_left
                                      · simp only [Act.put, List.setIfInBounds_toArray, List.set_cons_zero, List.set_cons_succ, i64_w, i32_w]
                                        rfl
                                      refine done_ (done_of HT_.out (by kernel_rfl)) ?_
                                      try go_wp2
                                      go_roundg kj52
                                      case measure => have := HJ7.out; have := HK2.out; have := HJ37.out; have := HJ52.out; omega
                                      case rel => exact ⟨(x14_52), (wrap64 (x75_2 + 1)), (by first | rfl | (simp; done) | (simp [*]; done)), (by first | rfl | (simp; done) | (simp [*]; done)), H', ⟨by have := HJ7.out; have := HK2.out; have := HJ37.out; have := HJ52.out; omega⟩, ⟨by (with_reducible repeat (first | apply Kd.R_alloc | apply Kd.R_drewN | apply Kd.R_drew)); exact Kd.R_mono HO_8.out (fun _ hk => hk.1)⟩, ⟨by (with_reducible repeat (first | apply Kd.R_alloc | apply Kd.R_drewN | apply Kd.R_drew)); exact Kd.R_mono HO_73.out (fun _ hk => hk.1)⟩, ⟨by (with_reducible repeat (first | refine blk_drewN ?_ _ | refine blk_drew ?_ | refine blk_alloc ?_ _)); exact BK453.out⟩, ⟨by repeat (first | (with_reducible first | exact HB.out | apply below_alloc | apply pw_below_drewN | apply below_drew1 | refine below_set ?_ GE453.out | refine below_set ?_ GE468.out) | exact HB.out)⟩⟩
                                  · rw [if_neg c58] at H
                                    have c58b0 : (t475 == 0) = false := beq_eq_false_iff_ne.mpr c58
                                    have c58b1 : (t475 != 0) = true := bne_iff_ne.mpr c58
                                    obtain rfl := Option.some.inj H
                                    try go_wp2
                                    have n0_ := Aside0.mk (Kd.R_drew HO_8.out)
                                    have n1_ := Aside0.mk (Kd.R_drew HO_73.out)
                                    have n2_ := Aside0.mk (blk_drew BK453.out)
                                    have n3_ := Aside0.mk (blk_drew BK468.out)
                                    have n4_ := Aside0.mk (below_drew1 HB.out)
                                    clear HO_8
                                    clear HO_73
                                    clear BK453
                                    clear BK468
                                    clear HB
                                    have HO_8 := n0_
                                    have HO_73 := n1_
                                    have BK453 := n2_
                                    have BK468 := n3_
                                    have HB := n4_
                                    clear n0_ n1_ n2_ n3_ n4_
                                    have p473 : 0 ≤ (0 : Int) := (by omega)
                                    have q473 : 0 < (t455.length : Int) := of_decide_eq_true (by first | (with_reducible assumption) | assumption)
                                    obtain ⟨ad473, e473, hx473_0, hx473_1⟩ := at_T24 (Kd.R_reads' HO_8.out).2.2 0 p473 q473
                                    obtain rfl : ad467 = ad473 := (by injection e473)
                                    have qi473 : (0 < t455.length) = True := eq_true (by omega)
                                    (try rw [show ((0 : Int)).toNat = 0 from rfl] at hx473_0)
                                    (try rw [show 0 * 2 = 0 from rfl] at hx473_0)
                                    (try rw [Addr.add_zero'] at hx473_0)
                                    (try rw [show ((0 : Int)).toNat = 0 from rfl] at hx473_1)
                                    (try rw [show 0 * 2 = 0 from rfl] at hx473_1)
                                    (try rw [Addr.add_zero'] at hx473_1)
                                    replace p473 := eq_true p473
                                    replace q473 := eq_true q473
                                    refine start_ (n := 11) (S := fun w' => w'.cell? ⟨gb468, 0, none⟩ = some (.int .u64 ((rd_T24 t455 x75_2).f0)) ∧ w'.cell? ⟨gb468, 1, none⟩ = some (.int .u64 ((rd_T24 t455 x75_2).f1)) ∧ w'.cell? ad467 = some (.int .u64 ((rd_T24 t455 0).f0)) ∧ w'.cell? ⟨ad467.block, ad467.off + 1, none⟩ = some (.int .u64 ((rd_T24 t455 0).f1))) (ds := []) #[false, false, false, false, false, false, false, false, false, false, false] (by kernel_rfl) rfl rfl ⟨(blk_cell BK468.out 0).trans rfl, (blk_cell BK468.out 1).trans rfl, hx473_0, hx473_1⟩ (fun hHeld => ?_); refine with_tabW medlarlaw08_SubSplits.tab19 medlarlaw08_SubSplits.bits19 (fun HT_ HW_ => ?_)
                                    generalize wc.drew = w64 at HO_8 HO_73 BK453 BK468 HB hx473_0 hx473_1 hHeld ⊢
                                    refine pure_ (i := 0) (N := some 118) (v := ?_) (a' := ?_) #[true, false, false, false, false, false, false, false, false, false, false] rfl rfl (any_of HT_.out (by kernel_rfl)) (fun _ _ _ h => h) (Or.inl ⟨by rfl, ?_⟩) ?_ ?_
                                    rotate_left
                                    · intro w'
                                      go_simp
                                      with_reducible rfl
                                    rotate_left
                                    · simp only [Act.put, List.setIfInBounds_toArray, List.set_cons_zero, List.set_cons_succ, i64_w, i32_w]
                                      rfl
                                    refine pure_ (i := 1) (N := some 119) (v := ?_) (a' := ?_) #[true, true, false, false, false, false, false, false, false, false, false] rfl rfl (any_of HT_.out (by kernel_rfl)) (fun _ _ _ h => h) (Or.inl ⟨by rfl, ?_⟩) ?_ ?_
                                    rotate_left
                                    · intro w'
                                      go_simp
                                      with_reducible rfl
                                    rotate_left
                                    · simp only [Act.put, List.setIfInBounds_toArray, List.set_cons_zero, List.set_cons_succ, i64_w, i32_w]
                                      rfl
                                    refine pure_ (i := 2) (N := some 120) (v := ?_) (a' := ?_) #[true, true, true, false, false, false, false, false, false, false, false] rfl rfl (any_of HT_.out (by kernel_rfl)) (fun _ _ _ h => h) (Or.inl ⟨by rfl, ?_⟩) ?_ ?_
                                    rotate_left
                                    · intro w'
                                      go_simp
                                      with_reducible rfl
                                    rotate_left
                                    · simp only [Act.put, List.setIfInBounds_toArray, List.set_cons_zero, List.set_cons_succ, i64_w, i32_w]
                                      rfl
                                    refine take_ (i := 3) (N := some 121) (v := ?_) (a' := ?_) #[true, true, true, true, false, false, false, false, false, false, false] rfl rfl (take_ofW HT_.out HW_.out (by kernel_rfl)) (fun _ _ _ h => h) (Or.inl ⟨by rfl, ?_⟩) hHeld ?_ ?_
                                    rotate_left
                                    · rintro w' ⟨s0, s1, s2, s3⟩
                                      go_simp
                                      with_reducible rfl
                                    rotate_left
                                    · simp only [Act.put, List.setIfInBounds_toArray, List.set_cons_zero, List.set_cons_succ, i64_w, i32_w]
                                      rfl
                                    refine take_ (i := 4) (N := some 122) (v := ?_) (a' := ?_) #[true, true, true, true, true, false, false, false, false, false, false] rfl rfl (take_ofW HT_.out HW_.out (by kernel_rfl)) (fun _ _ _ h => h) (Or.inl ⟨by rfl, ?_⟩) hHeld ?_ ?_
                                    rotate_left
                                    · rintro w' ⟨s0, s1, s2, s3⟩
                                      go_simp
                                      with_reducible rfl
                                    rotate_left
                                    · simp only [Act.put, List.setIfInBounds_toArray, List.set_cons_zero, List.set_cons_succ, i64_w, i32_w]
                                      rfl
                                    refine one_ (i := 5) (N := some 123) #[true, true, true, true, true, true, false, false, false, false, false] rfl rfl (one_of HT_.out (by kernel_rfl)) (by decide) (fun K hK => ?_)
                                    refine goes_ Try.func31 (by kernel_rfl) rfl #[.int .i64 a0, .agg #[.int .u64 ((rd_T24 t455 0).f0), .int .u64 ((rd_T24 t455 0).f1)], .agg #[.int .u64 ((rd_T24 t455 x75_2).f0), .int .u64 ((rd_T24 t455 x75_2).f1)]] (by rfl) rfl rfl (by (try simp only [List.map_toArray, List.map_cons, List.map_nil]); first | done | rfl | (simp only [List.length_drop, List.length_take]; rfl)) ?_
                                    with_reducible refine (sub_Touch.calls kj52 a0 ((rd_T24 t455 0).f0) ((rd_T24 t455 0).f1) ((rd_T24 t455 x75_2).f0) ((rd_T24 t455 x75_2).f1) t474 t475 _ A57.out).mono ?_
                                    rintro e w65 ⟨rfl, hb⟩
                                    have HS2_ := (hb.cell (World.block_lt_of_cell? _ _ (hHeld.2.2.1))).trans (hHeld.2.2.1)
                                    have HS3_ := (hb.cell (World.block_lt_of_cell? _ _ (hHeld.2.2.2))).trans (hHeld.2.2.2)
                                    refine ⟨_, rfl, ?_⟩
                                    have n0_ := Aside0.mk (Kd.R_below (by (with_reducible repeat (first | apply Kd.R_alloc | apply Kd.R_drewN | apply Kd.R_drew)); exact HO_8.out) hb)
                                    have n1_ := Aside0.mk (Kd.R_below (by (with_reducible repeat (first | apply Kd.R_alloc | apply Kd.R_drewN | apply Kd.R_drew)); exact HO_73.out) hb)
                                    have n2_ := Aside0.mk (blk_below (g := gb453) (o := .cells #[.int .u64 a1_0, .int .u64 a1_1] 24 (0, 0)) (by (with_reducible repeat (first | refine blk_drewN ?_ _ | refine blk_drew ?_ | refine blk_alloc ?_ _)); exact BK453.out) hb)
                                    have n3_ := Aside0.mk (blk_below (g := gb468) (o := .cells #[.int .u64 ((rd_T24 t455 x75_2).f0), .int .u64 ((rd_T24 t455 x75_2).f1)] 24 (0, 0)) (by (with_reducible repeat (first | refine blk_drewN ?_ _ | refine blk_drew ?_ | refine blk_alloc ?_ _)); exact BK468.out) hb)
                                    have n4_ := Aside0.mk (below_step (by repeat (first | (with_reducible first | exact HB.out | apply below_alloc | apply pw_below_drewN | apply below_drew1 | refine below_set ?_ GE453.out | refine below_set ?_ GE468.out) | exact HB.out)) hb)
                                    clear HO_8
                                    clear HO_73
                                    clear BK453
                                    clear BK468
                                    clear HB
                                    have HO_8 := n0_
                                    have HO_73 := n1_
                                    have BK453 := n2_
                                    have BK468 := n3_
                                    have HB := n4_
                                    clear n0_ n1_ n2_ n3_ n4_
                                    (try clear hb)
                                    (try clear hb2)
                                    (try clear hk)
                                    (try clear hi)
                                    refine hK.out _ _ ⟨(blk_cell BK468.out 0).trans rfl, (blk_cell BK468.out 1).trans rfl, HS2_, HS3_⟩ (fun hHeld => ?_)
                                    clear hK K
                                    refine norm_ (a' := ?_) ?_ ?_
                                    rotate_left
                                    · show Act.put _ (some 123) _ = _
                                      simp only [Act.put, List.setIfInBounds_toArray, List.set_cons_zero, List.set_cons_succ, i64_w, i32_w]
                                      rfl
                                    refine pure_ (i := 6) (N := some 117) (v := ?_) (a' := ?_) #[true, true, true, true, true, true, true, false, false, false, false] rfl rfl (any_of HT_.out (by kernel_rfl)) (fun _ _ _ h => h) (Or.inl ⟨by rfl, ?_⟩) ?_ ?_
                                    rotate_left
                                    · intro w'
                                      go_simp
                                      with_reducible rfl
                                    rotate_left
                                    · simp only [Act.put, List.setIfInBounds_toArray, List.set_cons_zero, List.set_cons_succ, i64_w, i32_w]
                                      rfl
                                    refine pure_ (i := 7) (N := some 124) (v := ?_) (a' := ?_) #[true, true, true, true, true, true, true, true, false, false, false] rfl rfl (any_of HT_.out (by kernel_rfl)) (fun _ _ _ h => h) (Or.inl ⟨by rfl, ?_⟩) ?_ ?_
                                    rotate_left
                                    · intro w'
                                      go_simp
                                      with_reducible rfl
                                    rotate_left
                                    · simp only [Act.put, List.setIfInBounds_toArray, List.set_cons_zero, List.set_cons_succ, i64_w, i32_w]
                                      rfl
                                    refine pure_ (i := 8) (N := some 125) (v := ?_) (a' := ?_) #[true, true, true, true, true, true, true, true, true, false, false] rfl rfl (any_of HT_.out (by kernel_rfl)) (fun _ _ _ h => h) (Or.inl ⟨by rfl, ?_⟩) ?_ ?_
                                    rotate_left
                                    · intro w'
                                      go_simp
                                      with_reducible rfl
                                    rotate_left
                                    · simp only [Act.put, List.setIfInBounds_toArray, List.set_cons_zero, List.set_cons_succ, i64_w, i32_w]
                                      rfl
                                    refine pure_ (i := 9) (N := some 21) (v := ?_) (a' := ?_) #[true, true, true, true, true, true, true, true, true, true, false] rfl rfl (any_of HT_.out (by kernel_rfl)) (fun _ _ _ h => h) (Or.inl ⟨by rfl, ?_⟩) ?_ ?_
                                    rotate_left
                                    · intro w'
                                      go_simp
                                      with_reducible rfl
                                    rotate_left
                                    · simp only [Act.put, List.setIfInBounds_toArray, List.set_cons_zero, List.set_cons_succ, i64_w, i32_w]
                                      rfl
                                    refine pure_ (i := 10) (N := some 22) (v := ?_) (a' := ?_) #[true, true, true, true, true, true, true, true, true, true, true] rfl rfl (any_of HT_.out (by kernel_rfl)) (fun _ _ _ h => h) (Or.inl ⟨by rfl, ?_⟩) ?_ ?_
                                    rotate_left
                                    · intro w'
                                      go_simp
                                      with_reducible rfl
                                    rotate_left
                                    · simp only [Act.put, List.setIfInBounds_toArray, List.set_cons_zero, List.set_cons_succ, i64_w, i32_w]
                                      rfl
                                    refine done_ (done_of HT_.out (by kernel_rfl)) ?_
                                    try go_wp2
                                    go_ret
                                    exact ⟨by first | rfl | (simp [errW_none, errW_some] <;> rfl) | (simp [*, errW_none, errW_some] <;> rfl), by repeat (first | (with_reducible first | exact HB.out | apply below_alloc | apply pw_below_drewN | apply below_drew1 | refine below_set ?_ GE453.out | refine below_set ?_ GE468.out) | exact HB.out)⟩
                                · rw [if_neg c56] at H
                                  exact absurd H (by simp)
                              · rw [if_neg c55] at H
                                have c55b0 : decide (0 < x75_2) = false := decide_eq_false c55
                                clear c55
                                have H' := Aside0.mk H
                                clear H
                                go_wp2
                                go_roundg kj52
                                case measure => have := HJ7.out; have := HK2.out; have := HJ37.out; have := HJ52.out; omega
                                case rel => exact ⟨(x14_52), (wrap64 (x75_2 + 1)), (by first | rfl | (simp; done) | (simp [*]; done)), (by first | rfl | (simp; done) | (simp [*]; done)), H', ⟨by have := HJ7.out; have := HK2.out; have := HJ37.out; have := HJ52.out; omega⟩, ⟨by (with_reducible repeat (first | apply Kd.R_alloc | apply Kd.R_drewN | apply Kd.R_drew)); exact Kd.R_mono HO_8.out (fun _ hk => hk.1)⟩, ⟨by (with_reducible repeat (first | apply Kd.R_alloc | apply Kd.R_drewN | apply Kd.R_drew)); exact Kd.R_mono HO_73.out (fun _ hk => hk.1)⟩, ⟨by (with_reducible repeat (first | refine blk_drewN ?_ _ | refine blk_drew ?_ | refine blk_alloc ?_ _)); exact BK453.out⟩, ⟨by repeat (first | (with_reducible first | exact HB.out | apply below_alloc | apply pw_below_drewN | apply below_drew1 | refine below_set ?_ GE453.out | refine below_set ?_ GE468.out) | exact HB.out)⟩⟩
                  · rw [if_neg c35] at H
                    exact absurd H (by simp)
                · rw [if_neg c34] at H
                  exact absurd H (by simp)
              · rw [if_neg c33] at H
                have c33b0 : decide (x75_2 < (t455.length : Int)) = false := decide_eq_false c33
                clear c33
                by_cases c66 : t454 = true
                · subst c66
                  have H1 : (some (x14_2 == t465)) = some r := by rw [if_pos rfl] at H; exact H
                  clear H
                  have H := H1
                  clear H1
                  obtain rfl := Option.some.inj H
                  go_wp2
                  go_ret
                  exact ⟨by first | rfl | (simp [errW_none, errW_some] <;> rfl) | (simp [*, errW_none, errW_some] <;> rfl), by repeat (first | (with_reducible first | exact HB.out | apply below_alloc | apply pw_below_drewN | apply below_drew1 | refine below_set ?_ GE453.out) | exact HB.out)⟩
                · replace c66 := Bool.eq_false_iff.mpr c66
                  subst c66
                  have H1 : (some false) = some r := by rw [if_neg (show ¬ (false = true) by decide)] at H; exact H
                  clear H
                  have H := H1
                  clear H1
                  obtain rfl := Option.some.inj H
                  go_wp2
                  go_ret
                  exact ⟨by first | rfl | (simp [errW_none, errW_some] <;> rfl) | (simp [*, errW_none, errW_some] <;> rfl), by repeat (first | (with_reducible first | exact HB.out | apply below_alloc | apply pw_below_drewN | apply below_drew1 | refine below_set ?_ GE453.out) | exact HB.out)⟩
  · rw [if_neg c6] at H
    have c6b0 : (t458 == 0) = false := beq_eq_false_iff_ne.mpr c6
    have c6b1 : (t458 != 0) = true := bne_iff_ne.mpr c6
    by_cases c67 : t454 = true
    · subst c67
      have H1 : (some ((t455.length : Int) == 0)) = some r := by rw [if_pos rfl] at H; exact H
      clear H
      have H := H1
      clear H1
      obtain rfl := Option.some.inj H
      go_enter Try.func10, Try.ntmps10
      go_wp2_with (first | ((with_reducible refine gate_dst (N := 4) rfl ?_); (try (refine gate_guard (by rfl) ?_; dsimp only)); refine box_event ?hg (N := 4) ?hd (cs := #[.int .u64 a1_0, .int .u64 a1_1]) (t := 24) ?hr ?_; (case hd => rfl); (case hg => rfl); (case hr => first | (go_simp; done) | (go_simp; rfl)); intro gb453 hg w68 hbox hb; have n0_ := Aside0.mk (below_step (by repeat (first | (with_reducible first | exact HB.out | apply below_alloc | apply pw_below_drewN | apply below_drew1) | exact HB.out)) hb); have n1_ := Aside0.mk (hbox); have n2_ := Aside0.mk ((by rw [hg]; exact (below_size (by repeat (first | (with_reducible first | exact HB.out | apply below_alloc | apply pw_below_drewN | apply below_drew1) | exact HB.out))) : w.heap.size ≤ gb453)); have n3_ := Aside0.mk ((by rw [hg]; exact (below_size (by repeat (first | (with_reducible first | exact HB.out | apply below_alloc | apply pw_below_drewN | apply below_drew1) | exact HB.out))) : w.heap.size ≤ gb453)); clear HB; have HB := n0_; have BK453 := n1_; have GW453 := n2_; have GE453 := n3_; clear n0_ n1_ n2_ n3_; clear hb hbox hg) | ((with_reducible refine gate_callee (f := 14) rfl ?_); refine goesL_ (some 23) rfl rfl Try.func14 (by kernel_rfl) rfl #[] rfl (by (try simp only [List.map_toArray, List.map_cons, List.map_nil]); first | done | rfl | (simp only [List.length_drop, List.length_take]; rfl)) ?_; (with_reducible refine (medlarlaw08_live.calls k  true _ A4.out).mono ?_); rintro e w69 ⟨rfl, hb⟩; refine ⟨_, rfl, ?_⟩; have n0_ := Aside0.mk (blk_below (g := gb453) (o := .cells #[.int .u64 a1_0, .int .u64 a1_1] 24 (0, 0)) (by (with_reducible repeat (first | refine blk_drewN ?_ _ | refine blk_drew ?_ | refine blk_alloc ?_ _)); exact BK453.out) hb); have n1_ := Aside0.mk (below_step (by repeat (first | (with_reducible first | exact HB.out | apply below_alloc | apply pw_below_drewN | apply below_drew1 | refine below_set ?_ GE453.out) | exact HB.out)) hb); clear BK453; clear HB; have BK453 := n0_; have HB := n1_; clear n0_ n1_; (try clear hb); (try clear hb2); (try clear hk); (try clear hi); have hcz70_0 : w69.cell? ⟨gb453, 0, none⟩ = some (.int .u64 a1_0) := (blk_cell BK453.out 0).trans rfl; have hcz70_1 : w69.cell? ⟨gb453, 1, none⟩ = some (.int .u64 a1_1) := (blk_cell BK453.out 1).trans rfl; have hfz70_0 := blk_frozen BK453.out 0; have hfz70_1 := blk_frozen BK453.out 1) | ((with_reducible refine gate_callee (f := 19) rfl ?_); refine goesL_ (some 27) rfl rfl Try.func19 (by kernel_rfl) rfl #[.int .i64 a0, .agg #[.int .u64 a1_0, .int .u64 a1_1]] rfl (by (try simp only [List.map_toArray, List.map_cons, List.map_nil]); first | done | rfl | (simp only [List.length_drop, List.length_take]; rfl)) ?_; (with_reducible refine (sub_Split.calls k a0 a1_0 a1_1 t455 t458 _ A5.out).mono ?_); rintro e w71 ⟨v456, rfl, ho0, hb⟩; refine ⟨_, rfl, ?_⟩; have n0_ := Aside0.mk (Kd.R_lower (Kd.R_newB ho0 (g := gb453) (o := .cells #[.int .u64 a1_0, .int .u64 a1_1] 24 (0, 0)) (by (with_reducible repeat (first | refine blk_drewN ?_ _ | refine blk_drew ?_ | refine blk_alloc ?_ _)); exact BK453.out)) (below_size (by repeat (first | (with_reducible first | exact HB.out | apply below_alloc | apply pw_below_drewN | apply below_drew1 | refine below_set ?_ GE453.out) | exact HB.out)))); have n1_ := Aside0.mk (blk_below (g := gb453) (o := .cells #[.int .u64 a1_0, .int .u64 a1_1] 24 (0, 0)) (by (with_reducible repeat (first | refine blk_drewN ?_ _ | refine blk_drew ?_ | refine blk_alloc ?_ _)); exact BK453.out) hb); have n2_ := Aside0.mk (below_step (by repeat (first | (with_reducible first | exact HB.out | apply below_alloc | apply pw_below_drewN | apply below_drew1 | refine below_set ?_ GE453.out) | exact HB.out)) hb); clear BK453; clear HB; have HO457 := n0_; have BK453 := n1_; have HB := n2_; clear n0_ n1_ n2_; (try clear hb); (try clear hb2); (try clear hk); (try clear hi); (try clear ho0); obtain ⟨Ao72, co72, eo72⟩ := Kd.R_slice HO457.out; subst eo72))
      go_ret
      exact ⟨by first | rfl | (simp [errW_none, errW_some] <;> rfl) | (simp [*, errW_none, errW_some] <;> rfl), by repeat (first | (with_reducible first | exact HB.out | apply below_alloc | apply pw_below_drewN | apply below_drew1 | refine below_set ?_ GE453.out) | exact HB.out)⟩
    · replace c67 := Bool.eq_false_iff.mpr c67
      subst c67
      have H1 : (some false) = some r := by rw [if_neg (show ¬ (false = true) by decide)] at H; exact H
      clear H
      have H := H1
      clear H1
      obtain rfl := Option.some.inj H
      go_enter Try.func10, Try.ntmps10
      go_wp2_with (first | ((with_reducible refine gate_dst (N := 4) rfl ?_); (try (refine gate_guard (by rfl) ?_; dsimp only)); refine box_event ?hg (N := 4) ?hd (cs := #[.int .u64 a1_0, .int .u64 a1_1]) (t := 24) ?hr ?_; (case hd => rfl); (case hg => rfl); (case hr => first | (go_simp; done) | (go_simp; rfl)); intro gb453 hg w73 hbox hb; have n0_ := Aside0.mk (below_step (by repeat (first | (with_reducible first | exact HB.out | apply below_alloc | apply pw_below_drewN | apply below_drew1) | exact HB.out)) hb); have n1_ := Aside0.mk (hbox); have n2_ := Aside0.mk ((by rw [hg]; exact (below_size (by repeat (first | (with_reducible first | exact HB.out | apply below_alloc | apply pw_below_drewN | apply below_drew1) | exact HB.out))) : w.heap.size ≤ gb453)); have n3_ := Aside0.mk ((by rw [hg]; exact (below_size (by repeat (first | (with_reducible first | exact HB.out | apply below_alloc | apply pw_below_drewN | apply below_drew1) | exact HB.out))) : w.heap.size ≤ gb453)); clear HB; have HB := n0_; have BK453 := n1_; have GW453 := n2_; have GE453 := n3_; clear n0_ n1_ n2_ n3_; clear hb hbox hg) | ((with_reducible refine gate_callee (f := 14) rfl ?_); refine goesL_ (some 23) rfl rfl Try.func14 (by kernel_rfl) rfl #[] rfl (by (try simp only [List.map_toArray, List.map_cons, List.map_nil]); first | done | rfl | (simp only [List.length_drop, List.length_take]; rfl)) ?_; (with_reducible refine (medlarlaw08_live.calls k  false _ A4.out).mono ?_); rintro e w74 ⟨rfl, hb⟩; refine ⟨_, rfl, ?_⟩; have n0_ := Aside0.mk (blk_below (g := gb453) (o := .cells #[.int .u64 a1_0, .int .u64 a1_1] 24 (0, 0)) (by (with_reducible repeat (first | refine blk_drewN ?_ _ | refine blk_drew ?_ | refine blk_alloc ?_ _)); exact BK453.out) hb); have n1_ := Aside0.mk (below_step (by repeat (first | (with_reducible first | exact HB.out | apply below_alloc | apply pw_below_drewN | apply below_drew1 | refine below_set ?_ GE453.out) | exact HB.out)) hb); clear BK453; clear HB; have BK453 := n0_; have HB := n1_; clear n0_ n1_; (try clear hb); (try clear hb2); (try clear hk); (try clear hi); have hcz75_0 : w74.cell? ⟨gb453, 0, none⟩ = some (.int .u64 a1_0) := (blk_cell BK453.out 0).trans rfl; have hcz75_1 : w74.cell? ⟨gb453, 1, none⟩ = some (.int .u64 a1_1) := (blk_cell BK453.out 1).trans rfl; have hfz75_0 := blk_frozen BK453.out 0; have hfz75_1 := blk_frozen BK453.out 1) | ((with_reducible refine gate_callee (f := 19) rfl ?_); refine goesL_ (some 27) rfl rfl Try.func19 (by kernel_rfl) rfl #[.int .i64 a0, .agg #[.int .u64 a1_0, .int .u64 a1_1]] rfl (by (try simp only [List.map_toArray, List.map_cons, List.map_nil]); first | done | rfl | (simp only [List.length_drop, List.length_take]; rfl)) ?_; (with_reducible refine (sub_Split.calls k a0 a1_0 a1_1 t455 t458 _ A5.out).mono ?_); rintro e w76 ⟨v456, rfl, ho0, hb⟩; refine ⟨_, rfl, ?_⟩; have n0_ := Aside0.mk (Kd.R_lower (Kd.R_newB ho0 (g := gb453) (o := .cells #[.int .u64 a1_0, .int .u64 a1_1] 24 (0, 0)) (by (with_reducible repeat (first | refine blk_drewN ?_ _ | refine blk_drew ?_ | refine blk_alloc ?_ _)); exact BK453.out)) (below_size (by repeat (first | (with_reducible first | exact HB.out | apply below_alloc | apply pw_below_drewN | apply below_drew1 | refine below_set ?_ GE453.out) | exact HB.out)))); have n1_ := Aside0.mk (blk_below (g := gb453) (o := .cells #[.int .u64 a1_0, .int .u64 a1_1] 24 (0, 0)) (by (with_reducible repeat (first | refine blk_drewN ?_ _ | refine blk_drew ?_ | refine blk_alloc ?_ _)); exact BK453.out) hb); have n2_ := Aside0.mk (below_step (by repeat (first | (with_reducible first | exact HB.out | apply below_alloc | apply pw_below_drewN | apply below_drew1 | refine below_set ?_ GE453.out) | exact HB.out)) hb); clear BK453; clear HB; have HO457 := n0_; have BK453 := n1_; have HB := n2_; clear n0_ n1_ n2_; (try clear hb); (try clear hb2); (try clear hk); (try clear hi); (try clear ho0)))
      go_ret
      exact ⟨by first | rfl | (simp [errW_none, errW_some] <;> rfl) | (simp [*, errW_none, errW_some] <;> rfl), by repeat (first | (with_reducible first | exact HB.out | apply below_alloc | apply pw_below_drewN | apply below_drew1 | refine below_set ?_ GE453.out) | exact HB.out)⟩

/-- THE ONE PURE STATEMENT of medlarlaw08_SubSplits: yours. -/
def medlarlaw08_SubSplits.Pure : Prop := ∀ (a0 : Int) (a1_0 : Int) (a1_1 : Int) (a2 : Int), (Lit.int .i64 a0).wf = true → (Lit.int .u64 a1_0).wf = true → (Lit.int .u64 a1_1).wf = true → (Lit.int .u64 a2).wf = true → ∃ k, medlarlaw08_SubSplits.f k a0 a1_0 a1_1 a2 = some true
theorem medlarlaw08_SubSplits.walk (P : medlarlaw08_SubSplits.Pure) (a0 : Int) (a1_0 : Int) (a1_1 : Int) (a2 : Int) (w : World) (w0 : (Lit.int .i64 a0).wf = true) (w1_0 : (Lit.int .u64 a1_0).wf = true) (w1_1 : (Lit.int .u64 a1_1).wf = true) (w2 : (Lit.int .u64 a2).wf = true) :
    Calls Try.prog 10 #[.int .i64 a0, .agg #[.int .u64 a1_0, .int .u64 a1_1], .int .u64 a2] w fun e w' => e = .returned (.bool true) ∧ Below w.heap.size w w' := by
  obtain ⟨k, h⟩ := P a0 a1_0 a1_1 a2 w0 w1_0 w1_1 w2
  refine (medlarlaw08_SubSplits.calls k a0 a1_0 a1_1 a2 true w h).mono ?_
  rintro e w' ⟨rfl, hd⟩
  exact ⟨rfl, hd⟩

end Go.Proofs.Ytmaaibcnfhbajaa.MP
