-- written by a program of this session (wip/tools/mprint.sh) for this seat
import Derived.Test.YtmaaibcnfhbajaaMPx0
import Derived.Test.YtmaaibcnfhbajaaMPx3
import Derived.Test.YtmaaibcnfhbajaaMPx14
import Derived.Test.YtmaaibcnfhbajaaMPx16
import Derived.Test.YtmaaibcnfhbajaaMPx21
namespace Go.Proofs.Ytmaaibcnfhbajaa.MP
open Go.RowKit Go.Proofs.YtmaaibcnfhbajaaW.PrintWords Go.Proofs.YtmaaibcnfhbajaaW.PrintLast Go.Proofs.YtmaaibcnfhbajaaW.PrintMore
attribute [local go_sem] max2_int min2_int max_two min_two max_three min_three max_four min_four   -- for this text's walks alone
set_option linter.unusedVariables false
set_option linter.unusedSimpArgs false

/-! ### medlarlaw08_SubTouches: function 11 -/
mutual
def medlarlaw08_SubTouches.j0 : Nat → Int → Int → Bool → Bool → Bool → Int → Int → Int → Int → Option (Bool)
  | 0, _, _, _, _, _, _, _, _, _ => none
  | k + 1, x0, x3, x9, x10, x74, x477000, x477001, x478000, x478001 => if x74 = true then (some false) else ((sub_Has.f k x0 x477000 x477001 x3).bind fun bt485 => ((sub_Has.f k x0 x478000 x478001 x3).bind fun bt487 => (if bt485.2 = 0 then (if bt487.2 = 0 then (if bt485.1 = true then (if bt487.1 = true then (medlarlaw08_SubTouches.j1 k x0 x9 x10 (!x10) x477000 x477001 x478000 x478001) else (medlarlaw08_SubTouches.j1 k x0 x9 x10 false x477000 x477001 x478000 x478001)) else (medlarlaw08_SubTouches.j1 k x0 x9 x10 false x477000 x477001 x478000 x478001)) else (medlarlaw08_SubTouches.j1 k x0 x9 x10 false x477000 x477001 x478000 x478001)) else (medlarlaw08_SubTouches.j1 k x0 x9 x10 false x477000 x477001 x478000 x478001))))
def medlarlaw08_SubTouches.j1 : Nat → Int → Bool → Bool → Bool → Int → Int → Int → Int → Option (Bool)
  | 0, _, _, _, _, _, _, _, _ => none
  | k + 1, x0, x9, x10, x104, x477000, x477001, x478000, x478001 => if x104 = true then (some false) else ((sub_Leaves.f k x0 x477000 x477001).bind fun bt489 => ((sub_Leaves.f k x0 x478000 x478001).bind fun bt493 => (if bt489.2 = 0 then (medlarlaw08_SubTouches.j2 k x0 x9 x10 bt489.1 bt493.1 (bt493.2 != 0) x477000 x477001 x478000 x478001) else (medlarlaw08_SubTouches.j2 k x0 x9 x10 bt489.1 bt493.1 true x477000 x477001 x478000 x478001))))
def medlarlaw08_SubTouches.j2 : Nat → Int → Bool → Bool → List (S50) → List (S50) → Bool → Int → Int → Int → Int → Option (Bool)
  | 0, _, _, _, _, _, _, _, _, _, _ => none
  | k + 1, x0, x9, x10, x20, x22, x122, x477000, x477001, x478000, x478001 => if x122 = true then (some false) else (if ([] : List (S50)).length + x20.length < 8796093022208 then ((some (([] : List (S50)) ++ x20 : List (S50))).bind fun y497 => (if y497.length + x22.length < 8796093022208 then ((some (y497 ++ x22 : List (S50))).bind fun y500 => (medlarlaw08_SubTouches.l0 k x0 x9 x10 false y500 (y500.length : Int) 0 x477000 x477001 x478000 x478001)) else (none))) else (none))
def medlarlaw08_SubTouches.l0 : Nat → Int → Bool → Bool → Bool → List (S50) → Int → Int → Int → Int → Int → Int → Option (Bool)
  | 0, _, _, _, _, _, _, _, _, _, _, _ => none
  | k + 1, x0, x9, x10, x24, x126, x127, x128, x477000, x477001, x478000, x478001 => if x128 < x127 then (if 0 ≤ x128 then (if x128 < (x126.length : Int) then ((sub_Has.f k x0 x477000 x477001 ((rd_T50 x126 x128).f0)).bind fun bt505 => ((sub_Has.f k x0 x478000 x478001 ((rd_T50 x126 x128).f0)).bind fun bt507 => (if bt505.2 = 0 then (if bt507.2 = 0 then (if x24 = true then (medlarlaw08_SubTouches.l0 k x0 x9 x10 true x126 x127 (wrap64 (x128 + 1)) x477000 x477001 x478000 x478001) else (if bt505.1 = true then (medlarlaw08_SubTouches.l0 k x0 x9 x10 bt507.1 x126 x127 (wrap64 (x128 + 1)) x477000 x477001 x478000 x478001) else (medlarlaw08_SubTouches.l0 k x0 x9 x10 false x126 x127 (wrap64 (x128 + 1)) x477000 x477001 x478000 x478001))) else (some false)) else (some false)))) else (none)) else (none)) else (if x9 = true then (some (x24 == x10)) else (some false))
end
def medlarlaw08_SubTouches.f (k : Nat) (a0 : Int) (a1_0 : Int) (a1_1 : Int) (a2_0 : Int) (a2_1 : Int) (a3 : Int) : Option (Bool) := (medlarlaw08_live.f k).bind fun t478 => ((sub_Touch.f k a0 a1_0 a1_1 a2_0 a2_1).bind fun bt479 => (if bt479.2 = 0 then ((sub_Touch.f k a0 a2_0 a2_1 a1_0 a1_1).bind fun bt481 => ((sub_Touch.f k a0 a1_0 a1_1 a1_0 a1_1).bind fun bt483 => (if bt481.2 = 0 then (if bt483.2 = 0 then (if (bt481.1 != bt479.1) = true then (medlarlaw08_SubTouches.j0 k a0 a3 t478 bt479.1 true a1_0 a1_1 a2_0 a2_1) else (medlarlaw08_SubTouches.j0 k a0 a3 t478 bt479.1 (!bt483.1) a1_0 a1_1 a2_0 a2_1)) else (medlarlaw08_SubTouches.j0 k a0 a3 t478 bt479.1 true a1_0 a1_1 a2_0 a2_1)) else (medlarlaw08_SubTouches.j0 k a0 a3 t478 bt479.1 true a1_0 a1_1 a2_0 a2_1)))) else (if t478 = true then (some (!bt479.1)) else (some false))))
theorem medlarlaw08_SubTouches.mono_l : ∀ k, (∀ y0 y1 y2 y3 y4 y5 y6 y7 y8, LeO (medlarlaw08_SubTouches.j0 k y0 y1 y2 y3 y4 y5 y6 y7 y8) (medlarlaw08_SubTouches.j0 (k + 1) y0 y1 y2 y3 y4 y5 y6 y7 y8)) ∧ (∀ y0 y1 y2 y3 y4 y5 y6 y7, LeO (medlarlaw08_SubTouches.j1 k y0 y1 y2 y3 y4 y5 y6 y7) (medlarlaw08_SubTouches.j1 (k + 1) y0 y1 y2 y3 y4 y5 y6 y7)) ∧ (∀ y0 y1 y2 y3 y4 y5 y6 y7 y8 y9, LeO (medlarlaw08_SubTouches.j2 k y0 y1 y2 y3 y4 y5 y6 y7 y8 y9) (medlarlaw08_SubTouches.j2 (k + 1) y0 y1 y2 y3 y4 y5 y6 y7 y8 y9)) ∧ (∀ y0 y1 y2 y3 y4 y5 y6 y7 y8 y9 y10, LeO (medlarlaw08_SubTouches.l0 k y0 y1 y2 y3 y4 y5 y6 y7 y8 y9 y10) (medlarlaw08_SubTouches.l0 (k + 1) y0 y1 y2 y3 y4 y5 y6 y7 y8 y9 y10))
  | 0 => ⟨fun _ _ _ _ _ _ _ _ _ r h => by simp [medlarlaw08_SubTouches.j0] at h, fun _ _ _ _ _ _ _ _ r h => by simp [medlarlaw08_SubTouches.j1] at h, fun _ _ _ _ _ _ _ _ _ _ r h => by simp [medlarlaw08_SubTouches.j2] at h, fun _ _ _ _ _ _ _ _ _ _ _ r h => by simp [medlarlaw08_SubTouches.l0] at h⟩
  | k + 1 => by
    obtain ⟨ih0, ih1, ih2, ih3⟩ := medlarlaw08_SubTouches.mono_l k
    refine ⟨?_, ?_, ?_, ?_⟩
    · intro y0 y1 y2 y3 y4 y5 y6 y7 y8
      unfold medlarlaw08_SubTouches.j0
      repeat' first
      | (with_reducible exact ih0 _ _ _ _ _ _ _ _ _)
      | (with_reducible exact ih1 _ _ _ _ _ _ _ _)
      | (with_reducible exact ih2 _ _ _ _ _ _ _ _ _ _)
      | (with_reducible exact ih3 _ _ _ _ _ _ _ _ _ _ _)
      | (with_reducible exact medlarlaw08_live.mono _)
      | (with_reducible exact sub_Has.mono _ _ _ _ _)
      | (with_reducible exact sub_Leaves.mono _ _ _ _)
      | (with_reducible exact sub_Touch.mono _ _ _ _ _ _)
      | (with_reducible exact LeO.refl _)
      | (with_reducible exact LeO.none _)
      | (with_reducible refine LeO.ite ?_ ?_)
      | (with_reducible refine LeO.bind ?_ (fun _ => ?_))
      | exact ih0 _ _ _ _ _ _ _ _ _
      | exact ih1 _ _ _ _ _ _ _ _
      | exact ih2 _ _ _ _ _ _ _ _ _ _
      | exact ih3 _ _ _ _ _ _ _ _ _ _ _
      | exact medlarlaw08_live.mono _
      | exact sub_Has.mono _ _ _ _ _
      | exact sub_Leaves.mono _ _ _ _
      | exact sub_Touch.mono _ _ _ _ _ _
      | exact LeO.none _
      | refine LeO.ite ?_ ?_
      | refine LeO.bind ?_ (fun _ => ?_)
    · intro y0 y1 y2 y3 y4 y5 y6 y7
      unfold medlarlaw08_SubTouches.j1
      repeat' first
      | (with_reducible exact ih0 _ _ _ _ _ _ _ _ _)
      | (with_reducible exact ih1 _ _ _ _ _ _ _ _)
      | (with_reducible exact ih2 _ _ _ _ _ _ _ _ _ _)
      | (with_reducible exact ih3 _ _ _ _ _ _ _ _ _ _ _)
      | (with_reducible exact medlarlaw08_live.mono _)
      | (with_reducible exact sub_Has.mono _ _ _ _ _)
      | (with_reducible exact sub_Leaves.mono _ _ _ _)
      | (with_reducible exact sub_Touch.mono _ _ _ _ _ _)
      | (with_reducible exact LeO.refl _)
      | (with_reducible exact LeO.none _)
      | (with_reducible refine LeO.ite ?_ ?_)
      | (with_reducible refine LeO.bind ?_ (fun _ => ?_))
      | exact ih0 _ _ _ _ _ _ _ _ _
      | exact ih1 _ _ _ _ _ _ _ _
      | exact ih2 _ _ _ _ _ _ _ _ _ _
      | exact ih3 _ _ _ _ _ _ _ _ _ _ _
      | exact medlarlaw08_live.mono _
      | exact sub_Has.mono _ _ _ _ _
      | exact sub_Leaves.mono _ _ _ _
      | exact sub_Touch.mono _ _ _ _ _ _
      | exact LeO.none _
      | refine LeO.ite ?_ ?_
      | refine LeO.bind ?_ (fun _ => ?_)
    · intro y0 y1 y2 y3 y4 y5 y6 y7 y8 y9
      unfold medlarlaw08_SubTouches.j2
      repeat' first
      | (with_reducible exact ih0 _ _ _ _ _ _ _ _ _)
      | (with_reducible exact ih1 _ _ _ _ _ _ _ _)
      | (with_reducible exact ih2 _ _ _ _ _ _ _ _ _ _)
      | (with_reducible exact ih3 _ _ _ _ _ _ _ _ _ _ _)
      | (with_reducible exact medlarlaw08_live.mono _)
      | (with_reducible exact sub_Has.mono _ _ _ _ _)
      | (with_reducible exact sub_Leaves.mono _ _ _ _)
      | (with_reducible exact sub_Touch.mono _ _ _ _ _ _)
      | (with_reducible exact LeO.refl _)
      | (with_reducible exact LeO.none _)
      | (with_reducible refine LeO.ite ?_ ?_)
      | (with_reducible refine LeO.bind ?_ (fun _ => ?_))
      | exact ih0 _ _ _ _ _ _ _ _ _
      | exact ih1 _ _ _ _ _ _ _ _
      | exact ih2 _ _ _ _ _ _ _ _ _ _
      | exact ih3 _ _ _ _ _ _ _ _ _ _ _
      | exact medlarlaw08_live.mono _
      | exact sub_Has.mono _ _ _ _ _
      | exact sub_Leaves.mono _ _ _ _
      | exact sub_Touch.mono _ _ _ _ _ _
      | exact LeO.none _
      | refine LeO.ite ?_ ?_
      | refine LeO.bind ?_ (fun _ => ?_)
    · intro y0 y1 y2 y3 y4 y5 y6 y7 y8 y9 y10
      unfold medlarlaw08_SubTouches.l0
      repeat' first
      | (with_reducible exact ih0 _ _ _ _ _ _ _ _ _)
      | (with_reducible exact ih1 _ _ _ _ _ _ _ _)
      | (with_reducible exact ih2 _ _ _ _ _ _ _ _ _ _)
      | (with_reducible exact ih3 _ _ _ _ _ _ _ _ _ _ _)
      | (with_reducible exact medlarlaw08_live.mono _)
      | (with_reducible exact sub_Has.mono _ _ _ _ _)
      | (with_reducible exact sub_Leaves.mono _ _ _ _)
      | (with_reducible exact sub_Touch.mono _ _ _ _ _ _)
      | (with_reducible exact LeO.refl _)
      | (with_reducible exact LeO.none _)
      | (with_reducible refine LeO.ite ?_ ?_)
      | (with_reducible refine LeO.bind ?_ (fun _ => ?_))
      | exact ih0 _ _ _ _ _ _ _ _ _
      | exact ih1 _ _ _ _ _ _ _ _
      | exact ih2 _ _ _ _ _ _ _ _ _ _
      | exact ih3 _ _ _ _ _ _ _ _ _ _ _
      | exact medlarlaw08_live.mono _
      | exact sub_Has.mono _ _ _ _ _
      | exact sub_Leaves.mono _ _ _ _
      | exact sub_Touch.mono _ _ _ _ _ _
      | exact LeO.none _
      | refine LeO.ite ?_ ?_
      | refine LeO.bind ?_ (fun _ => ?_)
theorem medlarlaw08_SubTouches.mono : ∀ a0 a1 a2 a3 a4 a5 k, LeO (medlarlaw08_SubTouches.f k a0 a1 a2 a3 a4 a5) (medlarlaw08_SubTouches.f (k + 1) a0 a1 a2 a3 a4 a5) := by
  intro a0 a1 a2 a3 a4 a5 k
  obtain ⟨ih0, ih1, ih2, ih3⟩ := medlarlaw08_SubTouches.mono_l k
  unfold medlarlaw08_SubTouches.f
  repeat' first
      | (with_reducible exact ih0 _ _ _ _ _ _ _ _ _)
      | (with_reducible exact ih1 _ _ _ _ _ _ _ _)
      | (with_reducible exact ih2 _ _ _ _ _ _ _ _ _ _)
      | (with_reducible exact ih3 _ _ _ _ _ _ _ _ _ _ _)
      | (with_reducible exact medlarlaw08_live.mono _)
      | (with_reducible exact sub_Has.mono _ _ _ _ _)
      | (with_reducible exact sub_Leaves.mono _ _ _ _)
      | (with_reducible exact sub_Touch.mono _ _ _ _ _ _)
      | (with_reducible exact LeO.refl _)
      | (with_reducible exact LeO.none _)
      | (with_reducible refine LeO.ite ?_ ?_)
      | (with_reducible refine LeO.bind ?_ (fun _ => ?_))
      | exact ih0 _ _ _ _ _ _ _ _ _
      | exact ih1 _ _ _ _ _ _ _ _
      | exact ih2 _ _ _ _ _ _ _ _ _ _
      | exact ih3 _ _ _ _ _ _ _ _ _ _ _
      | exact medlarlaw08_live.mono _
      | exact sub_Has.mono _ _ _ _ _
      | exact sub_Leaves.mono _ _ _ _
      | exact sub_Touch.mono _ _ _ _ _ _
      | exact LeO.none _
      | refine LeO.ite ?_ ?_
      | refine LeO.bind ?_ (fun _ => ?_)
set_option maxHeartbeats 8000000 in
set_option maxRecDepth 100000 in
theorem medlarlaw08_SubTouches.calls (k : Nat) (a0 : Int) (a1_0 : Int) (a1_1 : Int) (a2_0 : Int) (a2_1 : Int) (a3 : Int) (r : Bool) (w : World) (h : medlarlaw08_SubTouches.f k a0 a1_0 a1_1 a2_0 a2_1 a3 = some r) (hT : Aside0 (r = true)) :
    Calls Try.prog 11 #[.int .i64 a0, .agg #[.int .u64 a1_0, .int .u64 a1_1], .agg #[.int .u64 a2_0, .int .u64 a2_1], .int .u64 a3] w fun e w' => e = .returned (.bool r) ∧ Below w.heap.size w w' := by
  have hu24 := Try.underlying24
  have hu50 := Try.underlying50
  have HB := Aside0.mk (Below.refl w.heap.size w)
  have H : ((medlarlaw08_live.f k).bind fun t478 => ((sub_Touch.f k a0 a1_0 a1_1 a2_0 a2_1).bind fun bt479 => (if bt479.2 = 0 then ((sub_Touch.f k a0 a2_0 a2_1 a1_0 a1_1).bind fun bt481 => ((sub_Touch.f k a0 a1_0 a1_1 a1_0 a1_1).bind fun bt483 => (if bt481.2 = 0 then (if bt483.2 = 0 then (if (bt481.1 != bt479.1) = true then (medlarlaw08_SubTouches.j0 k a0 a3 t478 bt479.1 true a1_0 a1_1 a2_0 a2_1) else (medlarlaw08_SubTouches.j0 k a0 a3 t478 bt479.1 (!bt483.1) a1_0 a1_1 a2_0 a2_1)) else (medlarlaw08_SubTouches.j0 k a0 a3 t478 bt479.1 true a1_0 a1_1 a2_0 a2_1)) else (medlarlaw08_SubTouches.j0 k a0 a3 t478 bt479.1 true a1_0 a1_1 a2_0 a2_1)))) else (if t478 = true then (some (!bt479.1)) else (some false))))) = some r := h
  clear h
  replace H := Option.bind_eq_some_iff.mp H
  obtain ⟨t478, A50, H⟩ := H
  replace H : ((sub_Touch.f k a0 a1_0 a1_1 a2_0 a2_1).bind fun bt479 => (if bt479.2 = 0 then ((sub_Touch.f k a0 a2_0 a2_1 a1_0 a1_1).bind fun bt481 => ((sub_Touch.f k a0 a1_0 a1_1 a1_0 a1_1).bind fun bt483 => (if bt481.2 = 0 then (if bt483.2 = 0 then (if (bt481.1 != bt479.1) = true then (medlarlaw08_SubTouches.j0 k a0 a3 t478 bt479.1 true a1_0 a1_1 a2_0 a2_1) else (medlarlaw08_SubTouches.j0 k a0 a3 t478 bt479.1 (!bt483.1) a1_0 a1_1 a2_0 a2_1)) else (medlarlaw08_SubTouches.j0 k a0 a3 t478 bt479.1 true a1_0 a1_1 a2_0 a2_1)) else (medlarlaw08_SubTouches.j0 k a0 a3 t478 bt479.1 true a1_0 a1_1 a2_0 a2_1)))) else (if t478 = true then (some (!bt479.1)) else (some false)))) = some r := H
  have A5 := Aside0.mk A50
  clear A50
  replace H := Option.bind_eq_some_iff.mp H
  obtain ⟨⟨t479, t480⟩, A60, H⟩ := H
  replace H : (if t480 = 0 then ((sub_Touch.f k a0 a2_0 a2_1 a1_0 a1_1).bind fun bt481 => ((sub_Touch.f k a0 a1_0 a1_1 a1_0 a1_1).bind fun bt483 => (if bt481.2 = 0 then (if bt483.2 = 0 then (if (bt481.1 != t479) = true then (medlarlaw08_SubTouches.j0 k a0 a3 t478 t479 true a1_0 a1_1 a2_0 a2_1) else (medlarlaw08_SubTouches.j0 k a0 a3 t478 t479 (!bt483.1) a1_0 a1_1 a2_0 a2_1)) else (medlarlaw08_SubTouches.j0 k a0 a3 t478 t479 true a1_0 a1_1 a2_0 a2_1)) else (medlarlaw08_SubTouches.j0 k a0 a3 t478 t479 true a1_0 a1_1 a2_0 a2_1)))) else (if t478 = true then (some (!t479)) else (some false))) = some r := H
  have A6 := Aside0.mk A60
  clear A60
  by_cases c7 : t480 = 0
  · rw [if_pos c7] at H
    have c7b0 : (t480 == 0) = true := beq_iff_eq.mpr c7
    have c7b1 : (t480 != 0) = false := bne_eq_false_iff_eq.mpr c7
    clear c7
    replace H := Option.bind_eq_some_iff.mp H
    obtain ⟨⟨t481, t482⟩, A80, H⟩ := H
    replace H : ((sub_Touch.f k a0 a1_0 a1_1 a1_0 a1_1).bind fun bt483 => (if t482 = 0 then (if bt483.2 = 0 then (if (t481 != t479) = true then (medlarlaw08_SubTouches.j0 k a0 a3 t478 t479 true a1_0 a1_1 a2_0 a2_1) else (medlarlaw08_SubTouches.j0 k a0 a3 t478 t479 (!bt483.1) a1_0 a1_1 a2_0 a2_1)) else (medlarlaw08_SubTouches.j0 k a0 a3 t478 t479 true a1_0 a1_1 a2_0 a2_1)) else (medlarlaw08_SubTouches.j0 k a0 a3 t478 t479 true a1_0 a1_1 a2_0 a2_1))) = some r := H
    have A8 := Aside0.mk A80
    clear A80
    replace H := Option.bind_eq_some_iff.mp H
    obtain ⟨⟨t483, t484⟩, A90, H⟩ := H
    replace H : (if t482 = 0 then (if t484 = 0 then (if (t481 != t479) = true then (medlarlaw08_SubTouches.j0 k a0 a3 t478 t479 true a1_0 a1_1 a2_0 a2_1) else (medlarlaw08_SubTouches.j0 k a0 a3 t478 t479 (!t483) a1_0 a1_1 a2_0 a2_1)) else (medlarlaw08_SubTouches.j0 k a0 a3 t478 t479 true a1_0 a1_1 a2_0 a2_1)) else (medlarlaw08_SubTouches.j0 k a0 a3 t478 t479 true a1_0 a1_1 a2_0 a2_1)) = some r := H
    have A9 := Aside0.mk A90
    clear A90
    have HC10 := Aside0.mk H
    clear H
    go_enter Try.func11, Try.ntmps11
    go_upto_region 7 with (first | ((with_reducible refine gate_dst (N := 5) rfl ?_); refine box_event ?hg (N := 5) ?hd (cs := #[.int .u64 a1_0, .int .u64 a1_1]) (t := 24) ?hr ?_; (case hd => rfl); (case hg => rfl); (case hr => first | (go_simp; done) | (go_simp; rfl)); intro gb476 hg w11 hbox hb; have n0_ := Aside0.mk (below_step (by repeat (first | (with_reducible first | exact HB.out | apply below_alloc | apply pw_below_drewN | apply below_drew1) | exact HB.out)) hb); have n1_ := Aside0.mk (hbox); have n2_ := Aside0.mk ((by rw [hg]; exact (below_size (by repeat (first | (with_reducible first | exact HB.out | apply below_alloc | apply pw_below_drewN | apply below_drew1) | exact HB.out))) : w.heap.size ≤ gb476)); have n3_ := Aside0.mk ((by rw [hg]; exact (below_size (by repeat (first | (with_reducible first | exact HB.out | apply below_alloc | apply pw_below_drewN | apply below_drew1) | exact HB.out))) : w.heap.size ≤ gb476)); clear HB; have HB := n0_; have BK476 := n1_; have GW476 := n2_; have GE476 := n3_; clear n0_ n1_ n2_ n3_; clear hb hbox hg) | ((with_reducible refine gate_dst (N := 6) rfl ?_); refine box_event ?hg (N := 6) ?hd (cs := #[.int .u64 a2_0, .int .u64 a2_1]) (t := 24) ?hr ?_; (case hd => rfl); (case hg => rfl); (case hr => first | (go_simp; done) | (go_simp; rfl)); intro gb477 hg w12 hbox hb; have n0_ := Aside0.mk (blk_below (g := gb476) (o := .cells #[.int .u64 a1_0, .int .u64 a1_1] 24 (0, 0)) (by (with_reducible repeat (first | refine blk_drewN ?_ _ | refine blk_drew ?_ | refine blk_alloc ?_ _)); exact BK476.out) hb); have n1_ := Aside0.mk (below_step (by repeat (first | (with_reducible first | exact HB.out | apply below_alloc | apply pw_below_drewN | apply below_drew1 | refine below_set ?_ GE476.out) | exact HB.out)) hb); have n2_ := Aside0.mk (hbox); have n3_ := Aside0.mk ((by rw [hg]; exact (below_size (by repeat (first | (with_reducible first | exact HB.out | apply below_alloc | apply pw_below_drewN | apply below_drew1 | refine below_set ?_ GE476.out) | exact HB.out))) : w.heap.size ≤ gb477)); have n4_ := Aside0.mk ((by rw [hg]; exact (below_size (by repeat (first | (with_reducible first | exact HB.out | apply below_alloc | apply pw_below_drewN | apply below_drew1 | refine below_set ?_ GE476.out) | exact HB.out))) : w.heap.size ≤ gb477)); have n5_ := Aside0.mk ((by rw [hg]; exact Nat.ne_of_lt (blk_lt (g := gb476) (o := .cells #[.int .u64 a1_0, .int .u64 a1_1] 24 (0, 0)) (by (with_reducible repeat (first | refine blk_drewN ?_ _ | refine blk_drew ?_ | refine blk_alloc ?_ _)); exact BK476.out)) : gb476 ≠ gb477)); have n6_ := Aside0.mk ((by rw [hg]; exact Nat.ne_of_gt (blk_lt (g := gb476) (o := .cells #[.int .u64 a1_0, .int .u64 a1_1] 24 (0, 0)) (by (with_reducible repeat (first | refine blk_drewN ?_ _ | refine blk_drew ?_ | refine blk_alloc ?_ _)); exact BK476.out)) : gb477 ≠ gb476)); clear BK476; clear HB; have BK476 := n0_; have HB := n1_; have BK477 := n2_; have GW477 := n3_; have GE477 := n4_; have NB476_477 := n5_; have NB477_476 := n6_; clear n0_ n1_ n2_ n3_ n4_ n5_ n6_; clear hb hbox hg) | ((with_reducible refine gate_callee (f := 14) rfl ?_); refine goesL_ (some 31) rfl rfl Try.func14 (by kernel_rfl) rfl #[] rfl (by (try simp only [List.map_toArray, List.map_cons, List.map_nil]); first | done | rfl | (simp only [List.length_drop, List.length_take]; rfl)) ?_; (with_reducible refine (medlarlaw08_live.calls k  t478 _ A5.out).mono ?_); rintro e w13 ⟨rfl, hb⟩; refine ⟨_, rfl, ?_⟩; have n0_ := Aside0.mk (blk_below (g := gb476) (o := .cells #[.int .u64 a1_0, .int .u64 a1_1] 24 (0, 0)) (by (with_reducible repeat (first | refine blk_drewN ?_ _ | refine blk_drew ?_ | refine blk_alloc ?_ _)); exact BK476.out) hb); have n1_ := Aside0.mk (blk_below (g := gb477) (o := .cells #[.int .u64 a2_0, .int .u64 a2_1] 24 (0, 0)) (by (with_reducible repeat (first | refine blk_drewN ?_ _ | refine blk_drew ?_ | refine blk_alloc ?_ _)); exact BK477.out) hb); have n2_ := Aside0.mk (below_step (by repeat (first | (with_reducible first | exact HB.out | apply below_alloc | apply pw_below_drewN | apply below_drew1 | refine below_set ?_ GE476.out | refine below_set ?_ GE477.out) | exact HB.out)) hb); clear BK476; clear BK477; clear HB; have BK476 := n0_; have BK477 := n1_; have HB := n2_; clear n0_ n1_ n2_; (try clear hb); (try clear hb2); (try clear hk); (try clear hi); have hnb14 := NB476_477.out; have hnc14 := NB477_476.out; have hcz15_0 : w13.cell? ⟨gb476, 0, none⟩ = some (.int .u64 a1_0) := (blk_cell BK476.out 0).trans rfl; have hcz15_1 : w13.cell? ⟨gb476, 1, none⟩ = some (.int .u64 a1_1) := (blk_cell BK476.out 1).trans rfl; have hfz15_0 := blk_frozen BK476.out 0; have hfz15_1 := blk_frozen BK476.out 1; have hcz16_0 : w13.cell? ⟨gb477, 0, none⟩ = some (.int .u64 a2_0) := (blk_cell BK477.out 0).trans rfl; have hcz16_1 : w13.cell? ⟨gb477, 1, none⟩ = some (.int .u64 a2_1) := (blk_cell BK477.out 1).trans rfl; have hfz16_0 := blk_frozen BK477.out 0; have hfz16_1 := blk_frozen BK477.out 1) | ((with_reducible refine gate_callee (f := 31) rfl ?_); refine goesL_ (some 36) rfl rfl Try.func31 (by kernel_rfl) rfl #[.int .i64 a0, .agg #[.int .u64 a1_0, .int .u64 a1_1], .agg #[.int .u64 a2_0, .int .u64 a2_1]] rfl (by (try simp only [List.map_toArray, List.map_cons, List.map_nil]); first | done | rfl | (simp only [List.length_drop, List.length_take]; rfl)) ?_; (with_reducible refine (sub_Touch.calls k a0 a1_0 a1_1 a2_0 a2_1 t479 t480 _ A6.out).mono ?_); rintro e w17 ⟨rfl, hb⟩; refine ⟨_, rfl, ?_⟩; have n0_ := Aside0.mk (blk_below (g := gb476) (o := .cells #[.int .u64 a1_0, .int .u64 a1_1] 24 (0, 0)) (by (with_reducible repeat (first | refine blk_drewN ?_ _ | refine blk_drew ?_ | refine blk_alloc ?_ _)); exact BK476.out) hb); have n1_ := Aside0.mk (blk_below (g := gb477) (o := .cells #[.int .u64 a2_0, .int .u64 a2_1] 24 (0, 0)) (by (with_reducible repeat (first | refine blk_drewN ?_ _ | refine blk_drew ?_ | refine blk_alloc ?_ _)); exact BK477.out) hb); have n2_ := Aside0.mk (below_step (by repeat (first | (with_reducible first | exact HB.out | apply below_alloc | apply pw_below_drewN | apply below_drew1 | refine below_set ?_ GE476.out | refine below_set ?_ GE477.out) | exact HB.out)) hb); clear BK476; clear BK477; clear HB; have BK476 := n0_; have BK477 := n1_; have HB := n2_; clear n0_ n1_ n2_; (try clear hb); (try clear hb2); (try clear hk); (try clear hi); have hcz18_0 : w17.cell? ⟨gb477, 0, none⟩ = some (.int .u64 a2_0) := (blk_cell BK477.out 0).trans rfl; have hcz18_1 : w17.cell? ⟨gb477, 1, none⟩ = some (.int .u64 a2_1) := (blk_cell BK477.out 1).trans rfl; have hfz18_0 := blk_frozen BK477.out 0; have hfz18_1 := blk_frozen BK477.out 1; have hcz19_0 : w17.cell? ⟨gb476, 0, none⟩ = some (.int .u64 a1_0) := (blk_cell BK476.out 0).trans rfl; have hcz19_1 : w17.cell? ⟨gb476, 1, none⟩ = some (.int .u64 a1_1) := (blk_cell BK476.out 1).trans rfl; have hfz19_0 := blk_frozen BK476.out 0; have hfz19_1 := blk_frozen BK476.out 1) | ((with_reducible refine gate_callee (f := 31) rfl ?_); refine goesL_ (some 50) rfl rfl Try.func31 (by kernel_rfl) rfl #[.int .i64 a0, .agg #[.int .u64 a2_0, .int .u64 a2_1], .agg #[.int .u64 a1_0, .int .u64 a1_1]] rfl (by (try simp only [List.map_toArray, List.map_cons, List.map_nil]); first | done | rfl | (simp only [List.length_drop, List.length_take]; rfl)) ?_; (with_reducible refine (sub_Touch.calls k a0 a2_0 a2_1 a1_0 a1_1 t481 t482 _ A8.out).mono ?_); rintro e w20 ⟨rfl, hb⟩; refine ⟨_, rfl, ?_⟩; have n0_ := Aside0.mk (blk_below (g := gb476) (o := .cells #[.int .u64 a1_0, .int .u64 a1_1] 24 (0, 0)) (by (with_reducible repeat (first | refine blk_drewN ?_ _ | refine blk_drew ?_ | refine blk_alloc ?_ _)); exact BK476.out) hb); have n1_ := Aside0.mk (blk_below (g := gb477) (o := .cells #[.int .u64 a2_0, .int .u64 a2_1] 24 (0, 0)) (by (with_reducible repeat (first | refine blk_drewN ?_ _ | refine blk_drew ?_ | refine blk_alloc ?_ _)); exact BK477.out) hb); have n2_ := Aside0.mk (below_step (by repeat (first | (with_reducible first | exact HB.out | apply below_alloc | apply pw_below_drewN | apply below_drew1 | refine below_set ?_ GE476.out | refine below_set ?_ GE477.out) | exact HB.out)) hb); clear BK476; clear BK477; clear HB; have BK476 := n0_; have BK477 := n1_; have HB := n2_; clear n0_ n1_ n2_; (try clear hb); (try clear hb2); (try clear hk); (try clear hi); have hcz21_0 : w20.cell? ⟨gb476, 0, none⟩ = some (.int .u64 a1_0) := (blk_cell BK476.out 0).trans rfl; have hcz21_1 : w20.cell? ⟨gb476, 1, none⟩ = some (.int .u64 a1_1) := (blk_cell BK476.out 1).trans rfl; have hfz21_0 := blk_frozen BK476.out 0; have hfz21_1 := blk_frozen BK476.out 1) | ((with_reducible refine gate_callee (f := 31) rfl ?_); refine goesL_ (some 57) rfl rfl Try.func31 (by kernel_rfl) rfl #[.int .i64 a0, .agg #[.int .u64 a1_0, .int .u64 a1_1], .agg #[.int .u64 a1_0, .int .u64 a1_1]] rfl (by (try simp only [List.map_toArray, List.map_cons, List.map_nil]); first | done | rfl | (simp only [List.length_drop, List.length_take]; rfl)) ?_; (with_reducible refine (sub_Touch.calls k a0 a1_0 a1_1 a1_0 a1_1 t483 t484 _ A9.out).mono ?_); rintro e w22 ⟨rfl, hb⟩; refine ⟨_, rfl, ?_⟩; have n0_ := Aside0.mk (blk_below (g := gb476) (o := .cells #[.int .u64 a1_0, .int .u64 a1_1] 24 (0, 0)) (by (with_reducible repeat (first | refine blk_drewN ?_ _ | refine blk_drew ?_ | refine blk_alloc ?_ _)); exact BK476.out) hb); have n1_ := Aside0.mk (blk_below (g := gb477) (o := .cells #[.int .u64 a2_0, .int .u64 a2_1] 24 (0, 0)) (by (with_reducible repeat (first | refine blk_drewN ?_ _ | refine blk_drew ?_ | refine blk_alloc ?_ _)); exact BK477.out) hb); have n2_ := Aside0.mk (below_step (by repeat (first | (with_reducible first | exact HB.out | apply below_alloc | apply pw_below_drewN | apply below_drew1 | refine below_set ?_ GE476.out | refine below_set ?_ GE477.out) | exact HB.out)) hb); clear BK476; clear BK477; clear HB; have BK476 := n0_; have BK477 := n1_; have HB := n2_; clear n0_ n1_ n2_; (try clear hb); (try clear hb2); (try clear hk); (try clear hi)))
    (try simp only [Act.put, List.setIfInBounds_toArray, List.set_cons_zero, List.set_cons_succ])
    go_cut [74] (fun v74 wc => ∃ (kq : Nat) (x74_9 : Bool), v74 = .bool x74_9 ∧ Aside0 (medlarlaw08_SubTouches.j0 kq a0 a3 t478 t479 x74_9 a1_0 a1_1 a2_0 a2_1 = some r) ∧ Aside0 (kq ≤ k) ∧ Aside0 (wc.heap[gb476]? = some (.cells #[.int .u64 a1_0, .int .u64 a1_1] 24 (0, 0))) ∧ Aside0 (wc.heap[gb477]? = some (.cells #[.int .u64 a2_0, .int .u64 a2_1] 24 (0, 0))) ∧ Aside0 (Below w.heap.size w wc))
    case first =>
      have H := HC10.out
      clear HC10
      by_cases c23 : t482 = 0
      · rw [if_pos c23] at H
        have c23b0 : (t482 == 0) = true := beq_iff_eq.mpr c23
        have c23b1 : (t482 != 0) = false := bne_eq_false_iff_eq.mpr c23
        clear c23
        (first | rw [c23b0] | (simp only [i64_w, i32_w]; rw [c23b0]) | skip)
        by_cases c24 : t484 = 0
        · rw [if_pos c24] at H
          have c24b0 : (t484 == 0) = true := beq_iff_eq.mpr c24
          have c24b1 : (t484 != 0) = false := bne_eq_false_iff_eq.mpr c24
          clear c24
          by_cases c25 : (t481 != t479) = true
          · rw [if_pos c25] at H
            have c25b0 : (t481 != t479) = true := c25
            (try (have c25b1 : decide (t481 = t479) = false := by simpa using c25))
            (try (have c25b2 : (t481 == t479) = false := by simpa using c25))
            (try (have c25b3 : ¬ (t481 = t479) := by simpa using c25))
            clear c25
            have H' := Aside0.mk H
            clear H
            go_wp2
            go_meet
            case rel => exact ⟨_, (true), (by first | rfl | (simp; done) | (simp [*]; done)), H', ⟨by first | omega | exact Nat.le_refl _⟩, ⟨by (with_reducible repeat (first | refine blk_drewN ?_ _ | refine blk_drew ?_ | refine blk_alloc ?_ _)); exact BK476.out⟩, ⟨by (with_reducible repeat (first | refine blk_drewN ?_ _ | refine blk_drew ?_ | refine blk_alloc ?_ _)); exact BK477.out⟩, ⟨by repeat (first | (with_reducible first | exact HB.out | apply below_alloc | apply pw_below_drewN | apply below_drew1 | refine below_set ?_ GE476.out | refine below_set ?_ GE477.out) | exact HB.out)⟩⟩
          · rw [if_neg c25] at H
            have c25b0 : (t481 != t479) = false := by simpa using c25
            (try (have c25b1 : decide (t481 = t479) = true := by simpa using c25))
            (try (have c25b2 : (t481 == t479) = true := by simpa using c25))
            clear c25
            have H' := Aside0.mk H
            clear H
            go_wp2
            go_meet
            case rel => exact ⟨_, (!t483), (by first | rfl | (simp; done) | (simp [*]; done)), H', ⟨by first | omega | exact Nat.le_refl _⟩, ⟨by (with_reducible repeat (first | refine blk_drewN ?_ _ | refine blk_drew ?_ | refine blk_alloc ?_ _)); exact BK476.out⟩, ⟨by (with_reducible repeat (first | refine blk_drewN ?_ _ | refine blk_drew ?_ | refine blk_alloc ?_ _)); exact BK477.out⟩, ⟨by repeat (first | (with_reducible first | exact HB.out | apply below_alloc | apply pw_below_drewN | apply below_drew1 | refine below_set ?_ GE476.out | refine below_set ?_ GE477.out) | exact HB.out)⟩⟩
        · rw [if_neg c24] at H
          have c24b0 : (t484 == 0) = false := beq_eq_false_iff_ne.mpr c24
          have c24b1 : (t484 != 0) = true := bne_iff_ne.mpr c24
          have H' := Aside0.mk H
          clear H
          go_wp2
          go_meet
          case rel => exact ⟨_, (true), (by first | rfl | (simp; done) | (simp [*]; done)), H', ⟨by first | omega | exact Nat.le_refl _⟩, ⟨by (with_reducible repeat (first | refine blk_drewN ?_ _ | refine blk_drew ?_ | refine blk_alloc ?_ _)); exact BK476.out⟩, ⟨by (with_reducible repeat (first | refine blk_drewN ?_ _ | refine blk_drew ?_ | refine blk_alloc ?_ _)); exact BK477.out⟩, ⟨by repeat (first | (with_reducible first | exact HB.out | apply below_alloc | apply pw_below_drewN | apply below_drew1 | refine below_set ?_ GE476.out | refine below_set ?_ GE477.out) | exact HB.out)⟩⟩
      · rw [if_neg c23] at H
        have c23b0 : (t482 == 0) = false := beq_eq_false_iff_ne.mpr c23
        have c23b1 : (t482 != 0) = true := bne_iff_ne.mpr c23
        (first | rw [c23b0] | (simp only [i64_w, i32_w]; rw [c23b0]) | skip)
        have H' := Aside0.mk H
        clear H
        go_wp2
        go_meet
        case rel => exact ⟨_, (true), (by first | rfl | (simp; done) | (simp [*]; done)), H', ⟨by first | omega | exact Nat.le_refl _⟩, ⟨by (with_reducible repeat (first | refine blk_drewN ?_ _ | refine blk_drew ?_ | refine blk_alloc ?_ _)); exact BK476.out⟩, ⟨by (with_reducible repeat (first | refine blk_drewN ?_ _ | refine blk_drew ?_ | refine blk_alloc ?_ _)); exact BK477.out⟩, ⟨by repeat (first | (with_reducible first | exact HB.out | apply below_alloc | apply pw_below_drewN | apply below_drew1 | refine below_set ?_ GE476.out | refine below_set ?_ GE477.out) | exact HB.out)⟩⟩
    case rest =>
      clear HC10
      try clear c1
      try clear c2
      try clear p2
      try clear c3
      try clear c7
      try clear c7b0
      try clear c7b1
      try clear c11
      try clear c14
      try clear c23
      try clear c23b0
      try clear c23b1
      try clear c24
      try clear c24b0
      try clear c24b1
      try clear c25
      try clear c25b0
      try clear c25b1
      try clear c25b2
      try clear hcz15_0
      try clear hcz15_1
      try clear hcz16_0
      try clear hcz16_1
      try clear hcz18_0
      try clear hcz18_1
      try clear hcz19_0
      try clear hcz19_1
      try clear hcz21_0
      try clear hcz21_1
      try clear hfz15_0
      try clear hfz15_1
      try clear hfz16_0
      try clear hfz16_1
      try clear hfz18_0
      try clear hfz18_1
      try clear hfz19_0
      try clear hfz19_1
      try clear hfz21_0
      try clear hfz21_1
      obtain ⟨kq, x74_9, rfl, HA, HJ9, BK476, BK477, HB⟩ := hcut
      cases kq with
      | zero => exact absurd HA.out (by simp [medlarlaw08_SubTouches.j0])
      | succ kj9 =>
        have H := HA.out
        clear HA
        simp only [medlarlaw08_SubTouches.j0] at H
        by_cases c26 : x74_9 = true
        · subst c26
          have H1 : (some false) = some r := by rw [if_pos rfl] at H; exact H
          clear H
          have H := H1
          clear H1
          exact absurd ((Option.some.inj H).trans hT.out) Bool.false_ne_true
        · replace c26 := Bool.eq_false_iff.mpr c26
          subst c26
          have H1 : ((sub_Has.f kj9 a0 a1_0 a1_1 a3).bind fun bt485 => ((sub_Has.f kj9 a0 a2_0 a2_1 a3).bind fun bt487 => (if bt485.2 = 0 then (if bt487.2 = 0 then (if bt485.1 = true then (if bt487.1 = true then (medlarlaw08_SubTouches.j1 kj9 a0 t478 t479 (!t479) a1_0 a1_1 a2_0 a2_1) else (medlarlaw08_SubTouches.j1 kj9 a0 t478 t479 false a1_0 a1_1 a2_0 a2_1)) else (medlarlaw08_SubTouches.j1 kj9 a0 t478 t479 false a1_0 a1_1 a2_0 a2_1)) else (medlarlaw08_SubTouches.j1 kj9 a0 t478 t479 false a1_0 a1_1 a2_0 a2_1)) else (medlarlaw08_SubTouches.j1 kj9 a0 t478 t479 false a1_0 a1_1 a2_0 a2_1)))) = some r := by rw [if_neg (show ¬ (false = true) by decide)] at H; exact H
          clear H
          have H := H1
          clear H1
          replace H := Option.bind_eq_some_iff.mp H
          obtain ⟨⟨t485, t486⟩, A270, H⟩ := H
          replace H : ((sub_Has.f kj9 a0 a2_0 a2_1 a3).bind fun bt487 => (if t486 = 0 then (if bt487.2 = 0 then (if t485 = true then (if bt487.1 = true then (medlarlaw08_SubTouches.j1 kj9 a0 t478 t479 (!t479) a1_0 a1_1 a2_0 a2_1) else (medlarlaw08_SubTouches.j1 kj9 a0 t478 t479 false a1_0 a1_1 a2_0 a2_1)) else (medlarlaw08_SubTouches.j1 kj9 a0 t478 t479 false a1_0 a1_1 a2_0 a2_1)) else (medlarlaw08_SubTouches.j1 kj9 a0 t478 t479 false a1_0 a1_1 a2_0 a2_1)) else (medlarlaw08_SubTouches.j1 kj9 a0 t478 t479 false a1_0 a1_1 a2_0 a2_1))) = some r := H
          have A27 := Aside0.mk A270
          clear A270
          replace H := Option.bind_eq_some_iff.mp H
          obtain ⟨⟨t487, t488⟩, A280, H⟩ := H
          replace H : (if t486 = 0 then (if t488 = 0 then (if t485 = true then (if t487 = true then (medlarlaw08_SubTouches.j1 kj9 a0 t478 t479 (!t479) a1_0 a1_1 a2_0 a2_1) else (medlarlaw08_SubTouches.j1 kj9 a0 t478 t479 false a1_0 a1_1 a2_0 a2_1)) else (medlarlaw08_SubTouches.j1 kj9 a0 t478 t479 false a1_0 a1_1 a2_0 a2_1)) else (medlarlaw08_SubTouches.j1 kj9 a0 t478 t479 false a1_0 a1_1 a2_0 a2_1)) else (medlarlaw08_SubTouches.j1 kj9 a0 t478 t479 false a1_0 a1_1 a2_0 a2_1)) = some r := H
          have A28 := Aside0.mk A280
          clear A280
          have HC29 := Aside0.mk H
          clear H
          have hnb30 := NB476_477.out
          have hnc30 := NB477_476.out
          have hcz31_0 : wc.cell? ⟨gb476, 0, none⟩ = some (.int .u64 a1_0) := (blk_cell BK476.out 0).trans rfl
          have hcz31_1 : wc.cell? ⟨gb476, 1, none⟩ = some (.int .u64 a1_1) := (blk_cell BK476.out 1).trans rfl
          have hfz31_0 := blk_frozen BK476.out 0
          have hfz31_1 := blk_frozen BK476.out 1
          go_upto_region 11 with (first | ((with_reducible refine gate_callee (f := 34) rfl ?_); refine goesL_ (some 79) rfl rfl Try.func34 (by kernel_rfl) rfl #[.int .i64 a0, .agg #[.int .u64 a1_0, .int .u64 a1_1], .int .u64 a3] rfl (by (try simp only [List.map_toArray, List.map_cons, List.map_nil]); first | done | rfl | (simp only [List.length_drop, List.length_take]; rfl)) ?_; (with_reducible refine (sub_Has.calls kj9 a0 a1_0 a1_1 a3 t485 t486 _ A27.out).mono ?_); rintro e w32 ⟨rfl, hb⟩; refine ⟨_, rfl, ?_⟩; have n0_ := Aside0.mk (blk_below (g := gb476) (o := .cells #[.int .u64 a1_0, .int .u64 a1_1] 24 (0, 0)) (by (with_reducible repeat (first | refine blk_drewN ?_ _ | refine blk_drew ?_ | refine blk_alloc ?_ _)); exact BK476.out) hb); have n1_ := Aside0.mk (blk_below (g := gb477) (o := .cells #[.int .u64 a2_0, .int .u64 a2_1] 24 (0, 0)) (by (with_reducible repeat (first | refine blk_drewN ?_ _ | refine blk_drew ?_ | refine blk_alloc ?_ _)); exact BK477.out) hb); have n2_ := Aside0.mk (below_step (by repeat (first | (with_reducible first | exact HB.out | apply below_alloc | apply pw_below_drewN | apply below_drew1 | refine below_set ?_ GE476.out | refine below_set ?_ GE477.out) | exact HB.out)) hb); clear BK476; clear BK477; clear HB; have BK476 := n0_; have BK477 := n1_; have HB := n2_; clear n0_ n1_ n2_; (try clear hb); (try clear hb2); (try clear hk); (try clear hi); have hcz33_0 : w32.cell? ⟨gb477, 0, none⟩ = some (.int .u64 a2_0) := (blk_cell BK477.out 0).trans rfl; have hcz33_1 : w32.cell? ⟨gb477, 1, none⟩ = some (.int .u64 a2_1) := (blk_cell BK477.out 1).trans rfl; have hfz33_0 := blk_frozen BK477.out 0; have hfz33_1 := blk_frozen BK477.out 1) | ((with_reducible refine gate_callee (f := 34) rfl ?_); refine goesL_ (some 86) rfl rfl Try.func34 (by kernel_rfl) rfl #[.int .i64 a0, .agg #[.int .u64 a2_0, .int .u64 a2_1], .int .u64 a3] rfl (by (try simp only [List.map_toArray, List.map_cons, List.map_nil]); first | done | rfl | (simp only [List.length_drop, List.length_take]; rfl)) ?_; (with_reducible refine (sub_Has.calls kj9 a0 a2_0 a2_1 a3 t487 t488 _ A28.out).mono ?_); rintro e w34 ⟨rfl, hb⟩; refine ⟨_, rfl, ?_⟩; have n0_ := Aside0.mk (blk_below (g := gb476) (o := .cells #[.int .u64 a1_0, .int .u64 a1_1] 24 (0, 0)) (by (with_reducible repeat (first | refine blk_drewN ?_ _ | refine blk_drew ?_ | refine blk_alloc ?_ _)); exact BK476.out) hb); have n1_ := Aside0.mk (blk_below (g := gb477) (o := .cells #[.int .u64 a2_0, .int .u64 a2_1] 24 (0, 0)) (by (with_reducible repeat (first | refine blk_drewN ?_ _ | refine blk_drew ?_ | refine blk_alloc ?_ _)); exact BK477.out) hb); have n2_ := Aside0.mk (below_step (by repeat (first | (with_reducible first | exact HB.out | apply below_alloc | apply pw_below_drewN | apply below_drew1 | refine below_set ?_ GE476.out | refine below_set ?_ GE477.out) | exact HB.out)) hb); clear BK476; clear BK477; clear HB; have BK476 := n0_; have BK477 := n1_; have HB := n2_; clear n0_ n1_ n2_; (try clear hb); (try clear hb2); (try clear hk); (try clear hi)))
          (try simp only [Act.put, List.setIfInBounds_toArray, List.set_cons_zero, List.set_cons_succ])
          go_cut [104] (fun v104 wc => ∃ (kq : Nat) (x104_28 : Bool), v104 = .bool x104_28 ∧ Aside0 (medlarlaw08_SubTouches.j1 kq a0 t478 t479 x104_28 a1_0 a1_1 a2_0 a2_1 = some r) ∧ Aside0 (kq ≤ kj9) ∧ Aside0 (wc.heap[gb476]? = some (.cells #[.int .u64 a1_0, .int .u64 a1_1] 24 (0, 0))) ∧ Aside0 (wc.heap[gb477]? = some (.cells #[.int .u64 a2_0, .int .u64 a2_1] 24 (0, 0))) ∧ Aside0 (Below w.heap.size w wc))
          case first =>
            have H := HC29.out
            clear HC29
            by_cases c35 : t486 = 0
            · rw [if_pos c35] at H
              have c35b0 : (t486 == 0) = true := beq_iff_eq.mpr c35
              have c35b1 : (t486 != 0) = false := bne_eq_false_iff_eq.mpr c35
              clear c35
              (first | rw [c35b0] | (simp only [i64_w, i32_w]; rw [c35b0]) | skip)
              by_cases c36 : t488 = 0
              · rw [if_pos c36] at H
                have c36b0 : (t488 == 0) = true := beq_iff_eq.mpr c36
                have c36b1 : (t488 != 0) = false := bne_eq_false_iff_eq.mpr c36
                clear c36
                by_cases c37 : t485 = true
                · subst c37
                  have H1 : (if t487 = true then (medlarlaw08_SubTouches.j1 kj9 a0 t478 t479 (!t479) a1_0 a1_1 a2_0 a2_1) else (medlarlaw08_SubTouches.j1 kj9 a0 t478 t479 false a1_0 a1_1 a2_0 a2_1)) = some r := by rw [if_pos rfl] at H; exact H
                  clear H
                  have H := H1
                  clear H1
                  by_cases c38 : t487 = true
                  · subst c38
                    have H1 : (medlarlaw08_SubTouches.j1 kj9 a0 t478 t479 (!t479) a1_0 a1_1 a2_0 a2_1) = some r := by rw [if_pos rfl] at H; exact H
                    clear H
                    have H := H1
                    clear H1
                    have H' := Aside0.mk H
                    clear H
                    go_wp2
                    go_meet
                    case rel => exact ⟨_, (!t479), (by first | rfl | (simp; done) | (simp [*]; done)), H', ⟨by have := HJ9.out; first | omega | exact Nat.le_refl _⟩, ⟨by (with_reducible repeat (first | refine blk_drewN ?_ _ | refine blk_drew ?_ | refine blk_alloc ?_ _)); exact BK476.out⟩, ⟨by (with_reducible repeat (first | refine blk_drewN ?_ _ | refine blk_drew ?_ | refine blk_alloc ?_ _)); exact BK477.out⟩, ⟨by repeat (first | (with_reducible first | exact HB.out | apply below_alloc | apply pw_below_drewN | apply below_drew1 | refine below_set ?_ GE476.out | refine below_set ?_ GE477.out) | exact HB.out)⟩⟩
                  · replace c38 := Bool.eq_false_iff.mpr c38
                    subst c38
                    have H1 : (medlarlaw08_SubTouches.j1 kj9 a0 t478 t479 false a1_0 a1_1 a2_0 a2_1) = some r := by rw [if_neg (show ¬ (false = true) by decide)] at H; exact H
                    clear H
                    have H := H1
                    clear H1
                    have H' := Aside0.mk H
                    clear H
                    go_wp2
                    go_meet
                    case rel => exact ⟨_, (false), (by first | rfl | (simp; done) | (simp [*]; done)), H', ⟨by have := HJ9.out; first | omega | exact Nat.le_refl _⟩, ⟨by (with_reducible repeat (first | refine blk_drewN ?_ _ | refine blk_drew ?_ | refine blk_alloc ?_ _)); exact BK476.out⟩, ⟨by (with_reducible repeat (first | refine blk_drewN ?_ _ | refine blk_drew ?_ | refine blk_alloc ?_ _)); exact BK477.out⟩, ⟨by repeat (first | (with_reducible first | exact HB.out | apply below_alloc | apply pw_below_drewN | apply below_drew1 | refine below_set ?_ GE476.out | refine below_set ?_ GE477.out) | exact HB.out)⟩⟩
                · replace c37 := Bool.eq_false_iff.mpr c37
                  subst c37
                  have H1 : (medlarlaw08_SubTouches.j1 kj9 a0 t478 t479 false a1_0 a1_1 a2_0 a2_1) = some r := by rw [if_neg (show ¬ (false = true) by decide)] at H; exact H
                  clear H
                  have H := H1
                  clear H1
                  have H' := Aside0.mk H
                  clear H
                  go_wp2
                  go_meet
                  case rel => exact ⟨_, (false), (by first | rfl | (simp; done) | (simp [*]; done)), H', ⟨by have := HJ9.out; first | omega | exact Nat.le_refl _⟩, ⟨by (with_reducible repeat (first | refine blk_drewN ?_ _ | refine blk_drew ?_ | refine blk_alloc ?_ _)); exact BK476.out⟩, ⟨by (with_reducible repeat (first | refine blk_drewN ?_ _ | refine blk_drew ?_ | refine blk_alloc ?_ _)); exact BK477.out⟩, ⟨by repeat (first | (with_reducible first | exact HB.out | apply below_alloc | apply pw_below_drewN | apply below_drew1 | refine below_set ?_ GE476.out | refine below_set ?_ GE477.out) | exact HB.out)⟩⟩
              · rw [if_neg c36] at H
                have c36b0 : (t488 == 0) = false := beq_eq_false_iff_ne.mpr c36
                have c36b1 : (t488 != 0) = true := bne_iff_ne.mpr c36
                have H' := Aside0.mk H
                clear H
                go_wp2
                go_meet
                case rel => exact ⟨_, (false), (by first | rfl | (simp; done) | (simp [*]; done)), H', ⟨by have := HJ9.out; first | omega | exact Nat.le_refl _⟩, ⟨by (with_reducible repeat (first | refine blk_drewN ?_ _ | refine blk_drew ?_ | refine blk_alloc ?_ _)); exact BK476.out⟩, ⟨by (with_reducible repeat (first | refine blk_drewN ?_ _ | refine blk_drew ?_ | refine blk_alloc ?_ _)); exact BK477.out⟩, ⟨by repeat (first | (with_reducible first | exact HB.out | apply below_alloc | apply pw_below_drewN | apply below_drew1 | refine below_set ?_ GE476.out | refine below_set ?_ GE477.out) | exact HB.out)⟩⟩
            · rw [if_neg c35] at H
              have c35b0 : (t486 == 0) = false := beq_eq_false_iff_ne.mpr c35
              have c35b1 : (t486 != 0) = true := bne_iff_ne.mpr c35
              (first | rw [c35b0] | (simp only [i64_w, i32_w]; rw [c35b0]) | skip)
              have H' := Aside0.mk H
              clear H
              go_wp2
              go_meet
              case rel => exact ⟨_, (false), (by first | rfl | (simp; done) | (simp [*]; done)), H', ⟨by have := HJ9.out; first | omega | exact Nat.le_refl _⟩, ⟨by (with_reducible repeat (first | refine blk_drewN ?_ _ | refine blk_drew ?_ | refine blk_alloc ?_ _)); exact BK476.out⟩, ⟨by (with_reducible repeat (first | refine blk_drewN ?_ _ | refine blk_drew ?_ | refine blk_alloc ?_ _)); exact BK477.out⟩, ⟨by repeat (first | (with_reducible first | exact HB.out | apply below_alloc | apply pw_below_drewN | apply below_drew1 | refine below_set ?_ GE476.out | refine below_set ?_ GE477.out) | exact HB.out)⟩⟩
          case rest =>
            clear HC29
            try clear c1
            try clear c2
            try clear p2
            try clear c3
            try clear c7
            try clear c7b0
            try clear c7b1
            try clear c11
            try clear c14
            try clear c23
            try clear c23b0
            try clear c23b1
            try clear c24
            try clear c24b0
            try clear c24b1
            try clear c25
            try clear c25b0
            try clear c25b1
            try clear c25b2
            try clear c26
            try clear c30
            try clear c31
            try clear c34
            try clear c35
            try clear c35b0
            try clear c35b1
            try clear c36
            try clear c36b0
            try clear c36b1
            try clear c37
            try clear c38
            try clear hcz15_0
            try clear hcz15_1
            try clear hcz16_0
            try clear hcz16_1
            try clear hcz18_0
            try clear hcz18_1
            try clear hcz19_0
            try clear hcz19_1
            try clear hcz21_0
            try clear hcz21_1
            try clear hcz31_0
            try clear hcz31_1
            try clear hcz33_0
            try clear hcz33_1
            try clear hfz15_0
            try clear hfz15_1
            try clear hfz16_0
            try clear hfz16_1
            try clear hfz18_0
            try clear hfz18_1
            try clear hfz19_0
            try clear hfz19_1
            try clear hfz21_0
            try clear hfz21_1
            try clear hfz31_0
            try clear hfz31_1
            try clear hfz33_0
            try clear hfz33_1
            try clear p2
            obtain ⟨kq, x104_28, rfl, HA, HJ28, BK476, BK477, HB⟩ := hcut
            cases kq with
            | zero => exact absurd HA.out (by simp [medlarlaw08_SubTouches.j1])
            | succ kj28 =>
              have H := HA.out
              clear HA
              simp only [medlarlaw08_SubTouches.j1] at H
              by_cases c39 : x104_28 = true
              · subst c39
                have H1 : (some false) = some r := by rw [if_pos rfl] at H; exact H
                clear H
                have H := H1
                clear H1
                exact absurd ((Option.some.inj H).trans hT.out) Bool.false_ne_true
              · replace c39 := Bool.eq_false_iff.mpr c39
                subst c39
                have H1 : ((sub_Leaves.f kj28 a0 a1_0 a1_1).bind fun bt489 => ((sub_Leaves.f kj28 a0 a2_0 a2_1).bind fun bt493 => (if bt489.2 = 0 then (medlarlaw08_SubTouches.j2 kj28 a0 t478 t479 bt489.1 bt493.1 (bt493.2 != 0) a1_0 a1_1 a2_0 a2_1) else (medlarlaw08_SubTouches.j2 kj28 a0 t478 t479 bt489.1 bt493.1 true a1_0 a1_1 a2_0 a2_1)))) = some r := by rw [if_neg (show ¬ (false = true) by decide)] at H; exact H
                clear H
                have H := H1
                clear H1
                replace H := Option.bind_eq_some_iff.mp H
                obtain ⟨⟨t489, t492⟩, A400, H⟩ := H
                replace H : ((sub_Leaves.f kj28 a0 a2_0 a2_1).bind fun bt493 => (if t492 = 0 then (medlarlaw08_SubTouches.j2 kj28 a0 t478 t479 t489 bt493.1 (bt493.2 != 0) a1_0 a1_1 a2_0 a2_1) else (medlarlaw08_SubTouches.j2 kj28 a0 t478 t479 t489 bt493.1 true a1_0 a1_1 a2_0 a2_1))) = some r := H
                have A40 := Aside0.mk A400
                clear A400
                replace H := Option.bind_eq_some_iff.mp H
                obtain ⟨⟨t493, t496⟩, A410, H⟩ := H
                replace H : (if t492 = 0 then (medlarlaw08_SubTouches.j2 kj28 a0 t478 t479 t489 t493 (t496 != 0) a1_0 a1_1 a2_0 a2_1) else (medlarlaw08_SubTouches.j2 kj28 a0 t478 t479 t489 t493 true a1_0 a1_1 a2_0 a2_1)) = some r := H
                have A41 := Aside0.mk A410
                clear A410
                have HC42 := Aside0.mk H
                clear H
                have hnb43 := NB476_477.out
                have hnc43 := NB477_476.out
                have hcz44_0 : wc.cell? ⟨gb476, 0, none⟩ = some (.int .u64 a1_0) := (blk_cell BK476.out 0).trans rfl
                have hcz44_1 : wc.cell? ⟨gb476, 1, none⟩ = some (.int .u64 a1_1) := (blk_cell BK476.out 1).trans rfl
                have hfz44_0 := blk_frozen BK476.out 0
                have hfz44_1 := blk_frozen BK476.out 1
                go_upto_region 15 with (first | ((with_reducible refine gate_callee (f := 29) rfl ?_); refine goesL_ (some 108) rfl rfl Try.func29 (by kernel_rfl) rfl #[.int .i64 a0, .agg #[.int .u64 a1_0, .int .u64 a1_1]] rfl (by (try simp only [List.map_toArray, List.map_cons, List.map_nil]); first | done | rfl | (simp only [List.length_drop, List.length_take]; rfl)) ?_; (with_reducible refine (sub_Leaves.calls kj28 a0 a1_0 a1_1 t489 t492 _ A40.out).mono ?_); rintro e w45 ⟨v490, rfl, ho0, hb⟩; refine ⟨_, rfl, ?_⟩; have n0_ := Aside0.mk (Kd.R_lower ho0 (below_size (by repeat (first | (with_reducible first | exact HB.out | apply below_alloc | apply pw_below_drewN | apply below_drew1 | refine below_set ?_ GE476.out | refine below_set ?_ GE477.out) | exact HB.out)))); have n1_ := Aside0.mk (blk_below (g := gb476) (o := .cells #[.int .u64 a1_0, .int .u64 a1_1] 24 (0, 0)) (by (with_reducible repeat (first | refine blk_drewN ?_ _ | refine blk_drew ?_ | refine blk_alloc ?_ _)); exact BK476.out) hb); have n2_ := Aside0.mk (blk_below (g := gb477) (o := .cells #[.int .u64 a2_0, .int .u64 a2_1] 24 (0, 0)) (by (with_reducible repeat (first | refine blk_drewN ?_ _ | refine blk_drew ?_ | refine blk_alloc ?_ _)); exact BK477.out) hb); have n3_ := Aside0.mk (below_step (by repeat (first | (with_reducible first | exact HB.out | apply below_alloc | apply pw_below_drewN | apply below_drew1 | refine below_set ?_ GE476.out | refine below_set ?_ GE477.out) | exact HB.out)) hb); clear BK476; clear BK477; clear HB; have HO491 := n0_; have BK476 := n1_; have BK477 := n2_; have HB := n3_; clear n0_ n1_ n2_ n3_; (try clear hb); (try clear hb2); (try clear hk); (try clear hi); (try clear ho0); have hcz46_0 : w45.cell? ⟨gb477, 0, none⟩ = some (.int .u64 a2_0) := (blk_cell BK477.out 0).trans rfl; have hcz46_1 : w45.cell? ⟨gb477, 1, none⟩ = some (.int .u64 a2_1) := (blk_cell BK477.out 1).trans rfl; have hfz46_0 := blk_frozen BK477.out 0; have hfz46_1 := blk_frozen BK477.out 1) | ((with_reducible refine gate_callee (f := 29) rfl ?_); refine goesL_ (some 114) rfl rfl Try.func29 (by kernel_rfl) rfl #[.int .i64 a0, .agg #[.int .u64 a2_0, .int .u64 a2_1]] rfl (by (try simp only [List.map_toArray, List.map_cons, List.map_nil]); first | done | rfl | (simp only [List.length_drop, List.length_take]; rfl)) ?_; (with_reducible refine (sub_Leaves.calls kj28 a0 a2_0 a2_1 t493 t496 _ A41.out).mono ?_); rintro e w47 ⟨v494, rfl, ho0, hb⟩; refine ⟨_, rfl, ?_⟩; have n0_ := Aside0.mk (Kd.R_elder' (by (with_reducible repeat (first | apply Kd.R_alloc | apply Kd.R_drewN | apply Kd.R_drew)); exact HO491.out) (Kd.R_base ho0) hb); have n1_ := Aside0.mk (Kd.R_lower (Kd.R_new' ho0 (Kd.R_lt (by (with_reducible repeat (first | apply Kd.R_alloc | apply Kd.R_drewN | apply Kd.R_drew)); exact HO491.out))) (below_size (by repeat (first | (with_reducible first | exact HB.out | apply below_alloc | apply pw_below_drewN | apply below_drew1 | refine below_set ?_ GE476.out | refine below_set ?_ GE477.out) | exact HB.out)))); have n2_ := Aside0.mk (blk_below (g := gb476) (o := .cells #[.int .u64 a1_0, .int .u64 a1_1] 24 (0, 0)) (by (with_reducible repeat (first | refine blk_drewN ?_ _ | refine blk_drew ?_ | refine blk_alloc ?_ _)); exact BK476.out) hb); have n3_ := Aside0.mk (blk_below (g := gb477) (o := .cells #[.int .u64 a2_0, .int .u64 a2_1] 24 (0, 0)) (by (with_reducible repeat (first | refine blk_drewN ?_ _ | refine blk_drew ?_ | refine blk_alloc ?_ _)); exact BK477.out) hb); have n4_ := Aside0.mk (below_step (by repeat (first | (with_reducible first | exact HB.out | apply below_alloc | apply pw_below_drewN | apply below_drew1 | refine below_set ?_ GE476.out | refine below_set ?_ GE477.out) | exact HB.out)) hb); clear HO491; clear BK476; clear BK477; clear HB; have HO491 := n0_; have HO495 := n1_; have BK476 := n2_; have BK477 := n3_; have HB := n4_; clear n0_ n1_ n2_ n3_ n4_; (try clear hb); (try clear hb2); (try clear hk); (try clear hi); (try clear ho0)))
                (try simp only [Act.put, List.setIfInBounds_toArray, List.set_cons_zero, List.set_cons_succ])
                go_cut [122] (fun v122 wc => ∃ (kq : Nat) (x122_41 : Bool), v122 = .bool x122_41 ∧ Aside0 (medlarlaw08_SubTouches.j2 kq a0 t478 t479 t489 t493 x122_41 a1_0 a1_1 a2_0 a2_1 = some r) ∧ Aside0 (kq ≤ kj28) ∧ Aside0 (Kd.R k50 50 wc w.heap.size (fun k_ => some k_ ≠ (v494 : Value).ownBlock) v490 t489) ∧ Aside0 (Kd.R k50 50 wc w.heap.size (fun k_ => some k_ ≠ (v490 : Value).ownBlock) v494 t493) ∧ Aside0 (wc.heap[gb476]? = some (.cells #[.int .u64 a1_0, .int .u64 a1_1] 24 (0, 0))) ∧ Aside0 (wc.heap[gb477]? = some (.cells #[.int .u64 a2_0, .int .u64 a2_1] 24 (0, 0))) ∧ Aside0 (Below w.heap.size w wc))
                case first =>
                  have H := HC42.out
                  clear HC42
                  by_cases c48 : t492 = 0
                  · rw [if_pos c48] at H
                    have c48b0 : (t492 == 0) = true := beq_iff_eq.mpr c48
                    have c48b1 : (t492 != 0) = false := bne_eq_false_iff_eq.mpr c48
                    clear c48
                    (first | rw [c48b0] | (simp only [i64_w, i32_w]; rw [c48b0]) | skip)
                    have H' := Aside0.mk H
                    clear H
                    go_wp2
                    go_meet
                    case rel => exact ⟨_, ((t496 != 0)), (by first | rfl | (simp; done) | (simp [*]; done)), H', ⟨by have := HJ9.out; have := HJ28.out; first | omega | exact Nat.le_refl _⟩, ⟨by (with_reducible repeat (first | apply Kd.R_alloc | apply Kd.R_drewN | apply Kd.R_drew)); exact Kd.R_mono HO491.out (fun _ hk => hk.2)⟩, ⟨by (with_reducible repeat (first | apply Kd.R_alloc | apply Kd.R_drewN | apply Kd.R_drew)); exact Kd.R_mono HO495.out (fun _ hk => hk.2)⟩, ⟨by (with_reducible repeat (first | refine blk_drewN ?_ _ | refine blk_drew ?_ | refine blk_alloc ?_ _)); exact BK476.out⟩, ⟨by (with_reducible repeat (first | refine blk_drewN ?_ _ | refine blk_drew ?_ | refine blk_alloc ?_ _)); exact BK477.out⟩, ⟨by repeat (first | (with_reducible first | exact HB.out | apply below_alloc | apply pw_below_drewN | apply below_drew1 | refine below_set ?_ GE476.out | refine below_set ?_ GE477.out) | exact HB.out)⟩⟩
                  · rw [if_neg c48] at H
                    have c48b0 : (t492 == 0) = false := beq_eq_false_iff_ne.mpr c48
                    have c48b1 : (t492 != 0) = true := bne_iff_ne.mpr c48
                    (first | rw [c48b0] | (simp only [i64_w, i32_w]; rw [c48b0]) | skip)
                    have H' := Aside0.mk H
                    clear H
                    go_wp2
                    go_meet
                    case rel => exact ⟨_, (true), (by first | rfl | (simp; done) | (simp [*]; done)), H', ⟨by have := HJ9.out; have := HJ28.out; first | omega | exact Nat.le_refl _⟩, ⟨by (with_reducible repeat (first | apply Kd.R_alloc | apply Kd.R_drewN | apply Kd.R_drew)); exact Kd.R_mono HO491.out (fun _ hk => hk.2)⟩, ⟨by (with_reducible repeat (first | apply Kd.R_alloc | apply Kd.R_drewN | apply Kd.R_drew)); exact Kd.R_mono HO495.out (fun _ hk => hk.2)⟩, ⟨by (with_reducible repeat (first | refine blk_drewN ?_ _ | refine blk_drew ?_ | refine blk_alloc ?_ _)); exact BK476.out⟩, ⟨by (with_reducible repeat (first | refine blk_drewN ?_ _ | refine blk_drew ?_ | refine blk_alloc ?_ _)); exact BK477.out⟩, ⟨by repeat (first | (with_reducible first | exact HB.out | apply below_alloc | apply pw_below_drewN | apply below_drew1 | refine below_set ?_ GE476.out | refine below_set ?_ GE477.out) | exact HB.out)⟩⟩
                case rest =>
                  clear HC42
                  try clear c1
                  try clear c2
                  try clear p2
                  try clear c3
                  try clear c4
                  try clear c7
                  try clear c7b0
                  try clear c7b1
                  try clear c11
                  try clear c14
                  try clear c23
                  try clear c23b0
                  try clear c23b1
                  try clear c24
                  try clear c24b0
                  try clear c24b1
                  try clear c25
                  try clear c25b0
                  try clear c25b1
                  try clear c25b2
                  try clear c26
                  try clear c29
                  try clear c30
                  try clear c31
                  try clear c34
                  try clear c35
                  try clear c35b0
                  try clear c35b1
                  try clear c36
                  try clear c36b0
                  try clear c36b1
                  try clear c37
                  try clear c38
                  try clear c39
                  try clear c43
                  try clear c48
                  try clear c48b0
                  try clear c48b1
                  try clear hcz15_0
                  try clear hcz15_1
                  try clear hcz16_0
                  try clear hcz16_1
                  try clear hcz18_0
                  try clear hcz18_1
                  try clear hcz19_0
                  try clear hcz19_1
                  try clear hcz21_0
                  try clear hcz21_1
                  try clear hcz31_0
                  try clear hcz31_1
                  try clear hcz33_0
                  try clear hcz33_1
                  try clear hcz44_0
                  try clear hcz44_1
                  try clear hcz46_0
                  try clear hcz46_1
                  try clear hfz15_0
                  try clear hfz15_1
                  try clear hfz16_0
                  try clear hfz16_1
                  try clear hfz18_0
                  try clear hfz18_1
                  try clear hfz19_0
                  try clear hfz19_1
                  try clear hfz21_0
                  try clear hfz21_1
                  try clear hfz31_0
                  try clear hfz31_1
                  try clear hfz33_0
                  try clear hfz33_1
                  try clear hfz44_0
                  try clear hfz44_1
                  try clear hfz46_0
                  try clear hfz46_1
                  try clear p2
                  obtain ⟨kq, x122_41, rfl, HA, HJ41, HO_20, HO_22, BK476, BK477, HB⟩ := hcut
                  cases kq with
                  | zero => exact absurd HA.out (by simp [medlarlaw08_SubTouches.j2])
                  | succ kj41 =>
                    have H := HA.out
                    clear HA
                    simp only [medlarlaw08_SubTouches.j2] at H
                    by_cases c49 : x122_41 = true
                    · subst c49
                      have H1 : (some false) = some r := by rw [if_pos rfl] at H; exact H
                      clear H
                      have H := H1
                      clear H1
                      exact absurd ((Option.some.inj H).trans hT.out) Bool.false_ne_true
                    · replace c49 := Bool.eq_false_iff.mpr c49
                      subst c49
                      have H1 : (if ([] : List (S50)).length + t489.length < 8796093022208 then ((some (([] : List (S50)) ++ t489 : List (S50))).bind fun y497 => (if y497.length + t493.length < 8796093022208 then ((some (y497 ++ t493 : List (S50))).bind fun y500 => (medlarlaw08_SubTouches.l0 kj41 a0 t478 t479 false y500 (y500.length : Int) 0 a1_0 a1_1 a2_0 a2_1)) else (none))) else (none)) = some r := by rw [if_neg (show ¬ (false = true) by decide)] at H; exact H
                      clear H
                      have H := H1
                      clear H1
                      by_cases c50 : ([] : List (S50)).length + t489.length < 8796093022208
                      · rw [if_pos c50] at H
                        have LMc50 := Aside0.mk c50
                        clear c50
                        obtain ⟨y497, hy497⟩ : ∃ y_ : List (S50), y_ = (([] : List (S50)) ++ t489) := ⟨_, rfl⟩
                        replace H : (if y497.length + t493.length < 8796093022208 then ((some (y497 ++ t493 : List (S50))).bind fun y500 => (medlarlaw08_SubTouches.l0 kj41 a0 t478 t479 false y500 (y500.length : Int) 0 a1_0 a1_1 a2_0 a2_1)) else (none)) = some r := by first | (rw [hy497]; with_reducible exact H) | (have H2_ := (Option.bind_some _ _).symm.trans H; rw [hy497]; with_reducible exact H2_) | (have H2_ := (Option.bind_some _ _).symm.trans H; with_reducible exact H2_) | with_reducible exact H | (rw [hy497]; exact H) | exact H
                        have Ny497 := Aside0.mk hy497
                        clear hy497
                        by_cases c51 : y497.length + t493.length < 8796093022208
                        · rw [if_pos c51] at H
                          have LMc51 := Aside0.mk c51
                          clear c51
                          obtain ⟨y500, hy500⟩ : ∃ y_ : List (S50), y_ = (y497 ++ t493) := ⟨_, rfl⟩
                          replace H : (medlarlaw08_SubTouches.l0 kj41 a0 t478 t479 false y500 (y500.length : Int) 0 a1_0 a1_1 a2_0 a2_1) = some r := by first | (rw [hy500]; with_reducible exact H) | (have H2_ := (Option.bind_some _ _).symm.trans H; rw [hy500]; with_reducible exact H2_) | (have H2_ := (Option.bind_some _ _).symm.trans H; with_reducible exact H2_) | with_reducible exact H | (rw [hy500]; exact H) | exact H
                          have Ny500 := Aside0.mk hy500
                          clear hy500
                          have H' := Aside0.mk H
                          clear H
                          obtain ⟨Ao53, co53, eo53⟩ := Kd.R_slice HO_20.out
                          subst eo53
                          go_wp2_with (first | ((with_reducible refine gate_builtin (b := .append) (xs := #[.const (.slice none 0 0), .tmp 123]) rfl ?_); at_builtin; refine Kd.R_append_rows k50 (w0 := w) w.heap.size rfl (.const (.slice none 0 0)) (.tmp 123) 41 50 (.agg #[(.int .u64 0), (.int .u64 0)]) 16 rfl Try.underlying41 info50 rfl (by decide) (by omega) (.slice none 0 0) ([] : List (S50)) t489 _ _ _ (fun k_ => some k_ ≠ (.slice Ao53 t489.length co53 : Value).ownBlock ∧ some k_ ≠ (v494 : Value).ownBlock) (fun _ => False) rfl rfl ?aO ?aR (fun _ _ h => h) (fun _ h => h.elim) ?aF ?aB ?aS ?aL ?_; (case aR => repeat (first | exact (Kd.R_reads' HO_20.out).2.2 | (with_reducible refine Kd.C_alloc ?_ _) | (with_reducible refine Kd.C_drewN ?_ _) | (with_reducible refine Kd.C_drew ?_))); (case aB => exact (by repeat (first | (with_reducible first | exact HB.out | apply below_alloc | apply pw_below_drewN | apply below_drew1 | refine below_set ?_ GE476.out | refine below_set ?_ GE477.out) | exact HB.out))); (case aF => exact (fun k_ hk => ⟨Kd.fresh' (Kd.R_lt (by (with_reducible repeat (first | apply Kd.R_alloc | apply Kd.R_drewN | apply Kd.R_drew)); exact HO_20.out)) k_ hk, Kd.fresh' (Kd.R_lt (by (with_reducible repeat (first | apply Kd.R_alloc | apply Kd.R_drewN | apply Kd.R_drew)); exact HO_22.out)) k_ hk⟩)); (case aO => exact ((Kd.R_nil _ _ _ _ (fun k_ => some k_ ≠ (.slice Ao53 t489.length co53 : Value).ownBlock ∧ some k_ ≠ (v494 : Value).ownBlock)))); (case aS => exact (below_size (by repeat (first | (with_reducible first | exact HB.out | apply below_alloc | apply pw_below_drewN | apply below_drew1 | refine below_set ?_ GE476.out | refine below_set ?_ GE477.out) | exact HB.out)))); (case aL => have := LMc50.out; omega); intro v498 w52 ho hb hg hat; rw [← Ny497.out] at ho; have n0_ := Aside0.mk (Kd.R_after (Kd.R_apart_nil (by (with_reducible repeat (first | apply Kd.R_alloc | apply Kd.R_drewN | apply Kd.R_drew)); exact HO_20.out)) hg hat); have n1_ := Aside0.mk (Kd.R_after (Kd.R_apart_nil (by (with_reducible repeat (first | apply Kd.R_alloc | apply Kd.R_drewN | apply Kd.R_drew)); exact HO_22.out)) hg hat); have n2_ := Aside0.mk (blk_grown (g := gb476) (o := .cells #[.int .u64 a1_0, .int .u64 a1_1] 24 (0, 0)) (by (with_reducible repeat (first | refine blk_drewN ?_ _ | refine blk_drew ?_ | refine blk_alloc ?_ _)); exact BK476.out) hg (by simp [Value.ownBlock])); have n3_ := Aside0.mk (blk_grown (g := gb477) (o := .cells #[.int .u64 a2_0, .int .u64 a2_1] 24 (0, 0)) (by (with_reducible repeat (first | refine blk_drewN ?_ _ | refine blk_drew ?_ | refine blk_alloc ?_ _)); exact BK477.out) hg (by simp [Value.ownBlock])); have n4_ := Aside0.mk (hb); have n5_ := Aside0.mk (ho); clear HO_20; clear HO_22; clear BK476; clear BK477; clear HB; have HO_20 := n0_; have HO_22 := n1_; have BK476 := n2_; have BK477 := n3_; have HB := n4_; have HO499 := n5_; clear n0_ n1_ n2_ n3_ n4_ n5_; clear ho hb hg hat; obtain ⟨Ao55, co55, eo55⟩ := Kd.R_slice HO_22.out; subst eo55) | ((with_reducible refine gate_builtin (b := .append) (xs := #[.tmp 124, .tmp 125]) rfl ?_); at_builtin; refine Kd.R_append_rows k50 (w0 := w) w.heap.size rfl (.tmp 124) (.tmp 125) 41 50 (.agg #[(.int .u64 0), (.int .u64 0)]) 16 rfl Try.underlying41 info50 rfl (by decide) (by omega) v498 y497 t493 _ _ _ (fun k_ => some k_ ≠ (.slice Ao53 t489.length co53 : Value).ownBlock ∧ some k_ ≠ (.slice Ao55 t493.length co55 : Value).ownBlock) (fun _ => False) rfl rfl ?aO ?aR (fun _ _ h => h) (fun _ h => h.elim) ?aF ?aB ?aS ?aL ?_; (case aR => repeat (first | exact (Kd.R_reads' HO_22.out).2.2 | (with_reducible refine Kd.C_alloc ?_ _) | (with_reducible refine Kd.C_drewN ?_ _) | (with_reducible refine Kd.C_drew ?_))); (case aB => exact (by repeat (first | (with_reducible first | exact HB.out | apply below_alloc | apply pw_below_drewN | apply below_drew1 | refine below_set ?_ GE476.out | refine below_set ?_ GE477.out) | exact HB.out))); (case aF => exact (fun k_ hk => ⟨Kd.fresh' (Kd.R_lt (by (with_reducible repeat (first | apply Kd.R_alloc | apply Kd.R_drewN | apply Kd.R_drew)); exact HO_20.out)) k_ hk, Kd.fresh' (Kd.R_lt (by (with_reducible repeat (first | apply Kd.R_alloc | apply Kd.R_drewN | apply Kd.R_drew)); exact HO_22.out)) k_ hk⟩)); (case aO => exact (by (with_reducible repeat (first | apply Kd.R_alloc | apply Kd.R_drewN | apply Kd.R_drew)); exact HO499.out)); (case aS => exact (below_size (by repeat (first | (with_reducible first | exact HB.out | apply below_alloc | apply pw_below_drewN | apply below_drew1 | refine below_set ?_ GE476.out | refine below_set ?_ GE477.out) | exact HB.out)))); (case aL => have := LMc51.out; omega); intro v501 w54 ho hb hg hat; rw [← Ny500.out] at ho; have n0_ := Aside0.mk (Kd.R_after (ok := (fun k_ => some k_ ≠ (.slice Ao55 t493.length co55 : Value).ownBlock)) (by (with_reducible repeat (first | apply Kd.R_alloc | apply Kd.R_drewN | apply Kd.R_drew)); exact HO_20.out) hg hat); have n1_ := Aside0.mk (Kd.R_after (ok := (fun k_ => some k_ ≠ (.slice Ao53 t489.length co53 : Value).ownBlock)) (by (with_reducible repeat (first | apply Kd.R_alloc | apply Kd.R_drewN | apply Kd.R_drew)); exact HO_22.out) hg hat); have n2_ := Aside0.mk (blk_grown (g := gb476) (o := .cells #[.int .u64 a1_0, .int .u64 a1_1] 24 (0, 0)) (by (with_reducible repeat (first | refine blk_drewN ?_ _ | refine blk_drew ?_ | refine blk_alloc ?_ _)); exact BK476.out) hg (Kd.R_ne HO499.out BK476.out (by decide))); have n3_ := Aside0.mk (blk_grown (g := gb477) (o := .cells #[.int .u64 a2_0, .int .u64 a2_1] 24 (0, 0)) (by (with_reducible repeat (first | refine blk_drewN ?_ _ | refine blk_drew ?_ | refine blk_alloc ?_ _)); exact BK477.out) hg (Kd.R_ne HO499.out BK477.out (by decide))); have n4_ := Aside0.mk (hb); have n5_ := Aside0.mk (ho); clear HO_20; clear HO_22; clear BK476; clear BK477; clear HB; clear HO499; have HO_20 := n0_; have HO_22 := n1_; have BK476 := n2_; have BK477 := n3_; have HB := n4_; have HO502 := n5_; clear n0_ n1_ n2_ n3_ n4_ n5_; clear ho hb hg hat; obtain ⟨Ao56, co56, eo56⟩ := Kd.R_slice HO502.out; subst eo56))
                          go_loopg [24, 128] kj41 (fun kq v24 v128 w' => ∃ (x24_4 : Bool) (x128_4 : Int), v24 = .bool x24_4 ∧ v128 = .int .i64 x128_4 ∧ Aside0 (medlarlaw08_SubTouches.l0 kq a0 t478 t479 x24_4 y500 (y500.length : Int) x128_4 a1_0 a1_1 a2_0 a2_1 = some r) ∧ Aside0 (kq ≤ kj41) ∧ Aside0 (Kd.R k50 50 w' w.heap.size (fun _ => True) (.slice Ao56 y500.length co56) y500) ∧ Aside0 (w'.heap[gb476]? = some (.cells #[.int .u64 a1_0, .int .u64 a1_1] 24 (0, 0))) ∧ Aside0 (w'.heap[gb477]? = some (.cells #[.int .u64 a2_0, .int .u64 a2_1] 24 (0, 0))) ∧ Aside0 (Below w.heap.size w w'))
                          case atStart => exact ⟨(false), (0), (by first | rfl | (simp; done) | (simp [*]; done)), (by first | rfl | (simp; done) | (simp [*]; done)), H', ⟨Nat.le_refl _⟩, ⟨by (with_reducible repeat (first | apply Kd.R_alloc | apply Kd.R_drewN | apply Kd.R_drew)); exact Kd.R_mono HO502.out (fun _ hk => trivial)⟩, ⟨by (with_reducible repeat (first | refine blk_drewN ?_ _ | refine blk_drew ?_ | refine blk_alloc ?_ _)); exact BK476.out⟩, ⟨by (with_reducible repeat (first | refine blk_drewN ?_ _ | refine blk_drew ?_ | refine blk_alloc ?_ _)); exact BK477.out⟩, ⟨by repeat (first | (with_reducible first | exact HB.out | apply below_alloc | apply pw_below_drewN | apply below_drew1 | refine below_set ?_ GE476.out | refine below_set ?_ GE477.out) | exact HB.out)⟩⟩
                          case round =>
                            clear H'
                            try clear c1
                            try clear c2
                            try clear p2
                            try clear c3
                            try clear c4
                            try clear c5
                            try clear c7
                            try clear c7b0
                            try clear c7b1
                            try clear c11
                            try clear c14
                            try clear c23
                            try clear c23b0
                            try clear c23b1
                            try clear c24
                            try clear c24b0
                            try clear c24b1
                            try clear c25
                            try clear c25b0
                            try clear c25b1
                            try clear c25b2
                            try clear c26
                            try clear c29
                            try clear c30
                            try clear c31
                            try clear c34
                            try clear c35
                            try clear c35b0
                            try clear c35b1
                            try clear c36
                            try clear c36b0
                            try clear c36b1
                            try clear c37
                            try clear c38
                            try clear c39
                            try clear c43
                            try clear c48
                            try clear c48b0
                            try clear c48b1
                            try clear c49
                            try clear c50
                            try clear c51
                            try clear hcz15_0
                            try clear hcz15_1
                            try clear hcz16_0
                            try clear hcz16_1
                            try clear hcz18_0
                            try clear hcz18_1
                            try clear hcz19_0
                            try clear hcz19_1
                            try clear hcz21_0
                            try clear hcz21_1
                            try clear hcz31_0
                            try clear hcz31_1
                            try clear hcz33_0
                            try clear hcz33_1
                            try clear hcz44_0
                            try clear hcz44_1
                            try clear hcz46_0
                            try clear hcz46_1
                            try clear hfz15_0
                            try clear hfz15_1
                            try clear hfz16_0
                            try clear hfz16_1
                            try clear hfz18_0
                            try clear hfz18_1
                            try clear hfz19_0
                            try clear hfz19_1
                            try clear hfz21_0
                            try clear hfz21_1
                            try clear hfz31_0
                            try clear hfz31_1
                            try clear hfz33_0
                            try clear hfz33_1
                            try clear hfz44_0
                            try clear hfz44_1
                            try clear hfz46_0
                            try clear hfz46_1
                            try clear p2
                            obtain ⟨x24_4, x128_4, rfl, rfl, HA, HK4, HO_126, BK476, BK477, HB⟩ := hrel
                            cases gk with
                            | zero => exact absurd HA.out (by simp [medlarlaw08_SubTouches.l0])
                            | succ k4 =>
                              have H := HA.out
                              clear HA
                              simp only [medlarlaw08_SubTouches.l0] at H
                              by_cases c57 : x128_4 < (y500.length : Int)
                              · rw [if_pos c57] at H
                                have c57b0 : decide (x128_4 < (y500.length : Int)) = true := decide_eq_true c57
                                clear c57
                                by_cases c58 : 0 ≤ x128_4
                                · rw [if_pos c58] at H
                                  have c58b0 : decide (0 ≤ x128_4) = true := decide_eq_true c58
                                  clear c58
                                  by_cases c59 : x128_4 < (y500.length : Int)
                                  · rw [if_pos c59] at H
                                    have c59b0 : decide (x128_4 < (y500.length : Int)) = true := decide_eq_true c59
                                    clear c59
                                    replace H := Option.bind_eq_some_iff.mp H
                                    obtain ⟨⟨t505, t506⟩, A600, H⟩ := H
                                    replace H : ((sub_Has.f k4 a0 a2_0 a2_1 ((rd_T50 y500 x128_4).f0)).bind fun bt507 => (if t506 = 0 then (if bt507.2 = 0 then (if x24_4 = true then (medlarlaw08_SubTouches.l0 k4 a0 t478 t479 true y500 (y500.length : Int) (wrap64 (x128_4 + 1)) a1_0 a1_1 a2_0 a2_1) else (if t505 = true then (medlarlaw08_SubTouches.l0 k4 a0 t478 t479 bt507.1 y500 (y500.length : Int) (wrap64 (x128_4 + 1)) a1_0 a1_1 a2_0 a2_1) else (medlarlaw08_SubTouches.l0 k4 a0 t478 t479 false y500 (y500.length : Int) (wrap64 (x128_4 + 1)) a1_0 a1_1 a2_0 a2_1))) else (some false)) else (some false))) = some r := H
                                    have A60 := Aside0.mk A600
                                    clear A600
                                    replace H := Option.bind_eq_some_iff.mp H
                                    obtain ⟨⟨t507, t508⟩, A610, H⟩ := H
                                    replace H : (if t506 = 0 then (if t508 = 0 then (if x24_4 = true then (medlarlaw08_SubTouches.l0 k4 a0 t478 t479 true y500 (y500.length : Int) (wrap64 (x128_4 + 1)) a1_0 a1_1 a2_0 a2_1) else (if t505 = true then (medlarlaw08_SubTouches.l0 k4 a0 t478 t479 t507 y500 (y500.length : Int) (wrap64 (x128_4 + 1)) a1_0 a1_1 a2_0 a2_1) else (medlarlaw08_SubTouches.l0 k4 a0 t478 t479 false y500 (y500.length : Int) (wrap64 (x128_4 + 1)) a1_0 a1_1 a2_0 a2_1))) else (some false)) else (some false)) = some r := H
                                    have A61 := Aside0.mk A610
                                    clear A610
                                    by_cases c62 : t506 = 0
                                    · rw [if_pos c62] at H
                                      have c62b0 : (t506 == 0) = true := beq_iff_eq.mpr c62
                                      have c62b1 : (t506 != 0) = false := bne_eq_false_iff_eq.mpr c62
                                      clear c62
                                      by_cases c63 : t508 = 0
                                      · rw [if_pos c63] at H
                                        have c63b0 : (t508 == 0) = true := beq_iff_eq.mpr c63
                                        have c63b1 : (t508 != 0) = false := bne_eq_false_iff_eq.mpr c63
                                        clear c63
                                        by_cases c64 : x24_4 = true
                                        · subst c64
                                          have H1 : (medlarlaw08_SubTouches.l0 k4 a0 t478 t479 true y500 (y500.length : Int) (wrap64 (x128_4 + 1)) a1_0 a1_1 a2_0 a2_1) = some r := by rw [if_pos rfl] at H; exact H
                                          clear H
                                          have H := H1
                                          clear H1
                                          have H' := Aside0.mk H
                                          clear H
                                          have p503 : 0 ≤ (x128_4 : Int) := of_decide_eq_true (by first | (with_reducible assumption) | assumption)
                                          have q503 : x128_4 < (y500.length : Int) := of_decide_eq_true (by first | (with_reducible assumption) | assumption)
                                          obtain ⟨ad503, e503, hx503_0, hx503_1⟩ := at_T50 (Kd.R_reads' HO_126.out).2.2 x128_4 p503 q503
                                          cases e503
                                          replace p503 := eq_true p503
                                          replace q503 := eq_true q503
                                          go_wp2_with (first | ((with_reducible refine gate_dst (N := 26) rfl ?_); refine box_event ?hg (N := 26) ?hd (cs := #[.int .u64 0, .int .u64 0]) (t := 50) ?hr ?_; (case hd => rfl); (case hg => rfl); (case hr => first | (go_simp; done) | (go_simp; rfl)); intro gb504 hg w65 hbox hb; have n0_ := Aside0.mk (Kd.R_below (Kd.R_elderB (by (with_reducible repeat (first | apply Kd.R_alloc | apply Kd.R_drewN | apply Kd.R_drew)); exact HO_126.out) gb504 (Nat.le_of_eq hg.symm)) hb); have n1_ := Aside0.mk (blk_below (g := gb476) (o := .cells #[.int .u64 a1_0, .int .u64 a1_1] 24 (0, 0)) (by (with_reducible repeat (first | refine blk_drewN ?_ _ | refine blk_drew ?_ | refine blk_alloc ?_ _)); exact BK476.out) hb); have n2_ := Aside0.mk (blk_below (g := gb477) (o := .cells #[.int .u64 a2_0, .int .u64 a2_1] 24 (0, 0)) (by (with_reducible repeat (first | refine blk_drewN ?_ _ | refine blk_drew ?_ | refine blk_alloc ?_ _)); exact BK477.out) hb); have n3_ := Aside0.mk (below_step (by repeat (first | (with_reducible first | exact HB.out | apply below_alloc | apply pw_below_drewN | apply below_drew1 | refine below_set ?_ GE476.out | refine below_set ?_ GE477.out) | exact HB.out)) hb); have n4_ := Aside0.mk (hbox); have n5_ := Aside0.mk ((by rw [hg]; exact (below_size (by repeat (first | (with_reducible first | exact HB.out | apply below_alloc | apply pw_below_drewN | apply below_drew1 | refine below_set ?_ GE476.out | refine below_set ?_ GE477.out) | exact HB.out))) : w.heap.size ≤ gb504)); have n6_ := Aside0.mk ((by rw [hg]; exact (below_size (by repeat (first | (with_reducible first | exact HB.out | apply below_alloc | apply pw_below_drewN | apply below_drew1 | refine below_set ?_ GE476.out | refine below_set ?_ GE477.out) | exact HB.out))) : w.heap.size ≤ gb504)); have n7_ := Aside0.mk ((by rw [hg]; exact Nat.ne_of_lt (blk_lt (g := gb476) (o := .cells #[.int .u64 a1_0, .int .u64 a1_1] 24 (0, 0)) (by (with_reducible repeat (first | refine blk_drewN ?_ _ | refine blk_drew ?_ | refine blk_alloc ?_ _)); exact BK476.out)) : gb476 ≠ gb504)); have n8_ := Aside0.mk ((by rw [hg]; exact Nat.ne_of_gt (blk_lt (g := gb476) (o := .cells #[.int .u64 a1_0, .int .u64 a1_1] 24 (0, 0)) (by (with_reducible repeat (first | refine blk_drewN ?_ _ | refine blk_drew ?_ | refine blk_alloc ?_ _)); exact BK476.out)) : gb504 ≠ gb476)); have n9_ := Aside0.mk ((by rw [hg]; exact Nat.ne_of_lt (blk_lt (g := gb477) (o := .cells #[.int .u64 a2_0, .int .u64 a2_1] 24 (0, 0)) (by (with_reducible repeat (first | refine blk_drewN ?_ _ | refine blk_drew ?_ | refine blk_alloc ?_ _)); exact BK477.out)) : gb477 ≠ gb504)); have n10_ := Aside0.mk ((by rw [hg]; exact Nat.ne_of_gt (blk_lt (g := gb477) (o := .cells #[.int .u64 a2_0, .int .u64 a2_1] 24 (0, 0)) (by (with_reducible repeat (first | refine blk_drewN ?_ _ | refine blk_drew ?_ | refine blk_alloc ?_ _)); exact BK477.out)) : gb504 ≠ gb477)); clear HO_126; clear BK476; clear BK477; clear HB; have HO_126 := n0_; have BK476 := n1_; have BK477 := n2_; have HB := n3_; have BK504 := n4_; have GW504 := n5_; have GE504 := n6_; have NB476_504 := n7_; have NB504_476 := n8_; have NB477_504 := n9_; have NB504_477 := n10_; clear n0_ n1_ n2_ n3_ n4_ n5_ n6_ n7_ n8_ n9_ n10_; clear hb hbox hg; have hnb66 := NB504_476.out; have hnc66 := NB476_504.out; have hnb67 := NB504_477.out; have hnc67 := NB477_504.out; have hcz68_0 : w65.cell? ⟨gb504, 0, none⟩ = some (.int .u64 0) := (blk_cell BK504.out 0).trans rfl; have hcz68_1 : w65.cell? ⟨gb504, 1, none⟩ = some (.int .u64 0) := (blk_cell BK504.out 1).trans rfl; have hfz68_0 := blk_frozen BK504.out 0; have hfz68_1 := blk_frozen BK504.out 1; have hnb69 := NB476_477.out; have hnc69 := NB477_476.out; have hcz70_0 : w65.cell? ⟨gb476, 0, none⟩ = some (.int .u64 a1_0) := (blk_cell BK476.out 0).trans rfl; have hcz70_1 : w65.cell? ⟨gb476, 1, none⟩ = some (.int .u64 a1_1) := (blk_cell BK476.out 1).trans rfl; have hfz70_0 := blk_frozen BK476.out 0; have hfz70_1 := blk_frozen BK476.out 1) | ((with_reducible refine gate_callee (f := 34) rfl ?_); refine goesL_ (some 137) rfl rfl Try.func34 (by kernel_rfl) rfl #[.int .i64 a0, .agg #[.int .u64 a1_0, .int .u64 a1_1], .int .u64 ((rd_T50 y500 x128_4).f0)] rfl (by (try simp only [List.map_toArray, List.map_cons, List.map_nil]); first | done | rfl | (simp only [List.length_drop, List.length_take]; rfl)) ?_; (with_reducible refine (sub_Has.calls k4 a0 a1_0 a1_1 ((rd_T50 y500 x128_4).f0) t505 t506 _ A60.out).mono ?_); rintro e w71 ⟨rfl, hb⟩; refine ⟨_, rfl, ?_⟩; have n0_ := Aside0.mk (Kd.R_below (by (with_reducible repeat (first | apply Kd.R_alloc | apply Kd.R_drewN | apply Kd.R_drew)); exact (Kd.R_mono (Kd.R_far (p := ⟨gb504, 1, none⟩) (Kd.R_far (p := ⟨gb504, 0, none⟩) (Kd.R_mono HO_126.out (fun k_ hk => (⟨hk, hk.2⟩ : _ ∧ k_ ≠ gb504))) (fun _ hk => hk.2) (.int .u64 ((rd_T50 y500 x128_4).f0))) (fun _ hk => hk.2) (.int .u64 ((rd_T50 y500 x128_4).f1))) (fun _ h_ => h_.1))) hb); have n1_ := Aside0.mk (blk_below (g := gb476) (o := .cells #[.int .u64 a1_0, .int .u64 a1_1] 24 (0, 0)) (by (with_reducible repeat (first | refine blk_drewN ?_ _ | refine blk_drew ?_ | refine blk_alloc ?_ _)); refine blk_far ?_ NB476_504.out _; (with_reducible repeat (first | refine blk_drewN ?_ _ | refine blk_drew ?_ | refine blk_alloc ?_ _)); refine blk_far ?_ NB476_504.out _; (with_reducible repeat (first | refine blk_drewN ?_ _ | refine blk_drew ?_ | refine blk_alloc ?_ _)); exact BK476.out) hb); have n2_ := Aside0.mk (blk_below (g := gb477) (o := .cells #[.int .u64 a2_0, .int .u64 a2_1] 24 (0, 0)) (by (with_reducible repeat (first | refine blk_drewN ?_ _ | refine blk_drew ?_ | refine blk_alloc ?_ _)); refine blk_far ?_ NB477_504.out _; (with_reducible repeat (first | refine blk_drewN ?_ _ | refine blk_drew ?_ | refine blk_alloc ?_ _)); refine blk_far ?_ NB477_504.out _; (with_reducible repeat (first | refine blk_drewN ?_ _ | refine blk_drew ?_ | refine blk_alloc ?_ _)); exact BK477.out) hb); have n3_ := Aside0.mk (blk_below (g := gb504) (o := .cells #[.int .u64 ((rd_T50 y500 x128_4).f0), .int .u64 ((rd_T50 y500 x128_4).f1)] 50 (0, 0)) (by (with_reducible repeat (first | refine blk_drewN ?_ _ | refine blk_drew ?_ | refine blk_alloc ?_ _)); refine blk_put (cs := #[.int .u64 ((rd_T50 y500 x128_4).f0), .int .u64 0]) ?_ 1 _ rfl; (with_reducible repeat (first | refine blk_drewN ?_ _ | refine blk_drew ?_ | refine blk_alloc ?_ _)); refine blk_put (cs := #[.int .u64 0, .int .u64 0]) ?_ 0 _ rfl; (with_reducible repeat (first | refine blk_drewN ?_ _ | refine blk_drew ?_ | refine blk_alloc ?_ _)); exact BK504.out) hb); have n4_ := Aside0.mk (below_step (by repeat (first | (with_reducible first | exact HB.out | apply below_alloc | apply pw_below_drewN | apply below_drew1 | refine below_set ?_ GE476.out | refine below_set ?_ GE477.out | refine below_set ?_ GE504.out) | exact HB.out)) hb); clear HO_126; clear BK476; clear BK477; clear BK504; clear HB; have HO_126 := n0_; have BK476 := n1_; have BK477 := n2_; have BK504 := n3_; have HB := n4_; clear n0_ n1_ n2_ n3_ n4_; (try clear hb); (try clear hb2); (try clear hk); (try clear hi); have hcz72_0 : w71.cell? ⟨gb477, 0, none⟩ = some (.int .u64 a2_0) := (blk_cell BK477.out 0).trans rfl; have hcz72_1 : w71.cell? ⟨gb477, 1, none⟩ = some (.int .u64 a2_1) := (blk_cell BK477.out 1).trans rfl; have hfz72_0 := blk_frozen BK477.out 0; have hfz72_1 := blk_frozen BK477.out 1; have hcz73_0 : w71.cell? ⟨gb504, 0, none⟩ = some (.int .u64 ((rd_T50 y500 x128_4).f0)) := (blk_cell BK504.out 0).trans rfl; have hcz73_1 : w71.cell? ⟨gb504, 1, none⟩ = some (.int .u64 ((rd_T50 y500 x128_4).f1)) := (blk_cell BK504.out 1).trans rfl; have hfz73_0 := blk_frozen BK504.out 0; have hfz73_1 := blk_frozen BK504.out 1) | ((with_reducible refine gate_callee (f := 34) rfl ?_); refine goesL_ (some 145) rfl rfl Try.func34 (by kernel_rfl) rfl #[.int .i64 a0, .agg #[.int .u64 a2_0, .int .u64 a2_1], .int .u64 ((rd_T50 y500 x128_4).f0)] rfl (by (try simp only [List.map_toArray, List.map_cons, List.map_nil]); first | done | rfl | (simp only [List.length_drop, List.length_take]; rfl)) ?_; (with_reducible refine (sub_Has.calls k4 a0 a2_0 a2_1 ((rd_T50 y500 x128_4).f0) t507 t508 _ A61.out).mono ?_); rintro e w74 ⟨rfl, hb⟩; refine ⟨_, rfl, ?_⟩; have n0_ := Aside0.mk (Kd.R_below (by (with_reducible repeat (first | apply Kd.R_alloc | apply Kd.R_drewN | apply Kd.R_drew)); exact HO_126.out) hb); have n1_ := Aside0.mk (blk_below (g := gb476) (o := .cells #[.int .u64 a1_0, .int .u64 a1_1] 24 (0, 0)) (by (with_reducible repeat (first | refine blk_drewN ?_ _ | refine blk_drew ?_ | refine blk_alloc ?_ _)); exact BK476.out) hb); have n2_ := Aside0.mk (blk_below (g := gb477) (o := .cells #[.int .u64 a2_0, .int .u64 a2_1] 24 (0, 0)) (by (with_reducible repeat (first | refine blk_drewN ?_ _ | refine blk_drew ?_ | refine blk_alloc ?_ _)); exact BK477.out) hb); have n3_ := Aside0.mk (blk_below (g := gb504) (o := .cells #[.int .u64 ((rd_T50 y500 x128_4).f0), .int .u64 ((rd_T50 y500 x128_4).f1)] 50 (0, 0)) (by (with_reducible repeat (first | refine blk_drewN ?_ _ | refine blk_drew ?_ | refine blk_alloc ?_ _)); exact BK504.out) hb); have n4_ := Aside0.mk (below_step (by repeat (first | (with_reducible first | exact HB.out | apply below_alloc | apply pw_below_drewN | apply below_drew1 | refine below_set ?_ GE476.out | refine below_set ?_ GE477.out | refine below_set ?_ GE504.out) | exact HB.out)) hb); clear HO_126; clear BK476; clear BK477; clear BK504; clear HB; have HO_126 := n0_; have BK476 := n1_; have BK477 := n2_; have BK504 := n3_; have HB := n4_; clear n0_ n1_ n2_ n3_ n4_; (try clear hb); (try clear hb2); (try clear hk); (try clear hi)))
                                          go_roundg k4
                                          case measure => have := HJ9.out; have := HJ28.out; have := HJ41.out; have := HK4.out; omega
                                          case rel => exact ⟨(true), (wrap64 (x128_4 + 1)), (by first | rfl | (simp; done) | (simp [*]; done)), (by first | rfl | (simp; done) | (simp [*]; done)), H', ⟨by have := HJ9.out; have := HJ28.out; have := HJ41.out; have := HK4.out; omega⟩, ⟨by (with_reducible repeat (first | apply Kd.R_alloc | apply Kd.R_drewN | apply Kd.R_drew)); exact Kd.R_mono HO_126.out (fun _ hk => trivial)⟩, ⟨by (with_reducible repeat (first | refine blk_drewN ?_ _ | refine blk_drew ?_ | refine blk_alloc ?_ _)); exact BK476.out⟩, ⟨by (with_reducible repeat (first | refine blk_drewN ?_ _ | refine blk_drew ?_ | refine blk_alloc ?_ _)); exact BK477.out⟩, ⟨by repeat (first | (with_reducible first | exact HB.out | apply below_alloc | apply pw_below_drewN | apply below_drew1 | refine below_set ?_ GE476.out | refine below_set ?_ GE477.out | refine below_set ?_ GE504.out) | exact HB.out)⟩⟩
                                        · replace c64 := Bool.eq_false_iff.mpr c64
                                          subst c64
                                          have H1 : (if t505 = true then (medlarlaw08_SubTouches.l0 k4 a0 t478 t479 t507 y500 (y500.length : Int) (wrap64 (x128_4 + 1)) a1_0 a1_1 a2_0 a2_1) else (medlarlaw08_SubTouches.l0 k4 a0 t478 t479 false y500 (y500.length : Int) (wrap64 (x128_4 + 1)) a1_0 a1_1 a2_0 a2_1)) = some r := by rw [if_neg (show ¬ (false = true) by decide)] at H; exact H
                                          clear H
                                          have H := H1
                                          clear H1
                                          by_cases c75 : t505 = true
                                          · subst c75
                                            have H1 : (medlarlaw08_SubTouches.l0 k4 a0 t478 t479 t507 y500 (y500.length : Int) (wrap64 (x128_4 + 1)) a1_0 a1_1 a2_0 a2_1) = some r := by rw [if_pos rfl] at H; exact H
                                            clear H
                                            have H := H1
                                            clear H1
                                            have H' := Aside0.mk H
                                            clear H
                                            have p503 : 0 ≤ (x128_4 : Int) := of_decide_eq_true (by first | (with_reducible assumption) | assumption)
                                            have q503 : x128_4 < (y500.length : Int) := of_decide_eq_true (by first | (with_reducible assumption) | assumption)
                                            obtain ⟨ad503, e503, hx503_0, hx503_1⟩ := at_T50 (Kd.R_reads' HO_126.out).2.2 x128_4 p503 q503
                                            cases e503
                                            replace p503 := eq_true p503
                                            replace q503 := eq_true q503
                                            go_wp2_with (first | ((with_reducible refine gate_dst (N := 26) rfl ?_); refine box_event ?hg (N := 26) ?hd (cs := #[.int .u64 0, .int .u64 0]) (t := 50) ?hr ?_; (case hd => rfl); (case hg => rfl); (case hr => first | (go_simp; done) | (go_simp; rfl)); intro gb504 hg w76 hbox hb; have n0_ := Aside0.mk (Kd.R_below (Kd.R_elderB (by (with_reducible repeat (first | apply Kd.R_alloc | apply Kd.R_drewN | apply Kd.R_drew)); exact HO_126.out) gb504 (Nat.le_of_eq hg.symm)) hb); have n1_ := Aside0.mk (blk_below (g := gb476) (o := .cells #[.int .u64 a1_0, .int .u64 a1_1] 24 (0, 0)) (by (with_reducible repeat (first | refine blk_drewN ?_ _ | refine blk_drew ?_ | refine blk_alloc ?_ _)); exact BK476.out) hb); have n2_ := Aside0.mk (blk_below (g := gb477) (o := .cells #[.int .u64 a2_0, .int .u64 a2_1] 24 (0, 0)) (by (with_reducible repeat (first | refine blk_drewN ?_ _ | refine blk_drew ?_ | refine blk_alloc ?_ _)); exact BK477.out) hb); have n3_ := Aside0.mk (below_step (by repeat (first | (with_reducible first | exact HB.out | apply below_alloc | apply pw_below_drewN | apply below_drew1 | refine below_set ?_ GE476.out | refine below_set ?_ GE477.out) | exact HB.out)) hb); have n4_ := Aside0.mk (hbox); have n5_ := Aside0.mk ((by rw [hg]; exact (below_size (by repeat (first | (with_reducible first | exact HB.out | apply below_alloc | apply pw_below_drewN | apply below_drew1 | refine below_set ?_ GE476.out | refine below_set ?_ GE477.out) | exact HB.out))) : w.heap.size ≤ gb504)); have n6_ := Aside0.mk ((by rw [hg]; exact (below_size (by repeat (first | (with_reducible first | exact HB.out | apply below_alloc | apply pw_below_drewN | apply below_drew1 | refine below_set ?_ GE476.out | refine below_set ?_ GE477.out) | exact HB.out))) : w.heap.size ≤ gb504)); have n7_ := Aside0.mk ((by rw [hg]; exact Nat.ne_of_lt (blk_lt (g := gb476) (o := .cells #[.int .u64 a1_0, .int .u64 a1_1] 24 (0, 0)) (by (with_reducible repeat (first | refine blk_drewN ?_ _ | refine blk_drew ?_ | refine blk_alloc ?_ _)); exact BK476.out)) : gb476 ≠ gb504)); have n8_ := Aside0.mk ((by rw [hg]; exact Nat.ne_of_gt (blk_lt (g := gb476) (o := .cells #[.int .u64 a1_0, .int .u64 a1_1] 24 (0, 0)) (by (with_reducible repeat (first | refine blk_drewN ?_ _ | refine blk_drew ?_ | refine blk_alloc ?_ _)); exact BK476.out)) : gb504 ≠ gb476)); have n9_ := Aside0.mk ((by rw [hg]; exact Nat.ne_of_lt (blk_lt (g := gb477) (o := .cells #[.int .u64 a2_0, .int .u64 a2_1] 24 (0, 0)) (by (with_reducible repeat (first | refine blk_drewN ?_ _ | refine blk_drew ?_ | refine blk_alloc ?_ _)); exact BK477.out)) : gb477 ≠ gb504)); have n10_ := Aside0.mk ((by rw [hg]; exact Nat.ne_of_gt (blk_lt (g := gb477) (o := .cells #[.int .u64 a2_0, .int .u64 a2_1] 24 (0, 0)) (by (with_reducible repeat (first | refine blk_drewN ?_ _ | refine blk_drew ?_ | refine blk_alloc ?_ _)); exact BK477.out)) : gb504 ≠ gb477)); clear HO_126; clear BK476; clear BK477; clear HB; have HO_126 := n0_; have BK476 := n1_; have BK477 := n2_; have HB := n3_; have BK504 := n4_; have GW504 := n5_; have GE504 := n6_; have NB476_504 := n7_; have NB504_476 := n8_; have NB477_504 := n9_; have NB504_477 := n10_; clear n0_ n1_ n2_ n3_ n4_ n5_ n6_ n7_ n8_ n9_ n10_; clear hb hbox hg; have hnb77 := NB504_476.out; have hnc77 := NB476_504.out; have hnb78 := NB504_477.out; have hnc78 := NB477_504.out; have hcz79_0 : w76.cell? ⟨gb504, 0, none⟩ = some (.int .u64 0) := (blk_cell BK504.out 0).trans rfl; have hcz79_1 : w76.cell? ⟨gb504, 1, none⟩ = some (.int .u64 0) := (blk_cell BK504.out 1).trans rfl; have hfz79_0 := blk_frozen BK504.out 0; have hfz79_1 := blk_frozen BK504.out 1; have hnb80 := NB476_477.out; have hnc80 := NB477_476.out; have hcz81_0 : w76.cell? ⟨gb476, 0, none⟩ = some (.int .u64 a1_0) := (blk_cell BK476.out 0).trans rfl; have hcz81_1 : w76.cell? ⟨gb476, 1, none⟩ = some (.int .u64 a1_1) := (blk_cell BK476.out 1).trans rfl; have hfz81_0 := blk_frozen BK476.out 0; have hfz81_1 := blk_frozen BK476.out 1) | ((with_reducible refine gate_callee (f := 34) rfl ?_); refine goesL_ (some 137) rfl rfl Try.func34 (by kernel_rfl) rfl #[.int .i64 a0, .agg #[.int .u64 a1_0, .int .u64 a1_1], .int .u64 ((rd_T50 y500 x128_4).f0)] rfl (by (try simp only [List.map_toArray, List.map_cons, List.map_nil]); first | done | rfl | (simp only [List.length_drop, List.length_take]; rfl)) ?_; (with_reducible refine (sub_Has.calls k4 a0 a1_0 a1_1 ((rd_T50 y500 x128_4).f0) true t506 _ A60.out).mono ?_); rintro e w82 ⟨rfl, hb⟩; refine ⟨_, rfl, ?_⟩; have n0_ := Aside0.mk (Kd.R_below (by (with_reducible repeat (first | apply Kd.R_alloc | apply Kd.R_drewN | apply Kd.R_drew)); exact (Kd.R_mono (Kd.R_far (p := ⟨gb504, 1, none⟩) (Kd.R_far (p := ⟨gb504, 0, none⟩) (Kd.R_mono HO_126.out (fun k_ hk => (⟨hk, hk.2⟩ : _ ∧ k_ ≠ gb504))) (fun _ hk => hk.2) (.int .u64 ((rd_T50 y500 x128_4).f0))) (fun _ hk => hk.2) (.int .u64 ((rd_T50 y500 x128_4).f1))) (fun _ h_ => h_.1))) hb); have n1_ := Aside0.mk (blk_below (g := gb476) (o := .cells #[.int .u64 a1_0, .int .u64 a1_1] 24 (0, 0)) (by (with_reducible repeat (first | refine blk_drewN ?_ _ | refine blk_drew ?_ | refine blk_alloc ?_ _)); refine blk_far ?_ NB476_504.out _; (with_reducible repeat (first | refine blk_drewN ?_ _ | refine blk_drew ?_ | refine blk_alloc ?_ _)); refine blk_far ?_ NB476_504.out _; (with_reducible repeat (first | refine blk_drewN ?_ _ | refine blk_drew ?_ | refine blk_alloc ?_ _)); exact BK476.out) hb); have n2_ := Aside0.mk (blk_below (g := gb477) (o := .cells #[.int .u64 a2_0, .int .u64 a2_1] 24 (0, 0)) (by (with_reducible repeat (first | refine blk_drewN ?_ _ | refine blk_drew ?_ | refine blk_alloc ?_ _)); refine blk_far ?_ NB477_504.out _; (with_reducible repeat (first | refine blk_drewN ?_ _ | refine blk_drew ?_ | refine blk_alloc ?_ _)); refine blk_far ?_ NB477_504.out _; (with_reducible repeat (first | refine blk_drewN ?_ _ | refine blk_drew ?_ | refine blk_alloc ?_ _)); exact BK477.out) hb); have n3_ := Aside0.mk (blk_below (g := gb504) (o := .cells #[.int .u64 ((rd_T50 y500 x128_4).f0), .int .u64 ((rd_T50 y500 x128_4).f1)] 50 (0, 0)) (by (with_reducible repeat (first | refine blk_drewN ?_ _ | refine blk_drew ?_ | refine blk_alloc ?_ _)); refine blk_put (cs := #[.int .u64 ((rd_T50 y500 x128_4).f0), .int .u64 0]) ?_ 1 _ rfl; (with_reducible repeat (first | refine blk_drewN ?_ _ | refine blk_drew ?_ | refine blk_alloc ?_ _)); refine blk_put (cs := #[.int .u64 0, .int .u64 0]) ?_ 0 _ rfl; (with_reducible repeat (first | refine blk_drewN ?_ _ | refine blk_drew ?_ | refine blk_alloc ?_ _)); exact BK504.out) hb); have n4_ := Aside0.mk (below_step (by repeat (first | (with_reducible first | exact HB.out | apply below_alloc | apply pw_below_drewN | apply below_drew1 | refine below_set ?_ GE476.out | refine below_set ?_ GE477.out | refine below_set ?_ GE504.out) | exact HB.out)) hb); clear HO_126; clear BK476; clear BK477; clear BK504; clear HB; have HO_126 := n0_; have BK476 := n1_; have BK477 := n2_; have BK504 := n3_; have HB := n4_; clear n0_ n1_ n2_ n3_ n4_; (try clear hb); (try clear hb2); (try clear hk); (try clear hi); have hcz83_0 : w82.cell? ⟨gb477, 0, none⟩ = some (.int .u64 a2_0) := (blk_cell BK477.out 0).trans rfl; have hcz83_1 : w82.cell? ⟨gb477, 1, none⟩ = some (.int .u64 a2_1) := (blk_cell BK477.out 1).trans rfl; have hfz83_0 := blk_frozen BK477.out 0; have hfz83_1 := blk_frozen BK477.out 1; have hcz84_0 : w82.cell? ⟨gb504, 0, none⟩ = some (.int .u64 ((rd_T50 y500 x128_4).f0)) := (blk_cell BK504.out 0).trans rfl; have hcz84_1 : w82.cell? ⟨gb504, 1, none⟩ = some (.int .u64 ((rd_T50 y500 x128_4).f1)) := (blk_cell BK504.out 1).trans rfl; have hfz84_0 := blk_frozen BK504.out 0; have hfz84_1 := blk_frozen BK504.out 1) | ((with_reducible refine gate_callee (f := 34) rfl ?_); refine goesL_ (some 145) rfl rfl Try.func34 (by kernel_rfl) rfl #[.int .i64 a0, .agg #[.int .u64 a2_0, .int .u64 a2_1], .int .u64 ((rd_T50 y500 x128_4).f0)] rfl (by (try simp only [List.map_toArray, List.map_cons, List.map_nil]); first | done | rfl | (simp only [List.length_drop, List.length_take]; rfl)) ?_; (with_reducible refine (sub_Has.calls k4 a0 a2_0 a2_1 ((rd_T50 y500 x128_4).f0) t507 t508 _ A61.out).mono ?_); rintro e w85 ⟨rfl, hb⟩; refine ⟨_, rfl, ?_⟩; have n0_ := Aside0.mk (Kd.R_below (by (with_reducible repeat (first | apply Kd.R_alloc | apply Kd.R_drewN | apply Kd.R_drew)); exact HO_126.out) hb); have n1_ := Aside0.mk (blk_below (g := gb476) (o := .cells #[.int .u64 a1_0, .int .u64 a1_1] 24 (0, 0)) (by (with_reducible repeat (first | refine blk_drewN ?_ _ | refine blk_drew ?_ | refine blk_alloc ?_ _)); exact BK476.out) hb); have n2_ := Aside0.mk (blk_below (g := gb477) (o := .cells #[.int .u64 a2_0, .int .u64 a2_1] 24 (0, 0)) (by (with_reducible repeat (first | refine blk_drewN ?_ _ | refine blk_drew ?_ | refine blk_alloc ?_ _)); exact BK477.out) hb); have n3_ := Aside0.mk (blk_below (g := gb504) (o := .cells #[.int .u64 ((rd_T50 y500 x128_4).f0), .int .u64 ((rd_T50 y500 x128_4).f1)] 50 (0, 0)) (by (with_reducible repeat (first | refine blk_drewN ?_ _ | refine blk_drew ?_ | refine blk_alloc ?_ _)); exact BK504.out) hb); have n4_ := Aside0.mk (below_step (by repeat (first | (with_reducible first | exact HB.out | apply below_alloc | apply pw_below_drewN | apply below_drew1 | refine below_set ?_ GE476.out | refine below_set ?_ GE477.out | refine below_set ?_ GE504.out) | exact HB.out)) hb); clear HO_126; clear BK476; clear BK477; clear BK504; clear HB; have HO_126 := n0_; have BK476 := n1_; have BK477 := n2_; have BK504 := n3_; have HB := n4_; clear n0_ n1_ n2_ n3_ n4_; (try clear hb); (try clear hb2); (try clear hk); (try clear hi)))
                                            go_roundg k4
                                            case measure => have := HJ9.out; have := HJ28.out; have := HJ41.out; have := HK4.out; omega
                                            case rel => exact ⟨(t507), (wrap64 (x128_4 + 1)), (by first | rfl | (simp; done) | (simp [*]; done)), (by first | rfl | (simp; done) | (simp [*]; done)), H', ⟨by have := HJ9.out; have := HJ28.out; have := HJ41.out; have := HK4.out; omega⟩, ⟨by (with_reducible repeat (first | apply Kd.R_alloc | apply Kd.R_drewN | apply Kd.R_drew)); exact Kd.R_mono HO_126.out (fun _ hk => trivial)⟩, ⟨by (with_reducible repeat (first | refine blk_drewN ?_ _ | refine blk_drew ?_ | refine blk_alloc ?_ _)); exact BK476.out⟩, ⟨by (with_reducible repeat (first | refine blk_drewN ?_ _ | refine blk_drew ?_ | refine blk_alloc ?_ _)); exact BK477.out⟩, ⟨by repeat (first | (with_reducible first | exact HB.out | apply below_alloc | apply pw_below_drewN | apply below_drew1 | refine below_set ?_ GE476.out | refine below_set ?_ GE477.out | refine below_set ?_ GE504.out) | exact HB.out)⟩⟩
                                          · replace c75 := Bool.eq_false_iff.mpr c75
                                            subst c75
                                            have H1 : (medlarlaw08_SubTouches.l0 k4 a0 t478 t479 false y500 (y500.length : Int) (wrap64 (x128_4 + 1)) a1_0 a1_1 a2_0 a2_1) = some r := by rw [if_neg (show ¬ (false = true) by decide)] at H; exact H
                                            clear H
                                            have H := H1
                                            clear H1
                                            have H' := Aside0.mk H
                                            clear H
                                            have p503 : 0 ≤ (x128_4 : Int) := of_decide_eq_true (by first | (with_reducible assumption) | assumption)
                                            have q503 : x128_4 < (y500.length : Int) := of_decide_eq_true (by first | (with_reducible assumption) | assumption)
                                            obtain ⟨ad503, e503, hx503_0, hx503_1⟩ := at_T50 (Kd.R_reads' HO_126.out).2.2 x128_4 p503 q503
                                            cases e503
                                            replace p503 := eq_true p503
                                            replace q503 := eq_true q503
                                            go_wp2_with (first | ((with_reducible refine gate_dst (N := 26) rfl ?_); refine box_event ?hg (N := 26) ?hd (cs := #[.int .u64 0, .int .u64 0]) (t := 50) ?hr ?_; (case hd => rfl); (case hg => rfl); (case hr => first | (go_simp; done) | (go_simp; rfl)); intro gb504 hg w86 hbox hb; have n0_ := Aside0.mk (Kd.R_below (Kd.R_elderB (by (with_reducible repeat (first | apply Kd.R_alloc | apply Kd.R_drewN | apply Kd.R_drew)); exact HO_126.out) gb504 (Nat.le_of_eq hg.symm)) hb); have n1_ := Aside0.mk (blk_below (g := gb476) (o := .cells #[.int .u64 a1_0, .int .u64 a1_1] 24 (0, 0)) (by (with_reducible repeat (first | refine blk_drewN ?_ _ | refine blk_drew ?_ | refine blk_alloc ?_ _)); exact BK476.out) hb); have n2_ := Aside0.mk (blk_below (g := gb477) (o := .cells #[.int .u64 a2_0, .int .u64 a2_1] 24 (0, 0)) (by (with_reducible repeat (first | refine blk_drewN ?_ _ | refine blk_drew ?_ | refine blk_alloc ?_ _)); exact BK477.out) hb); have n3_ := Aside0.mk (below_step (by repeat (first | (with_reducible first | exact HB.out | apply below_alloc | apply pw_below_drewN | apply below_drew1 | refine below_set ?_ GE476.out | refine below_set ?_ GE477.out) | exact HB.out)) hb); have n4_ := Aside0.mk (hbox); have n5_ := Aside0.mk ((by rw [hg]; exact (below_size (by repeat (first | (with_reducible first | exact HB.out | apply below_alloc | apply pw_below_drewN | apply below_drew1 | refine below_set ?_ GE476.out | refine below_set ?_ GE477.out) | exact HB.out))) : w.heap.size ≤ gb504)); have n6_ := Aside0.mk ((by rw [hg]; exact (below_size (by repeat (first | (with_reducible first | exact HB.out | apply below_alloc | apply pw_below_drewN | apply below_drew1 | refine below_set ?_ GE476.out | refine below_set ?_ GE477.out) | exact HB.out))) : w.heap.size ≤ gb504)); have n7_ := Aside0.mk ((by rw [hg]; exact Nat.ne_of_lt (blk_lt (g := gb476) (o := .cells #[.int .u64 a1_0, .int .u64 a1_1] 24 (0, 0)) (by (with_reducible repeat (first | refine blk_drewN ?_ _ | refine blk_drew ?_ | refine blk_alloc ?_ _)); exact BK476.out)) : gb476 ≠ gb504)); have n8_ := Aside0.mk ((by rw [hg]; exact Nat.ne_of_gt (blk_lt (g := gb476) (o := .cells #[.int .u64 a1_0, .int .u64 a1_1] 24 (0, 0)) (by (with_reducible repeat (first | refine blk_drewN ?_ _ | refine blk_drew ?_ | refine blk_alloc ?_ _)); exact BK476.out)) : gb504 ≠ gb476)); have n9_ := Aside0.mk ((by rw [hg]; exact Nat.ne_of_lt (blk_lt (g := gb477) (o := .cells #[.int .u64 a2_0, .int .u64 a2_1] 24 (0, 0)) (by (with_reducible repeat (first | refine blk_drewN ?_ _ | refine blk_drew ?_ | refine blk_alloc ?_ _)); exact BK477.out)) : gb477 ≠ gb504)); have n10_ := Aside0.mk ((by rw [hg]; exact Nat.ne_of_gt (blk_lt (g := gb477) (o := .cells #[.int .u64 a2_0, .int .u64 a2_1] 24 (0, 0)) (by (with_reducible repeat (first | refine blk_drewN ?_ _ | refine blk_drew ?_ | refine blk_alloc ?_ _)); exact BK477.out)) : gb504 ≠ gb477)); clear HO_126; clear BK476; clear BK477; clear HB; have HO_126 := n0_; have BK476 := n1_; have BK477 := n2_; have HB := n3_; have BK504 := n4_; have GW504 := n5_; have GE504 := n6_; have NB476_504 := n7_; have NB504_476 := n8_; have NB477_504 := n9_; have NB504_477 := n10_; clear n0_ n1_ n2_ n3_ n4_ n5_ n6_ n7_ n8_ n9_ n10_; clear hb hbox hg; have hnb87 := NB504_476.out; have hnc87 := NB476_504.out; have hnb88 := NB504_477.out; have hnc88 := NB477_504.out; have hcz89_0 : w86.cell? ⟨gb504, 0, none⟩ = some (.int .u64 0) := (blk_cell BK504.out 0).trans rfl; have hcz89_1 : w86.cell? ⟨gb504, 1, none⟩ = some (.int .u64 0) := (blk_cell BK504.out 1).trans rfl; have hfz89_0 := blk_frozen BK504.out 0; have hfz89_1 := blk_frozen BK504.out 1; have hnb90 := NB476_477.out; have hnc90 := NB477_476.out; have hcz91_0 : w86.cell? ⟨gb476, 0, none⟩ = some (.int .u64 a1_0) := (blk_cell BK476.out 0).trans rfl; have hcz91_1 : w86.cell? ⟨gb476, 1, none⟩ = some (.int .u64 a1_1) := (blk_cell BK476.out 1).trans rfl; have hfz91_0 := blk_frozen BK476.out 0; have hfz91_1 := blk_frozen BK476.out 1) | ((with_reducible refine gate_callee (f := 34) rfl ?_); refine goesL_ (some 137) rfl rfl Try.func34 (by kernel_rfl) rfl #[.int .i64 a0, .agg #[.int .u64 a1_0, .int .u64 a1_1], .int .u64 ((rd_T50 y500 x128_4).f0)] rfl (by (try simp only [List.map_toArray, List.map_cons, List.map_nil]); first | done | rfl | (simp only [List.length_drop, List.length_take]; rfl)) ?_; (with_reducible refine (sub_Has.calls k4 a0 a1_0 a1_1 ((rd_T50 y500 x128_4).f0) false t506 _ A60.out).mono ?_); rintro e w92 ⟨rfl, hb⟩; refine ⟨_, rfl, ?_⟩; have n0_ := Aside0.mk (Kd.R_below (by (with_reducible repeat (first | apply Kd.R_alloc | apply Kd.R_drewN | apply Kd.R_drew)); exact (Kd.R_mono (Kd.R_far (p := ⟨gb504, 1, none⟩) (Kd.R_far (p := ⟨gb504, 0, none⟩) (Kd.R_mono HO_126.out (fun k_ hk => (⟨hk, hk.2⟩ : _ ∧ k_ ≠ gb504))) (fun _ hk => hk.2) (.int .u64 ((rd_T50 y500 x128_4).f0))) (fun _ hk => hk.2) (.int .u64 ((rd_T50 y500 x128_4).f1))) (fun _ h_ => h_.1))) hb); have n1_ := Aside0.mk (blk_below (g := gb476) (o := .cells #[.int .u64 a1_0, .int .u64 a1_1] 24 (0, 0)) (by (with_reducible repeat (first | refine blk_drewN ?_ _ | refine blk_drew ?_ | refine blk_alloc ?_ _)); refine blk_far ?_ NB476_504.out _; (with_reducible repeat (first | refine blk_drewN ?_ _ | refine blk_drew ?_ | refine blk_alloc ?_ _)); refine blk_far ?_ NB476_504.out _; (with_reducible repeat (first | refine blk_drewN ?_ _ | refine blk_drew ?_ | refine blk_alloc ?_ _)); exact BK476.out) hb); have n2_ := Aside0.mk (blk_below (g := gb477) (o := .cells #[.int .u64 a2_0, .int .u64 a2_1] 24 (0, 0)) (by (with_reducible repeat (first | refine blk_drewN ?_ _ | refine blk_drew ?_ | refine blk_alloc ?_ _)); refine blk_far ?_ NB477_504.out _; (with_reducible repeat (first | refine blk_drewN ?_ _ | refine blk_drew ?_ | refine blk_alloc ?_ _)); refine blk_far ?_ NB477_504.out _; (with_reducible repeat (first | refine blk_drewN ?_ _ | refine blk_drew ?_ | refine blk_alloc ?_ _)); exact BK477.out) hb); have n3_ := Aside0.mk (blk_below (g := gb504) (o := .cells #[.int .u64 ((rd_T50 y500 x128_4).f0), .int .u64 ((rd_T50 y500 x128_4).f1)] 50 (0, 0)) (by (with_reducible repeat (first | refine blk_drewN ?_ _ | refine blk_drew ?_ | refine blk_alloc ?_ _)); refine blk_put (cs := #[.int .u64 ((rd_T50 y500 x128_4).f0), .int .u64 0]) ?_ 1 _ rfl; (with_reducible repeat (first | refine blk_drewN ?_ _ | refine blk_drew ?_ | refine blk_alloc ?_ _)); refine blk_put (cs := #[.int .u64 0, .int .u64 0]) ?_ 0 _ rfl; (with_reducible repeat (first | refine blk_drewN ?_ _ | refine blk_drew ?_ | refine blk_alloc ?_ _)); exact BK504.out) hb); have n4_ := Aside0.mk (below_step (by repeat (first | (with_reducible first | exact HB.out | apply below_alloc | apply pw_below_drewN | apply below_drew1 | refine below_set ?_ GE476.out | refine below_set ?_ GE477.out | refine below_set ?_ GE504.out) | exact HB.out)) hb); clear HO_126; clear BK476; clear BK477; clear BK504; clear HB; have HO_126 := n0_; have BK476 := n1_; have BK477 := n2_; have BK504 := n3_; have HB := n4_; clear n0_ n1_ n2_ n3_ n4_; (try clear hb); (try clear hb2); (try clear hk); (try clear hi); have hcz93_0 : w92.cell? ⟨gb477, 0, none⟩ = some (.int .u64 a2_0) := (blk_cell BK477.out 0).trans rfl; have hcz93_1 : w92.cell? ⟨gb477, 1, none⟩ = some (.int .u64 a2_1) := (blk_cell BK477.out 1).trans rfl; have hfz93_0 := blk_frozen BK477.out 0; have hfz93_1 := blk_frozen BK477.out 1; have hcz94_0 : w92.cell? ⟨gb504, 0, none⟩ = some (.int .u64 ((rd_T50 y500 x128_4).f0)) := (blk_cell BK504.out 0).trans rfl; have hcz94_1 : w92.cell? ⟨gb504, 1, none⟩ = some (.int .u64 ((rd_T50 y500 x128_4).f1)) := (blk_cell BK504.out 1).trans rfl; have hfz94_0 := blk_frozen BK504.out 0; have hfz94_1 := blk_frozen BK504.out 1) | ((with_reducible refine gate_callee (f := 34) rfl ?_); refine goesL_ (some 145) rfl rfl Try.func34 (by kernel_rfl) rfl #[.int .i64 a0, .agg #[.int .u64 a2_0, .int .u64 a2_1], .int .u64 ((rd_T50 y500 x128_4).f0)] rfl (by (try simp only [List.map_toArray, List.map_cons, List.map_nil]); first | done | rfl | (simp only [List.length_drop, List.length_take]; rfl)) ?_; (with_reducible refine (sub_Has.calls k4 a0 a2_0 a2_1 ((rd_T50 y500 x128_4).f0) t507 t508 _ A61.out).mono ?_); rintro e w95 ⟨rfl, hb⟩; refine ⟨_, rfl, ?_⟩; have n0_ := Aside0.mk (Kd.R_below (by (with_reducible repeat (first | apply Kd.R_alloc | apply Kd.R_drewN | apply Kd.R_drew)); exact HO_126.out) hb); have n1_ := Aside0.mk (blk_below (g := gb476) (o := .cells #[.int .u64 a1_0, .int .u64 a1_1] 24 (0, 0)) (by (with_reducible repeat (first | refine blk_drewN ?_ _ | refine blk_drew ?_ | refine blk_alloc ?_ _)); exact BK476.out) hb); have n2_ := Aside0.mk (blk_below (g := gb477) (o := .cells #[.int .u64 a2_0, .int .u64 a2_1] 24 (0, 0)) (by (with_reducible repeat (first | refine blk_drewN ?_ _ | refine blk_drew ?_ | refine blk_alloc ?_ _)); exact BK477.out) hb); have n3_ := Aside0.mk (blk_below (g := gb504) (o := .cells #[.int .u64 ((rd_T50 y500 x128_4).f0), .int .u64 ((rd_T50 y500 x128_4).f1)] 50 (0, 0)) (by (with_reducible repeat (first | refine blk_drewN ?_ _ | refine blk_drew ?_ | refine blk_alloc ?_ _)); exact BK504.out) hb); have n4_ := Aside0.mk (below_step (by repeat (first | (with_reducible first | exact HB.out | apply below_alloc | apply pw_below_drewN | apply below_drew1 | refine below_set ?_ GE476.out | refine below_set ?_ GE477.out | refine below_set ?_ GE504.out) | exact HB.out)) hb); clear HO_126; clear BK476; clear BK477; clear BK504; clear HB; have HO_126 := n0_; have BK476 := n1_; have BK477 := n2_; have BK504 := n3_; have HB := n4_; clear n0_ n1_ n2_ n3_ n4_; (try clear hb); (try clear hb2); (try clear hk); (try clear hi)))
                                            go_roundg k4
                                            case measure => have := HJ9.out; have := HJ28.out; have := HJ41.out; have := HK4.out; omega
                                            case rel => exact ⟨(false), (wrap64 (x128_4 + 1)), (by first | rfl | (simp; done) | (simp [*]; done)), (by first | rfl | (simp; done) | (simp [*]; done)), H', ⟨by have := HJ9.out; have := HJ28.out; have := HJ41.out; have := HK4.out; omega⟩, ⟨by (with_reducible repeat (first | apply Kd.R_alloc | apply Kd.R_drewN | apply Kd.R_drew)); exact Kd.R_mono HO_126.out (fun _ hk => trivial)⟩, ⟨by (with_reducible repeat (first | refine blk_drewN ?_ _ | refine blk_drew ?_ | refine blk_alloc ?_ _)); exact BK476.out⟩, ⟨by (with_reducible repeat (first | refine blk_drewN ?_ _ | refine blk_drew ?_ | refine blk_alloc ?_ _)); exact BK477.out⟩, ⟨by repeat (first | (with_reducible first | exact HB.out | apply below_alloc | apply pw_below_drewN | apply below_drew1 | refine below_set ?_ GE476.out | refine below_set ?_ GE477.out | refine below_set ?_ GE504.out) | exact HB.out)⟩⟩
                                      · rw [if_neg c63] at H
                                        have c63b0 : (t508 == 0) = false := beq_eq_false_iff_ne.mpr c63
                                        have c63b1 : (t508 != 0) = true := bne_iff_ne.mpr c63
                                        exact absurd ((Option.some.inj H).trans hT.out) Bool.false_ne_true
                                    · rw [if_neg c62] at H
                                      have c62b0 : (t506 == 0) = false := beq_eq_false_iff_ne.mpr c62
                                      have c62b1 : (t506 != 0) = true := bne_iff_ne.mpr c62
                                      exact absurd ((Option.some.inj H).trans hT.out) Bool.false_ne_true
                                  · rw [if_neg c59] at H
                                    exact absurd H (by simp)
                                · rw [if_neg c58] at H
                                  exact absurd H (by simp)
                              · rw [if_neg c57] at H
                                have c57b0 : decide (x128_4 < (y500.length : Int)) = false := decide_eq_false c57
                                clear c57
                                by_cases c96 : t478 = true
                                · subst c96
                                  have H1 : (some (x24_4 == t479)) = some r := by rw [if_pos rfl] at H; exact H
                                  clear H
                                  have H := H1
                                  clear H1
                                  obtain rfl := Option.some.inj H
                                  go_wp2
                                  go_ret
                                  exact ⟨by first | rfl | (simp [errW_none, errW_some] <;> rfl) | (simp [*, errW_none, errW_some] <;> rfl), by repeat (first | (with_reducible first | exact HB.out | apply below_alloc | apply pw_below_drewN | apply below_drew1 | refine below_set ?_ GE476.out | refine below_set ?_ GE477.out) | exact HB.out)⟩
                                · replace c96 := Bool.eq_false_iff.mpr c96
                                  subst c96
                                  have H1 : (some false) = some r := by rw [if_neg (show ¬ (false = true) by decide)] at H; exact H
                                  clear H
                                  have H := H1
                                  clear H1
                                  exact absurd ((Option.some.inj H).trans hT.out) Bool.false_ne_true
                        · rw [if_neg c51] at H
                          exact absurd H (by simp)
                      · rw [if_neg c50] at H
                        exact absurd H (by simp)
  · rw [if_neg c7] at H
    have c7b0 : (t480 == 0) = false := beq_eq_false_iff_ne.mpr c7
    have c7b1 : (t480 != 0) = true := bne_iff_ne.mpr c7
    by_cases c97 : t478 = true
    · subst c97
      have H1 : (some (!t479)) = some r := by rw [if_pos rfl] at H; exact H
      clear H
      have H := H1
      clear H1
      obtain rfl := Option.some.inj H
      go_enter Try.func11, Try.ntmps11
      go_wp2_with (first | ((with_reducible refine gate_dst (N := 5) rfl ?_); refine box_event ?hg (N := 5) ?hd (cs := #[.int .u64 a1_0, .int .u64 a1_1]) (t := 24) ?hr ?_; (case hd => rfl); (case hg => rfl); (case hr => first | (go_simp; done) | (go_simp; rfl)); intro gb476 hg w98 hbox hb; have n0_ := Aside0.mk (below_step (by repeat (first | (with_reducible first | exact HB.out | apply below_alloc | apply pw_below_drewN | apply below_drew1) | exact HB.out)) hb); have n1_ := Aside0.mk (hbox); have n2_ := Aside0.mk ((by rw [hg]; exact (below_size (by repeat (first | (with_reducible first | exact HB.out | apply below_alloc | apply pw_below_drewN | apply below_drew1) | exact HB.out))) : w.heap.size ≤ gb476)); have n3_ := Aside0.mk ((by rw [hg]; exact (below_size (by repeat (first | (with_reducible first | exact HB.out | apply below_alloc | apply pw_below_drewN | apply below_drew1) | exact HB.out))) : w.heap.size ≤ gb476)); clear HB; have HB := n0_; have BK476 := n1_; have GW476 := n2_; have GE476 := n3_; clear n0_ n1_ n2_ n3_; clear hb hbox hg) | ((with_reducible refine gate_dst (N := 6) rfl ?_); refine box_event ?hg (N := 6) ?hd (cs := #[.int .u64 a2_0, .int .u64 a2_1]) (t := 24) ?hr ?_; (case hd => rfl); (case hg => rfl); (case hr => first | (go_simp; done) | (go_simp; rfl)); intro gb477 hg w99 hbox hb; have n0_ := Aside0.mk (blk_below (g := gb476) (o := .cells #[.int .u64 a1_0, .int .u64 a1_1] 24 (0, 0)) (by (with_reducible repeat (first | refine blk_drewN ?_ _ | refine blk_drew ?_ | refine blk_alloc ?_ _)); exact BK476.out) hb); have n1_ := Aside0.mk (below_step (by repeat (first | (with_reducible first | exact HB.out | apply below_alloc | apply pw_below_drewN | apply below_drew1 | refine below_set ?_ GE476.out) | exact HB.out)) hb); have n2_ := Aside0.mk (hbox); have n3_ := Aside0.mk ((by rw [hg]; exact (below_size (by repeat (first | (with_reducible first | exact HB.out | apply below_alloc | apply pw_below_drewN | apply below_drew1 | refine below_set ?_ GE476.out) | exact HB.out))) : w.heap.size ≤ gb477)); have n4_ := Aside0.mk ((by rw [hg]; exact (below_size (by repeat (first | (with_reducible first | exact HB.out | apply below_alloc | apply pw_below_drewN | apply below_drew1 | refine below_set ?_ GE476.out) | exact HB.out))) : w.heap.size ≤ gb477)); have n5_ := Aside0.mk ((by rw [hg]; exact Nat.ne_of_lt (blk_lt (g := gb476) (o := .cells #[.int .u64 a1_0, .int .u64 a1_1] 24 (0, 0)) (by (with_reducible repeat (first | refine blk_drewN ?_ _ | refine blk_drew ?_ | refine blk_alloc ?_ _)); exact BK476.out)) : gb476 ≠ gb477)); have n6_ := Aside0.mk ((by rw [hg]; exact Nat.ne_of_gt (blk_lt (g := gb476) (o := .cells #[.int .u64 a1_0, .int .u64 a1_1] 24 (0, 0)) (by (with_reducible repeat (first | refine blk_drewN ?_ _ | refine blk_drew ?_ | refine blk_alloc ?_ _)); exact BK476.out)) : gb477 ≠ gb476)); clear BK476; clear HB; have BK476 := n0_; have HB := n1_; have BK477 := n2_; have GW477 := n3_; have GE477 := n4_; have NB476_477 := n5_; have NB477_476 := n6_; clear n0_ n1_ n2_ n3_ n4_ n5_ n6_; clear hb hbox hg) | ((with_reducible refine gate_callee (f := 14) rfl ?_); refine goesL_ (some 31) rfl rfl Try.func14 (by kernel_rfl) rfl #[] rfl (by (try simp only [List.map_toArray, List.map_cons, List.map_nil]); first | done | rfl | (simp only [List.length_drop, List.length_take]; rfl)) ?_; (with_reducible refine (medlarlaw08_live.calls k  true _ A5.out).mono ?_); rintro e w100 ⟨rfl, hb⟩; refine ⟨_, rfl, ?_⟩; have n0_ := Aside0.mk (blk_below (g := gb476) (o := .cells #[.int .u64 a1_0, .int .u64 a1_1] 24 (0, 0)) (by (with_reducible repeat (first | refine blk_drewN ?_ _ | refine blk_drew ?_ | refine blk_alloc ?_ _)); exact BK476.out) hb); have n1_ := Aside0.mk (blk_below (g := gb477) (o := .cells #[.int .u64 a2_0, .int .u64 a2_1] 24 (0, 0)) (by (with_reducible repeat (first | refine blk_drewN ?_ _ | refine blk_drew ?_ | refine blk_alloc ?_ _)); exact BK477.out) hb); have n2_ := Aside0.mk (below_step (by repeat (first | (with_reducible first | exact HB.out | apply below_alloc | apply pw_below_drewN | apply below_drew1 | refine below_set ?_ GE476.out | refine below_set ?_ GE477.out) | exact HB.out)) hb); clear BK476; clear BK477; clear HB; have BK476 := n0_; have BK477 := n1_; have HB := n2_; clear n0_ n1_ n2_; (try clear hb); (try clear hb2); (try clear hk); (try clear hi); have hnb101 := NB476_477.out; have hnc101 := NB477_476.out; have hcz102_0 : w100.cell? ⟨gb476, 0, none⟩ = some (.int .u64 a1_0) := (blk_cell BK476.out 0).trans rfl; have hcz102_1 : w100.cell? ⟨gb476, 1, none⟩ = some (.int .u64 a1_1) := (blk_cell BK476.out 1).trans rfl; have hfz102_0 := blk_frozen BK476.out 0; have hfz102_1 := blk_frozen BK476.out 1; have hcz103_0 : w100.cell? ⟨gb477, 0, none⟩ = some (.int .u64 a2_0) := (blk_cell BK477.out 0).trans rfl; have hcz103_1 : w100.cell? ⟨gb477, 1, none⟩ = some (.int .u64 a2_1) := (blk_cell BK477.out 1).trans rfl; have hfz103_0 := blk_frozen BK477.out 0; have hfz103_1 := blk_frozen BK477.out 1) | ((with_reducible refine gate_callee (f := 31) rfl ?_); refine goesL_ (some 36) rfl rfl Try.func31 (by kernel_rfl) rfl #[.int .i64 a0, .agg #[.int .u64 a1_0, .int .u64 a1_1], .agg #[.int .u64 a2_0, .int .u64 a2_1]] rfl (by (try simp only [List.map_toArray, List.map_cons, List.map_nil]); first | done | rfl | (simp only [List.length_drop, List.length_take]; rfl)) ?_; (with_reducible refine (sub_Touch.calls k a0 a1_0 a1_1 a2_0 a2_1 t479 t480 _ A6.out).mono ?_); rintro e w104 ⟨rfl, hb⟩; refine ⟨_, rfl, ?_⟩; have n0_ := Aside0.mk (blk_below (g := gb476) (o := .cells #[.int .u64 a1_0, .int .u64 a1_1] 24 (0, 0)) (by (with_reducible repeat (first | refine blk_drewN ?_ _ | refine blk_drew ?_ | refine blk_alloc ?_ _)); exact BK476.out) hb); have n1_ := Aside0.mk (blk_below (g := gb477) (o := .cells #[.int .u64 a2_0, .int .u64 a2_1] 24 (0, 0)) (by (with_reducible repeat (first | refine blk_drewN ?_ _ | refine blk_drew ?_ | refine blk_alloc ?_ _)); exact BK477.out) hb); have n2_ := Aside0.mk (below_step (by repeat (first | (with_reducible first | exact HB.out | apply below_alloc | apply pw_below_drewN | apply below_drew1 | refine below_set ?_ GE476.out | refine below_set ?_ GE477.out) | exact HB.out)) hb); clear BK476; clear BK477; clear HB; have BK476 := n0_; have BK477 := n1_; have HB := n2_; clear n0_ n1_ n2_; (try clear hb); (try clear hb2); (try clear hk); (try clear hi)))
      go_ret
      exact ⟨by first | rfl | (simp [errW_none, errW_some] <;> rfl) | (simp [*, errW_none, errW_some] <;> rfl), by repeat (first | (with_reducible first | exact HB.out | apply below_alloc | apply pw_below_drewN | apply below_drew1 | refine below_set ?_ GE476.out | refine below_set ?_ GE477.out) | exact HB.out)⟩
    · replace c97 := Bool.eq_false_iff.mpr c97
      subst c97
      have H1 : (some false) = some r := by rw [if_neg (show ¬ (false = true) by decide)] at H; exact H
      clear H
      have H := H1
      clear H1
      exact absurd ((Option.some.inj H).trans hT.out) Bool.false_ne_true

/-- THE ONE PURE STATEMENT of medlarlaw08_SubTouches: yours. -/
def medlarlaw08_SubTouches.Pure : Prop := ∀ (a0 : Int) (a1_0 : Int) (a1_1 : Int) (a2_0 : Int) (a2_1 : Int) (a3 : Int), (Lit.int .i64 a0).wf = true → (Lit.int .u64 a1_0).wf = true → (Lit.int .u64 a1_1).wf = true → (Lit.int .u64 a2_0).wf = true → (Lit.int .u64 a2_1).wf = true → (Lit.int .u64 a3).wf = true → ∃ k, medlarlaw08_SubTouches.f k a0 a1_0 a1_1 a2_0 a2_1 a3 = some true
theorem medlarlaw08_SubTouches.walk (P : medlarlaw08_SubTouches.Pure) (a0 : Int) (a1_0 : Int) (a1_1 : Int) (a2_0 : Int) (a2_1 : Int) (a3 : Int) (w : World) (w0 : (Lit.int .i64 a0).wf = true) (w1_0 : (Lit.int .u64 a1_0).wf = true) (w1_1 : (Lit.int .u64 a1_1).wf = true) (w2_0 : (Lit.int .u64 a2_0).wf = true) (w2_1 : (Lit.int .u64 a2_1).wf = true) (w3 : (Lit.int .u64 a3).wf = true) :
    Calls Try.prog 11 #[.int .i64 a0, .agg #[.int .u64 a1_0, .int .u64 a1_1], .agg #[.int .u64 a2_0, .int .u64 a2_1], .int .u64 a3] w fun e w' => e = .returned (.bool true) ∧ Below w.heap.size w w' := by
  obtain ⟨k, h⟩ := P a0 a1_0 a1_1 a2_0 a2_1 a3 w0 w1_0 w1_1 w2_0 w2_1 w3
  refine (medlarlaw08_SubTouches.calls k a0 a1_0 a1_1 a2_0 a2_1 a3 true w h ⟨rfl⟩).mono ?_
  rintro e w' ⟨rfl, hd⟩
  exact ⟨rfl, hd⟩

end Go.Proofs.Ytmaaibcnfhbajaa.MP
