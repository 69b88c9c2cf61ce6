-- written by a program of this session (wip/tools/mprint.sh) for this seat
import Derived.Test.YtmffkfakcbopcaaMPx0
import Derived.Test.YtmffkfakcbopcaaMPx4
import Derived.Test.YtmffkfakcbopcaaMPx10
import Derived.Test.YtmffkfakcbopcaaMPx17
import Derived.Test.YtmffkfakcbopcaaMPx23
import Derived.Test.YtmffkfakcbopcaaMPx24
namespace Go.Proofs.Ytmffkfakcbopcaa.MP
open Go.RowKit Go.Proofs.YtmffkfakcbopcaaW.PrintWords Go.Proofs.YtmffkfakcbopcaaW.PrintLast Go.Proofs.YtmffkfakcbopcaaW.PrintMore
attribute [local go_sem] max2_int min2_int max_two min_two max_three min_three max_four min_four   -- for this text's walks alone
set_option linter.unusedVariables false
set_option linter.unusedSimpArgs false

/-! ### medlarlaw12_LayerParts: function 11 -/
mutual
def medlarlaw12_LayerParts.j0 : Nat → Int → Bool → List (S34) → List (S34) → Bool → Option (Bool)
  | 0, _, _, _, _, _ => none
  | k + 1, x0, x5, x6, x8, x65 => if x65 = true then (some false) else (medlarlaw12_LayerParts.l0 k x0 x5 x6 x8 true x6 (x6.length : Int) 0)
def medlarlaw12_LayerParts.l0 : Nat → Int → Bool → List (S34) → List (S34) → Bool → List (S34) → Int → Int → Option (Bool)
  | 0, _, _, _, _, _, _, _, _ => none
  | k + 1, x0, x5, x6, x8, x10, x66, x67, x68 => if x68 < x67 then (if 0 ≤ x68 then (if x68 < (x66.length : Int) then ((sub_Useful.f k x0 ((rd_T34 x66 x68).f0) ((rd_T34 x66 x68).f1)).bind fun bt706 => (if bt706.2 = 0 then (if x10 = true then (medlarlaw12_LayerParts.l0 k x0 x5 x6 x8 bt706.1 x66 x67 (wrap64 (x68 + 1))) else (medlarlaw12_LayerParts.l0 k x0 x5 x6 x8 false x66 x67 (wrap64 (x68 + 1)))) else (some false))) else (none)) else (none)) else (medlarlaw12_LayerParts.l1 k x0 x5 x6 x8 x10 x8 (x8.length : Int) 0)
def medlarlaw12_LayerParts.l1 : Nat → Int → Bool → List (S34) → List (S34) → Bool → List (S34) → Int → Int → Option (Bool)
  | 0, _, _, _, _, _, _, _, _ => none
  | k + 1, x0, x5, x6, x8, x10, x85, x86, x87 => if x87 < x86 then (if 0 ≤ x87 then (if x87 < (x85.length : Int) then ((sub_Leaves.f k x0 ((rd_T34 x85 x87).f0) ((rd_T34 x85 x87).f1)).bind fun bt711 => (if bt711.2 = 0 then (medlarlaw12_LayerParts.j3 k x0 x5 x6 x8 x10 bt711.1 x85 x86 x87 ((bt711.1.length : Int) == 0)) else (medlarlaw12_LayerParts.j3 k x0 x5 x6 x8 x10 bt711.1 x85 x86 x87 true))) else (none)) else (none)) else (if x5 = true then ((medlarref08_Same.f k x8 x6).bind fun t708 => (some (x10 == t708))) else (some false))
def medlarlaw12_LayerParts.j3 : Nat → Int → Bool → List (S34) → List (S34) → Bool → List (S52) → List (S34) → Int → Int → Bool → Option (Bool)
  | 0, _, _, _, _, _, _, _, _, _, _ => none
  | k + 1, x0, x5, x6, x8, x10, x17, x85, x86, x87, x103 => if x103 = true then (some false) else (medlarlaw12_LayerParts.l2 k x0 x5 x6 x8 x10 x17 0 x85 x86 x87 x6 (x6.length : Int) 0)
def medlarlaw12_LayerParts.l2 : Nat → Int → Bool → List (S34) → List (S34) → Bool → List (S52) → Int → List (S34) → Int → Int → List (S34) → Int → Int → Option (Bool)
  | 0, _, _, _, _, _, _, _, _, _, _, _, _, _ => none
  | k + 1, x0, x5, x6, x8, x10, x17, x19, x85, x86, x87, x104, x105, x106 => if x106 < x105 then (if 0 ≤ x106 then (if x106 < (x104.length : Int) then (if 0 < (x17.length : Int) then ((sub_Has.f k x0 ((rd_T34 x104 x106).f0) ((rd_T34 x104 x106).f1) ((rd_T52 x17 0).f0)).bind fun bt718 => (if bt718.2 = 0 then (if bt718.1 = true then (medlarlaw12_LayerParts.l2 k x0 x5 x6 x8 x10 x17 (wrap64 (x19 + 1)) x85 x86 x87 x104 x105 (wrap64 (x106 + 1))) else (medlarlaw12_LayerParts.l2 k x0 x5 x6 x8 x10 x17 x19 x85 x86 x87 x104 x105 (wrap64 (x106 + 1)))) else (medlarlaw12_LayerParts.l2 k x0 x5 x6 x8 x10 x17 x19 x85 x86 x87 x104 x105 (wrap64 (x106 + 1))))) else (none)) else (none)) else (none)) else (if x19 = 1 then (medlarlaw12_LayerParts.l1 k x0 x5 x6 x8 x10 x85 x86 (wrap64 (x87 + 1))) else (some false))
end
def medlarlaw12_LayerParts.f (k : Nat) (a0 : Int) (l1 : List Int) : Option (Bool) := (medlarlaw12_live.f k).bind fun t695 => (if (l1.length : Int) > 30 then (some t695) else ((layer_Cover.f k a0 2 l1).bind fun bt696 => ((layer_Cover.f k a0 3 l1).bind fun bt700 => (if bt696.2 = 0 then (if bt700.2 = 0 then (if (bt700.1.length : Int) < (bt696.1.length : Int) then (medlarlaw12_LayerParts.j0 k a0 t695 bt696.1 bt700.1 true) else (medlarlaw12_LayerParts.j0 k a0 t695 bt696.1 bt700.1 (decide ((bt700.1.length : Int) > (wrap64 (2 * (bt696.1.length : Int))))))) else (medlarlaw12_LayerParts.j0 k a0 t695 bt696.1 bt700.1 true)) else (if t695 = true then (some (bt700.2 == bt696.2)) else (some false))))))
theorem medlarlaw12_LayerParts.mono_l : ∀ k, (∀ y0 y1 y2 y3 y4, LeO (medlarlaw12_LayerParts.j0 k y0 y1 y2 y3 y4) (medlarlaw12_LayerParts.j0 (k + 1) y0 y1 y2 y3 y4)) ∧ (∀ y0 y1 y2 y3 y4 y5 y6 y7, LeO (medlarlaw12_LayerParts.l0 k y0 y1 y2 y3 y4 y5 y6 y7) (medlarlaw12_LayerParts.l0 (k + 1) y0 y1 y2 y3 y4 y5 y6 y7)) ∧ (∀ y0 y1 y2 y3 y4 y5 y6 y7, LeO (medlarlaw12_LayerParts.l1 k y0 y1 y2 y3 y4 y5 y6 y7) (medlarlaw12_LayerParts.l1 (k + 1) y0 y1 y2 y3 y4 y5 y6 y7)) ∧ (∀ y0 y1 y2 y3 y4 y5 y6 y7 y8 y9, LeO (medlarlaw12_LayerParts.j3 k y0 y1 y2 y3 y4 y5 y6 y7 y8 y9) (medlarlaw12_LayerParts.j3 (k + 1) y0 y1 y2 y3 y4 y5 y6 y7 y8 y9)) ∧ (∀ y0 y1 y2 y3 y4 y5 y6 y7 y8 y9 y10 y11 y12, LeO (medlarlaw12_LayerParts.l2 k y0 y1 y2 y3 y4 y5 y6 y7 y8 y9 y10 y11 y12) (medlarlaw12_LayerParts.l2 (k + 1) y0 y1 y2 y3 y4 y5 y6 y7 y8 y9 y10 y11 y12))
  | 0 => ⟨fun _ _ _ _ _ r h => by simp [medlarlaw12_LayerParts.j0] at h, fun _ _ _ _ _ _ _ _ r h => by simp [medlarlaw12_LayerParts.l0] at h, fun _ _ _ _ _ _ _ _ r h => by simp [medlarlaw12_LayerParts.l1] at h, fun _ _ _ _ _ _ _ _ _ _ r h => by simp [medlarlaw12_LayerParts.j3] at h, fun _ _ _ _ _ _ _ _ _ _ _ _ _ r h => by simp [medlarlaw12_LayerParts.l2] at h⟩
  | k + 1 => by
    obtain ⟨ih0, ih1, ih2, ih3, ih4⟩ := medlarlaw12_LayerParts.mono_l k
    refine ⟨?_, ?_, ?_, ?_, ?_⟩
    · intro y0 y1 y2 y3 y4
      unfold medlarlaw12_LayerParts.j0
      repeat' first
      | (with_reducible exact ih0 _ _ _ _ _)
      | (with_reducible exact ih1 _ _ _ _ _ _ _ _)
      | (with_reducible exact ih2 _ _ _ _ _ _ _ _)
      | (with_reducible exact ih3 _ _ _ _ _ _ _ _ _ _)
      | (with_reducible exact ih4 _ _ _ _ _ _ _ _ _ _ _ _ _)
      | (with_reducible exact layer_Cover.mono _ _ _ _)
      | (with_reducible exact medlarlaw12_live.mono _)
      | (with_reducible exact medlarref08_Same.mono _ _ _)
      | (with_reducible exact sub_Has.mono _ _ _ _ _)
      | (with_reducible exact sub_Leaves.mono _ _ _ _)
      | (with_reducible exact sub_Useful.mono _ _ _ _)
      | (with_reducible exact LeO.refl _)
      | (with_reducible exact LeO.none _)
      | (with_reducible refine LeO.ite ?_ ?_)
      | (with_reducible refine LeO.bind ?_ (fun _ => ?_))
      | exact ih0 _ _ _ _ _
      | exact ih1 _ _ _ _ _ _ _ _
      | exact ih2 _ _ _ _ _ _ _ _
      | exact ih3 _ _ _ _ _ _ _ _ _ _
      | exact ih4 _ _ _ _ _ _ _ _ _ _ _ _ _
      | exact layer_Cover.mono _ _ _ _
      | exact medlarlaw12_live.mono _
      | exact medlarref08_Same.mono _ _ _
      | exact sub_Has.mono _ _ _ _ _
      | exact sub_Leaves.mono _ _ _ _
      | exact sub_Useful.mono _ _ _ _
      | exact LeO.none _
      | refine LeO.ite ?_ ?_
      | refine LeO.bind ?_ (fun _ => ?_)
    · intro y0 y1 y2 y3 y4 y5 y6 y7
      unfold medlarlaw12_LayerParts.l0
      repeat' first
      | (with_reducible exact ih0 _ _ _ _ _)
      | (with_reducible exact ih1 _ _ _ _ _ _ _ _)
      | (with_reducible exact ih2 _ _ _ _ _ _ _ _)
      | (with_reducible exact ih3 _ _ _ _ _ _ _ _ _ _)
      | (with_reducible exact ih4 _ _ _ _ _ _ _ _ _ _ _ _ _)
      | (with_reducible exact layer_Cover.mono _ _ _ _)
      | (with_reducible exact medlarlaw12_live.mono _)
      | (with_reducible exact medlarref08_Same.mono _ _ _)
      | (with_reducible exact sub_Has.mono _ _ _ _ _)
      | (with_reducible exact sub_Leaves.mono _ _ _ _)
      | (with_reducible exact sub_Useful.mono _ _ _ _)
      | (with_reducible exact LeO.refl _)
      | (with_reducible exact LeO.none _)
      | (with_reducible refine LeO.ite ?_ ?_)
      | (with_reducible refine LeO.bind ?_ (fun _ => ?_))
      | exact ih0 _ _ _ _ _
      | exact ih1 _ _ _ _ _ _ _ _
      | exact ih2 _ _ _ _ _ _ _ _
      | exact ih3 _ _ _ _ _ _ _ _ _ _
      | exact ih4 _ _ _ _ _ _ _ _ _ _ _ _ _
      | exact layer_Cover.mono _ _ _ _
      | exact medlarlaw12_live.mono _
      | exact medlarref08_Same.mono _ _ _
      | exact sub_Has.mono _ _ _ _ _
      | exact sub_Leaves.mono _ _ _ _
      | exact sub_Useful.mono _ _ _ _
      | exact LeO.none _
      | refine LeO.ite ?_ ?_
      | refine LeO.bind ?_ (fun _ => ?_)
    · intro y0 y1 y2 y3 y4 y5 y6 y7
      unfold medlarlaw12_LayerParts.l1
      repeat' first
      | (with_reducible exact ih0 _ _ _ _ _)
      | (with_reducible exact ih1 _ _ _ _ _ _ _ _)
      | (with_reducible exact ih2 _ _ _ _ _ _ _ _)
      | (with_reducible exact ih3 _ _ _ _ _ _ _ _ _ _)
      | (with_reducible exact ih4 _ _ _ _ _ _ _ _ _ _ _ _ _)
      | (with_reducible exact layer_Cover.mono _ _ _ _)
      | (with_reducible exact medlarlaw12_live.mono _)
      | (with_reducible exact medlarref08_Same.mono _ _ _)
      | (with_reducible exact sub_Has.mono _ _ _ _ _)
      | (with_reducible exact sub_Leaves.mono _ _ _ _)
      | (with_reducible exact sub_Useful.mono _ _ _ _)
      | (with_reducible exact LeO.refl _)
      | (with_reducible exact LeO.none _)
      | (with_reducible refine LeO.ite ?_ ?_)
      | (with_reducible refine LeO.bind ?_ (fun _ => ?_))
      | exact ih0 _ _ _ _ _
      | exact ih1 _ _ _ _ _ _ _ _
      | exact ih2 _ _ _ _ _ _ _ _
      | exact ih3 _ _ _ _ _ _ _ _ _ _
      | exact ih4 _ _ _ _ _ _ _ _ _ _ _ _ _
      | exact layer_Cover.mono _ _ _ _
      | exact medlarlaw12_live.mono _
      | exact medlarref08_Same.mono _ _ _
      | exact sub_Has.mono _ _ _ _ _
      | exact sub_Leaves.mono _ _ _ _
      | exact sub_Useful.mono _ _ _ _
      | exact LeO.none _
      | refine LeO.ite ?_ ?_
      | refine LeO.bind ?_ (fun _ => ?_)
    · intro y0 y1 y2 y3 y4 y5 y6 y7 y8 y9
      unfold medlarlaw12_LayerParts.j3
      repeat' first
      | (with_reducible exact ih0 _ _ _ _ _)
      | (with_reducible exact ih1 _ _ _ _ _ _ _ _)
      | (with_reducible exact ih2 _ _ _ _ _ _ _ _)
      | (with_reducible exact ih3 _ _ _ _ _ _ _ _ _ _)
      | (with_reducible exact ih4 _ _ _ _ _ _ _ _ _ _ _ _ _)
      | (with_reducible exact layer_Cover.mono _ _ _ _)
      | (with_reducible exact medlarlaw12_live.mono _)
      | (with_reducible exact medlarref08_Same.mono _ _ _)
      | (with_reducible exact sub_Has.mono _ _ _ _ _)
      | (with_reducible exact sub_Leaves.mono _ _ _ _)
      | (with_reducible exact sub_Useful.mono _ _ _ _)
      | (with_reducible exact LeO.refl _)
      | (with_reducible exact LeO.none _)
      | (with_reducible refine LeO.ite ?_ ?_)
      | (with_reducible refine LeO.bind ?_ (fun _ => ?_))
      | exact ih0 _ _ _ _ _
      | exact ih1 _ _ _ _ _ _ _ _
      | exact ih2 _ _ _ _ _ _ _ _
      | exact ih3 _ _ _ _ _ _ _ _ _ _
      | exact ih4 _ _ _ _ _ _ _ _ _ _ _ _ _
      | exact layer_Cover.mono _ _ _ _
      | exact medlarlaw12_live.mono _
      | exact medlarref08_Same.mono _ _ _
      | exact sub_Has.mono _ _ _ _ _
      | exact sub_Leaves.mono _ _ _ _
      | exact sub_Useful.mono _ _ _ _
      | exact LeO.none _
      | refine LeO.ite ?_ ?_
      | refine LeO.bind ?_ (fun _ => ?_)
    · intro y0 y1 y2 y3 y4 y5 y6 y7 y8 y9 y10 y11 y12
      unfold medlarlaw12_LayerParts.l2
      repeat' first
      | (with_reducible exact ih0 _ _ _ _ _)
      | (with_reducible exact ih1 _ _ _ _ _ _ _ _)
      | (with_reducible exact ih2 _ _ _ _ _ _ _ _)
      | (with_reducible exact ih3 _ _ _ _ _ _ _ _ _ _)
      | (with_reducible exact ih4 _ _ _ _ _ _ _ _ _ _ _ _ _)
      | (with_reducible exact layer_Cover.mono _ _ _ _)
      | (with_reducible exact medlarlaw12_live.mono _)
      | (with_reducible exact medlarref08_Same.mono _ _ _)
      | (with_reducible exact sub_Has.mono _ _ _ _ _)
      | (with_reducible exact sub_Leaves.mono _ _ _ _)
      | (with_reducible exact sub_Useful.mono _ _ _ _)
      | (with_reducible exact LeO.refl _)
      | (with_reducible exact LeO.none _)
      | (with_reducible refine LeO.ite ?_ ?_)
      | (with_reducible refine LeO.bind ?_ (fun _ => ?_))
      | exact ih0 _ _ _ _ _
      | exact ih1 _ _ _ _ _ _ _ _
      | exact ih2 _ _ _ _ _ _ _ _
      | exact ih3 _ _ _ _ _ _ _ _ _ _
      | exact ih4 _ _ _ _ _ _ _ _ _ _ _ _ _
      | exact layer_Cover.mono _ _ _ _
      | exact medlarlaw12_live.mono _
      | exact medlarref08_Same.mono _ _ _
      | exact sub_Has.mono _ _ _ _ _
      | exact sub_Leaves.mono _ _ _ _
      | exact sub_Useful.mono _ _ _ _
      | exact LeO.none _
      | refine LeO.ite ?_ ?_
      | refine LeO.bind ?_ (fun _ => ?_)
theorem medlarlaw12_LayerParts.mono : ∀ a0 a1 k, LeO (medlarlaw12_LayerParts.f k a0 a1) (medlarlaw12_LayerParts.f (k + 1) a0 a1) := by
  intro a0 a1 k
  obtain ⟨ih0, ih1, ih2, ih3, ih4⟩ := medlarlaw12_LayerParts.mono_l k
  unfold medlarlaw12_LayerParts.f
  repeat' first
      | (with_reducible exact ih0 _ _ _ _ _)
      | (with_reducible exact ih1 _ _ _ _ _ _ _ _)
      | (with_reducible exact ih2 _ _ _ _ _ _ _ _)
      | (with_reducible exact ih3 _ _ _ _ _ _ _ _ _ _)
      | (with_reducible exact ih4 _ _ _ _ _ _ _ _ _ _ _ _ _)
      | (with_reducible exact layer_Cover.mono _ _ _ _)
      | (with_reducible exact medlarlaw12_live.mono _)
      | (with_reducible exact medlarref08_Same.mono _ _ _)
      | (with_reducible exact sub_Has.mono _ _ _ _ _)
      | (with_reducible exact sub_Leaves.mono _ _ _ _)
      | (with_reducible exact sub_Useful.mono _ _ _ _)
      | (with_reducible exact LeO.refl _)
      | (with_reducible exact LeO.none _)
      | (with_reducible refine LeO.ite ?_ ?_)
      | (with_reducible refine LeO.bind ?_ (fun _ => ?_))
      | exact ih0 _ _ _ _ _
      | exact ih1 _ _ _ _ _ _ _ _
      | exact ih2 _ _ _ _ _ _ _ _
      | exact ih3 _ _ _ _ _ _ _ _ _ _
      | exact ih4 _ _ _ _ _ _ _ _ _ _ _ _ _
      | exact layer_Cover.mono _ _ _ _
      | exact medlarlaw12_live.mono _
      | exact medlarref08_Same.mono _ _ _
      | exact sub_Has.mono _ _ _ _ _
      | exact sub_Leaves.mono _ _ _ _
      | exact sub_Useful.mono _ _ _ _
      | exact LeO.none _
      | refine LeO.ite ?_ ?_
      | refine LeO.bind ?_ (fun _ => ?_)
def medlarlaw12_LayerParts.T29 : Bool × List (List Nat × List Nat) := (true, [([], []), ([], []), ([], []), ([2], [2]), ([3], [3]), ([4], [4]), ([0, 1, 5], [0, 1, 5]), ([6], [6]), ([7], [7]), ([7], [7]), ([8, 6, 0, 1, 2, 3, 4, 5, 6, 7, 8], [8]), ([9, 10, 0, 1, 2, 3, 4, 5, 6, 7, 8, 9, 10], [9])])
def medlarlaw12_LayerParts.B29 : List Nat := [0, 0, 0, 4, 12, 28, 63, 127, 255, 255, 511, 2047]
theorem medlarlaw12_LayerParts.tab29 : rtab .any (opsOf Try.f11 29) = medlarlaw12_LayerParts.T29 := by kernel_rfl
theorem medlarlaw12_LayerParts.bits29 : waitsOk medlarlaw12_LayerParts.T29.2 medlarlaw12_LayerParts.B29 = true := by kernel_rfl
set_option maxHeartbeats 8000000 in
set_option maxRecDepth 100000 in
theorem medlarlaw12_LayerParts.calls (k : Nat) (a0 : Int) (A1 : Option Addr) (c1 : Nat) (l1 : List Int) (r : Bool) (w : World) (hr1 : Kd.C (Kd.int .u64) w A1 l1.length l1) (hc1 : l1.length ≤ c1) (h : medlarlaw12_LayerParts.f k a0 l1 = some r) (hT : Aside0 (r = true)) :
    Calls Try.prog 11 #[.int .i64 a0, .slice A1 l1.length c1] w fun e w' => e = .returned (.bool r) ∧ Below w.heap.size w w' := by
  have hu34 := Try.underlying34
  have HR1 := Aside0.mk hr1
  have HC1 := Aside0.mk hc1
  clear hr1 hc1
  have HB := Aside0.mk (Below.refl w.heap.size w)
  have H : ((medlarlaw12_live.f k).bind fun t695 => (if (l1.length : Int) > 30 then (some t695) else ((layer_Cover.f k a0 2 l1).bind fun bt696 => ((layer_Cover.f k a0 3 l1).bind fun bt700 => (if bt696.2 = 0 then (if bt700.2 = 0 then (if (bt700.1.length : Int) < (bt696.1.length : Int) then (medlarlaw12_LayerParts.j0 k a0 t695 bt696.1 bt700.1 true) else (medlarlaw12_LayerParts.j0 k a0 t695 bt696.1 bt700.1 (decide ((bt700.1.length : Int) > (wrap64 (2 * (bt696.1.length : Int))))))) else (medlarlaw12_LayerParts.j0 k a0 t695 bt696.1 bt700.1 true)) else (if t695 = true then (some (bt700.2 == bt696.2)) else (some false))))))) = some r := h
  clear h
  replace H := Option.bind_eq_some_iff.mp H
  obtain ⟨t695, A30, H⟩ := H
  replace H : (if (l1.length : Int) > 30 then (some t695) else ((layer_Cover.f k a0 2 l1).bind fun bt696 => ((layer_Cover.f k a0 3 l1).bind fun bt700 => (if bt696.2 = 0 then (if bt700.2 = 0 then (if (bt700.1.length : Int) < (bt696.1.length : Int) then (medlarlaw12_LayerParts.j0 k a0 t695 bt696.1 bt700.1 true) else (medlarlaw12_LayerParts.j0 k a0 t695 bt696.1 bt700.1 (decide ((bt700.1.length : Int) > (wrap64 (2 * (bt696.1.length : Int))))))) else (medlarlaw12_LayerParts.j0 k a0 t695 bt696.1 bt700.1 true)) else (if t695 = true then (some (bt700.2 == bt696.2)) else (some false)))))) = some r := H
  have A3 := Aside0.mk A30
  clear A30
  by_cases c4 : (l1.length : Int) > 30
  · rw [if_pos c4] at H
    have c4b0 : decide (30 < (l1.length : Int)) = true := decide_eq_true c4
    have c4b1 : decide (30 < l1.length) = true := decide_eq_true (by omega)
    clear c4
    obtain rfl := Option.some.inj H
    go_enter Try.func11, Try.ntmps11
    go_wp2_with (first | ((with_reducible refine gate_callee (f := 30) rfl ?_); refine goesL_ (some 24) rfl rfl Try.func30 (by kernel_rfl) rfl #[] rfl (by (try simp only [List.map_toArray, List.map_cons, List.map_nil]); first | done | rfl | (simp only [List.length_drop, List.length_take]; rfl)) ?_; (with_reducible refine (medlarlaw12_live.calls k  t695 _ A3.out).mono ?_); rintro e w5 ⟨rfl, hb⟩; refine ⟨_, rfl, ?_⟩; have n0_ := Aside0.mk (below_step (by repeat (first | (with_reducible first | exact HB.out | apply below_alloc | apply pw_below_drewN | apply below_drew1) | exact HB.out)) hb); clear HB; have HB := n0_; clear n0_; (try clear hb); (try clear hb2); (try clear hk); (try clear hi)))
    go_ret
    exact ⟨by first | rfl | (simp [errW_none, errW_some] <;> rfl) | (simp [*, errW_none, errW_some] <;> rfl), by repeat (first | (with_reducible first | exact HB.out | apply below_alloc | apply pw_below_drewN | apply below_drew1) | exact HB.out)⟩
  · rw [if_neg c4] at H
    have c4b0 : decide (30 < (l1.length : Int)) = false := decide_eq_false c4
    have c4b1 : decide (30 < l1.length) = false := decide_eq_false (by omega)
    clear c4
    replace H := Option.bind_eq_some_iff.mp H
    obtain ⟨⟨t696, t697⟩, A60, H⟩ := H
    replace H : ((layer_Cover.f k a0 3 l1).bind fun bt700 => (if t697 = 0 then (if bt700.2 = 0 then (if (bt700.1.length : Int) < (t696.length : Int) then (medlarlaw12_LayerParts.j0 k a0 t695 t696 bt700.1 true) else (medlarlaw12_LayerParts.j0 k a0 t695 t696 bt700.1 (decide ((bt700.1.length : Int) > (wrap64 (2 * (t696.length : Int))))))) else (medlarlaw12_LayerParts.j0 k a0 t695 t696 bt700.1 true)) else (if t695 = true then (some (bt700.2 == t697)) else (some false)))) = some r := H
    have A6 := Aside0.mk A60
    clear A60
    replace H := Option.bind_eq_some_iff.mp H
    obtain ⟨⟨t700, t701⟩, A70, H⟩ := H
    replace H : (if t697 = 0 then (if t701 = 0 then (if (t700.length : Int) < (t696.length : Int) then (medlarlaw12_LayerParts.j0 k a0 t695 t696 t700 true) else (medlarlaw12_LayerParts.j0 k a0 t695 t696 t700 (decide ((t700.length : Int) > (wrap64 (2 * (t696.length : Int))))))) else (medlarlaw12_LayerParts.j0 k a0 t695 t696 t700 true)) else (if t695 = true then (some (t701 == t697)) else (some false))) = some r := H
    have A7 := Aside0.mk A70
    clear A70
    by_cases c8 : t697 = 0
    · rw [if_pos c8] at H
      have c8b0 : (t697 == 0) = true := beq_iff_eq.mpr c8
      have c8b1 : (t697 != 0) = false := bne_eq_false_iff_eq.mpr c8
      clear c8
      have HC9 := Aside0.mk H
      clear H
      go_enter Try.func11, Try.ntmps11
      go_upto_region 8 with (first | ((with_reducible refine gate_callee (f := 30) rfl ?_); refine goesL_ (some 24) rfl rfl Try.func30 (by kernel_rfl) rfl #[] rfl (by (try simp only [List.map_toArray, List.map_cons, List.map_nil]); first | done | rfl | (simp only [List.length_drop, List.length_take]; rfl)) ?_; (with_reducible refine (medlarlaw12_live.calls k  t695 _ A3.out).mono ?_); rintro e w10 ⟨rfl, hb⟩; refine ⟨_, rfl, ?_⟩; have n0_ := Aside0.mk (below_step (by repeat (first | (with_reducible first | exact HB.out | apply below_alloc | apply pw_below_drewN | apply below_drew1) | exact HB.out)) hb); clear HB; have HB := n0_; clear n0_; (try clear hb); (try clear hb2); (try clear hk); (try clear hi)) | ((with_reducible refine gate_callee (f := 35) rfl ?_); refine goesL_ (some 32) rfl rfl Try.func35 (by kernel_rfl) rfl #[.int .i64 a0, .int .i64 2, .slice A1 l1.length c1] rfl (by (try simp only [List.map_toArray, List.map_cons, List.map_nil]); first | done | rfl | (simp only [List.length_drop, List.length_take]; rfl)) ?_; (with_reducible refine (layer_Cover.calls k a0 2 _ _ l1 t696 t697 _ ?side1 ?side2 A6.out).mono ?_); (case side1 => repeat (first | exact (Kd.C_below HR1.out HB.out) | (with_reducible refine Kd.C_alloc ?_ _) | (with_reducible refine Kd.C_drewN ?_ _) | (with_reducible refine Kd.C_drew ?_))); (case side2 => exact HC1.out); rintro e w11 ⟨v698, rfl, ho0, hb⟩; refine ⟨_, rfl, ?_⟩; have n0_ := Aside0.mk (Kd.R_lower ho0 (below_size (by repeat (first | (with_reducible first | exact HB.out | apply below_alloc | apply pw_below_drewN | apply below_drew1) | exact HB.out)))); have n1_ := Aside0.mk (below_step (by repeat (first | (with_reducible first | exact HB.out | apply below_alloc | apply pw_below_drewN | apply below_drew1) | exact HB.out)) hb); clear HB; have HO699 := n0_; have HB := n1_; clear n0_ n1_; (try clear hb); (try clear hb2); (try clear hk); (try clear hi); (try clear ho0)) | ((with_reducible refine gate_callee (f := 35) rfl ?_); refine goesL_ (some 38) rfl rfl Try.func35 (by kernel_rfl) rfl #[.int .i64 a0, .int .i64 3, .slice A1 l1.length c1] rfl (by (try simp only [List.map_toArray, List.map_cons, List.map_nil]); first | done | rfl | (simp only [List.length_drop, List.length_take]; rfl)) ?_; (with_reducible refine (layer_Cover.calls k a0 3 _ _ l1 t700 t701 _ ?side1 ?side2 A7.out).mono ?_); (case side1 => repeat (first | exact (Kd.C_below HR1.out HB.out) | (with_reducible refine Kd.C_alloc ?_ _) | (with_reducible refine Kd.C_drewN ?_ _) | (with_reducible refine Kd.C_drew ?_))); (case side2 => exact HC1.out); rintro e w12 ⟨v702, rfl, ho0, hb⟩; refine ⟨_, rfl, ?_⟩; have n0_ := Aside0.mk (Kd.R_elder' (by (with_reducible repeat (first | apply Kd.R_alloc | apply Kd.R_drewN | apply Kd.R_drew)); exact HO699.out) (Kd.R_base ho0) hb); have n1_ := Aside0.mk (Kd.R_lower (Kd.R_new' ho0 (Kd.R_lt (by (with_reducible repeat (first | apply Kd.R_alloc | apply Kd.R_drewN | apply Kd.R_drew)); exact HO699.out))) (below_size (by repeat (first | (with_reducible first | exact HB.out | apply below_alloc | apply pw_below_drewN | apply below_drew1) | exact HB.out)))); have n2_ := Aside0.mk (below_step (by repeat (first | (with_reducible first | exact HB.out | apply below_alloc | apply pw_below_drewN | apply below_drew1) | exact HB.out)) hb); clear HO699; clear HB; have HO699 := n0_; have HO703 := n1_; have HB := n2_; clear n0_ n1_ n2_; (try clear hb); (try clear hb2); (try clear hk); (try clear hi); (try clear ho0)))
      (try simp only [Act.put, List.setIfInBounds_toArray, List.set_cons_zero, List.set_cons_succ])
      go_cut [65] (fun v65 wc => ∃ (kq : Nat) (x65_8 : Bool), v65 = .bool x65_8 ∧ Aside0 (medlarlaw12_LayerParts.j0 kq a0 t695 t696 t700 x65_8 = some r) ∧ Aside0 (kq ≤ k) ∧ Aside0 (Kd.R k34 34 wc w.heap.size (fun k_ => some k_ ≠ (v702 : Value).ownBlock) v698 t696) ∧ Aside0 (Kd.R k34 34 wc w.heap.size (fun k_ => some k_ ≠ (v698 : Value).ownBlock) v702 t700) ∧ Aside0 (Below w.heap.size w wc))
      case first =>
        have H := HC9.out
        clear HC9
        by_cases c13 : t701 = 0
        · rw [if_pos c13] at H
          have c13b0 : (t701 == 0) = true := beq_iff_eq.mpr c13
          have c13b1 : (t701 != 0) = false := bne_eq_false_iff_eq.mpr c13
          clear c13
          (first | rw [c13b0] | (simp only [i64_w, i32_w]; rw [c13b0]) | skip)
          by_cases c14 : (t700.length : Int) < (t696.length : Int)
          · rw [if_pos c14] at H
            have c14b0 : decide ((t700.length : Int) < (t696.length : Int)) = true := decide_eq_true c14
            have c14b1 : decide (t700.length < t696.length) = true := decide_eq_true (Int.ofNat_lt.mp c14)
            clear c14
            have H' := Aside0.mk H
            clear H
            obtain ⟨Ao15, co15, eo15⟩ := Kd.R_slice HO703.out
            subst eo15
            obtain ⟨Ao16, co16, eo16⟩ := Kd.R_slice HO699.out
            subst eo16
            go_wp2
            go_meet
            case rel => exact ⟨_, (true), (by first | rfl | (simp; done) | (simp [*]; done)), H', ⟨by first | omega | exact Nat.le_refl _⟩, ⟨by (with_reducible repeat (first | apply Kd.R_alloc | apply Kd.R_drewN | apply Kd.R_drew)); exact Kd.R_mono HO699.out (fun _ hk => hk.2)⟩, ⟨by (with_reducible repeat (first | apply Kd.R_alloc | apply Kd.R_drewN | apply Kd.R_drew)); exact Kd.R_mono HO703.out (fun _ hk => hk.2)⟩, ⟨by repeat (first | (with_reducible first | exact HB.out | apply below_alloc | apply pw_below_drewN | apply below_drew1) | exact HB.out)⟩⟩
          · rw [if_neg c14] at H
            have c14b0 : decide ((t700.length : Int) < (t696.length : Int)) = false := decide_eq_false c14
            have c14b1 : decide (t700.length < t696.length) = false := decide_eq_false (fun h => c14 (Int.ofNat_lt.mpr h))
            clear c14
            have H' := Aside0.mk H
            clear H
            obtain ⟨Ao17, co17, eo17⟩ := Kd.R_slice HO703.out
            subst eo17
            obtain ⟨Ao18, co18, eo18⟩ := Kd.R_slice HO699.out
            subst eo18
            go_wp2
            go_meet
            case rel => exact ⟨_, (decide ((t700.length : Int) > (wrap64 (2 * (t696.length : Int))))), (by first | rfl | (simp; done) | (simp [*]; done)), H', ⟨by first | omega | exact Nat.le_refl _⟩, ⟨by (with_reducible repeat (first | apply Kd.R_alloc | apply Kd.R_drewN | apply Kd.R_drew)); exact Kd.R_mono HO699.out (fun _ hk => hk.2)⟩, ⟨by (with_reducible repeat (first | apply Kd.R_alloc | apply Kd.R_drewN | apply Kd.R_drew)); exact Kd.R_mono HO703.out (fun _ hk => hk.2)⟩, ⟨by repeat (first | (with_reducible first | exact HB.out | apply below_alloc | apply pw_below_drewN | apply below_drew1) | exact HB.out)⟩⟩
        · rw [if_neg c13] at H
          have c13b0 : (t701 == 0) = false := beq_eq_false_iff_ne.mpr c13
          have c13b1 : (t701 != 0) = true := bne_iff_ne.mpr c13
          (first | rw [c13b0] | (simp only [i64_w, i32_w]; rw [c13b0]) | skip)
          have H' := Aside0.mk H
          clear H
          go_wp2
          go_meet
          case rel => exact ⟨_, (true), (by first | rfl | (simp; done) | (simp [*]; done)), H', ⟨by first | omega | exact Nat.le_refl _⟩, ⟨by (with_reducible repeat (first | apply Kd.R_alloc | apply Kd.R_drewN | apply Kd.R_drew)); exact Kd.R_mono HO699.out (fun _ hk => hk.2)⟩, ⟨by (with_reducible repeat (first | apply Kd.R_alloc | apply Kd.R_drewN | apply Kd.R_drew)); exact Kd.R_mono HO703.out (fun _ hk => hk.2)⟩, ⟨by repeat (first | (with_reducible first | exact HB.out | apply below_alloc | apply pw_below_drewN | apply below_drew1) | exact HB.out)⟩⟩
      case rest =>
        clear HC9
        try clear c1
        try clear p2
        try clear c3
        try clear c4
        try clear c4b0
        try clear c4b1
        try clear p6
        try clear c8
        try clear c8b0
        try clear c8b1
        try clear c11
        try clear c13
        try clear c13b0
        try clear c13b1
        try clear c14
        try clear c14b0
        try clear c14b1
        obtain ⟨kq, x65_8, rfl, HA, HJ8, HO_6, HO_8, HB⟩ := hcut
        cases kq with
        | zero => exact absurd HA.out (by simp [medlarlaw12_LayerParts.j0])
        | succ kj8 =>
          have H := HA.out
          clear HA
          simp only [medlarlaw12_LayerParts.j0] at H
          by_cases c19 : x65_8 = true
          · subst c19
            have H1 : (some false) = some r := by rw [if_pos rfl] at H; exact H
            clear H
            have H := H1
            clear H1
            exact absurd ((Option.some.inj H).trans hT.out) Bool.false_ne_true
          · replace c19 := Bool.eq_false_iff.mpr c19
            subst c19
            have H1 : (medlarlaw12_LayerParts.l0 kj8 a0 t695 t696 t700 true t696 (t696.length : Int) 0) = some r := by rw [if_neg (show ¬ (false = true) by decide)] at H; exact H
            clear H
            have H := H1
            clear H1
            have H' := Aside0.mk H
            clear H
            obtain ⟨Ao20, co20, eo20⟩ := Kd.R_slice HO_6.out
            subst eo20
            go_wp2
            go_loopg [10, 68] kj8 (fun kq v10 v68 w' => ∃ (x10_2 : Bool) (x68_2 : Int), v10 = .bool x10_2 ∧ v68 = .int .i64 x68_2 ∧ Aside0 (medlarlaw12_LayerParts.l0 kq a0 t695 t696 t700 x10_2 t696 (t696.length : Int) x68_2 = some r) ∧ Aside0 (kq ≤ kj8) ∧ Aside0 (Kd.R k34 34 w' w.heap.size (fun k_ => some k_ ≠ (v702 : Value).ownBlock) (.slice Ao20 t696.length co20) t696) ∧ Aside0 (Kd.R k34 34 w' w.heap.size (fun k_ => some k_ ≠ ((.slice Ao20 t696.length co20) : Value).ownBlock ∧ some k_ ≠ ((.slice Ao20 t696.length co20) : Value).ownBlock) v702 t700) ∧ Aside0 (Kd.R k34 34 w' w.heap.size (fun k_ => some k_ ≠ (v702 : Value).ownBlock) (.slice Ao20 t696.length co20) t696) ∧ Aside0 (Below w.heap.size w w'))
            case atStart => exact ⟨(true), (0), (by first | rfl | (simp; done) | (simp [*]; done)), (by first | rfl | (simp; done) | (simp [*]; done)), H', ⟨Nat.le_refl _⟩, ⟨by (with_reducible repeat (first | apply Kd.R_alloc | apply Kd.R_drewN | apply Kd.R_drew)); exact HO_6.out⟩, ⟨by (with_reducible repeat (first | apply Kd.R_alloc | apply Kd.R_drewN | apply Kd.R_drew)); exact Kd.R_mono HO_8.out (fun _ hk => ⟨hk, hk⟩)⟩, ⟨by (with_reducible repeat (first | apply Kd.R_alloc | apply Kd.R_drewN | apply Kd.R_drew)); exact HO_6.out⟩, ⟨by repeat (first | (with_reducible first | exact HB.out | apply below_alloc | apply pw_below_drewN | apply below_drew1) | exact HB.out)⟩⟩
            case round =>
              clear H'
              try clear c1
              try clear p2
              try clear c3
              try clear c4
              try clear c4b0
              try clear c4b1
              try clear p6
              try clear c8
              try clear c8b0
              try clear c8b1
              try clear c11
              try clear c13
              try clear c13b0
              try clear c13b1
              try clear c14
              try clear c14b0
              try clear c14b1
              try clear c19
              try clear p2
              try clear p6
              obtain ⟨x10_2, x68_2, rfl, rfl, HA, HK2, HO_6, HO_8, HO_66, HB⟩ := hrel
              cases gk with
              | zero => exact absurd HA.out (by simp [medlarlaw12_LayerParts.l0])
              | succ k2 =>
                have H := HA.out
                clear HA
                simp only [medlarlaw12_LayerParts.l0] at H
                by_cases c21 : x68_2 < (t696.length : Int)
                · rw [if_pos c21] at H
                  have c21b0 : decide (x68_2 < (t696.length : Int)) = true := decide_eq_true c21
                  clear c21
                  by_cases c22 : 0 ≤ x68_2
                  · rw [if_pos c22] at H
                    have c22b0 : decide (0 ≤ x68_2) = true := decide_eq_true c22
                    clear c22
                    by_cases c23 : x68_2 < (t696.length : Int)
                    · rw [if_pos c23] at H
                      have c23b0 : decide (x68_2 < (t696.length : Int)) = true := decide_eq_true c23
                      clear c23
                      replace H := Option.bind_eq_some_iff.mp H
                      obtain ⟨⟨t706, t707⟩, A240, H⟩ := H
                      replace H : (if t707 = 0 then (if x10_2 = true then (medlarlaw12_LayerParts.l0 k2 a0 t695 t696 t700 t706 t696 (t696.length : Int) (wrap64 (x68_2 + 1))) else (medlarlaw12_LayerParts.l0 k2 a0 t695 t696 t700 false t696 (t696.length : Int) (wrap64 (x68_2 + 1)))) else (some false)) = some r := H
                      have A24 := Aside0.mk A240
                      clear A240
                      by_cases c25 : t707 = 0
                      · rw [if_pos c25] at H
                        have c25b0 : (t707 == 0) = true := beq_iff_eq.mpr c25
                        have c25b1 : (t707 != 0) = false := bne_eq_false_iff_eq.mpr c25
                        clear c25
                        by_cases c26 : x10_2 = true
                        · subst c26
                          have H1 : (medlarlaw12_LayerParts.l0 k2 a0 t695 t696 t700 t706 t696 (t696.length : Int) (wrap64 (x68_2 + 1))) = some r := by rw [if_pos rfl] at H; exact H
                          clear H
                          have H := H1
                          clear H1
                          have H' := Aside0.mk H
                          clear H
                          have p704 : 0 ≤ (x68_2 : Int) := of_decide_eq_true (by first | (with_reducible assumption) | assumption)
                          have q704 : x68_2 < (t696.length : Int) := of_decide_eq_true (by first | (with_reducible assumption) | assumption)
                          obtain ⟨ad704, e704, hx704_0, hx704_1⟩ := at_T34 (Kd.R_reads' HO_66.out).2.2 x68_2 p704 q704
                          cases e704
                          replace p704 := eq_true p704
                          replace q704 := eq_true q704
                          go_wp2_with (first | ((with_reducible refine gate_dst (N := 12) rfl ?_); (try (refine gate_guard (by rfl) ?_; dsimp only)); refine box_event ?hg (N := 12) ?hd (cs := #[.int .u64 0, .int .u64 0]) (t := 34) ?hr ?_; (case hd => rfl); (case hg => rfl); (case hr => first | (go_simp; done) | (go_simp; rfl)); intro gb705 hg w27 hbox hb; have n0_ := Aside0.mk (Kd.R_below (Kd.R_elderB (by (with_reducible repeat (first | apply Kd.R_alloc | apply Kd.R_drewN | apply Kd.R_drew)); exact HO_6.out) gb705 (Nat.le_of_eq hg.symm)) hb); have n1_ := Aside0.mk (Kd.R_below (Kd.R_elderB (by (with_reducible repeat (first | apply Kd.R_alloc | apply Kd.R_drewN | apply Kd.R_drew)); exact HO_8.out) gb705 (Nat.le_of_eq hg.symm)) hb); have n2_ := Aside0.mk (Kd.R_below (Kd.R_elderB (by (with_reducible repeat (first | apply Kd.R_alloc | apply Kd.R_drewN | apply Kd.R_drew)); exact HO_66.out) gb705 (Nat.le_of_eq hg.symm)) hb); have n3_ := Aside0.mk (below_step (by repeat (first | (with_reducible first | exact HB.out | apply below_alloc | apply pw_below_drewN | apply below_drew1) | exact HB.out)) hb); have n4_ := Aside0.mk (hbox); have n5_ := Aside0.mk ((by rw [hg]; exact (below_size (by repeat (first | (with_reducible first | exact HB.out | apply below_alloc | apply pw_below_drewN | apply below_drew1) | exact HB.out))) : w.heap.size ≤ gb705)); have n6_ := Aside0.mk ((by rw [hg]; exact (below_size (by repeat (first | (with_reducible first | exact HB.out | apply below_alloc | apply pw_below_drewN | apply below_drew1) | exact HB.out))) : w.heap.size ≤ gb705)); clear HO_6; clear HO_8; clear HO_66; clear HB; have HO_6 := n0_; have HO_8 := n1_; have HO_66 := n2_; have HB := n3_; have BK705 := n4_; have GW705 := n5_; have GE705 := n6_; clear n0_ n1_ n2_ n3_ n4_ n5_ n6_; clear hb hbox hg; have hcz28_0 : w27.cell? ⟨gb705, 0, none⟩ = some (.int .u64 0) := (blk_cell BK705.out 0).trans rfl; have hcz28_1 : w27.cell? ⟨gb705, 1, none⟩ = some (.int .u64 0) := (blk_cell BK705.out 1).trans rfl; have hfz28_0 := blk_frozen BK705.out 0; have hfz28_1 := blk_frozen BK705.out 1) | ((with_reducible refine gate_callee (f := 36) rfl ?_); refine goesL_ (some 75) rfl rfl Try.func36 (by kernel_rfl) rfl #[.int .i64 a0, .agg #[.int .u64 ((rd_T34 t696 x68_2).f0), .int .u64 ((rd_T34 t696 x68_2).f1)]] rfl (by (try simp only [List.map_toArray, List.map_cons, List.map_nil]); first | done | rfl | (simp only [List.length_drop, List.length_take]; rfl)) ?_; (with_reducible refine (sub_Useful.calls k2 a0 ((rd_T34 t696 x68_2).f0) ((rd_T34 t696 x68_2).f1) t706 t707 _ A24.out).mono ?_); rintro e w29 ⟨rfl, hb⟩; refine ⟨_, rfl, ?_⟩; have n0_ := Aside0.mk (Kd.R_below (by (with_reducible repeat (first | apply Kd.R_alloc | apply Kd.R_drewN | apply Kd.R_drew)); exact (Kd.R_mono (Kd.R_far (p := ⟨gb705, 1, none⟩) (Kd.R_far (p := ⟨gb705, 0, none⟩) (Kd.R_mono HO_6.out (fun k_ hk => (⟨hk, hk.2⟩ : _ ∧ k_ ≠ gb705))) (fun _ hk => hk.2) (.int .u64 ((rd_T34 t696 x68_2).f0))) (fun _ hk => hk.2) (.int .u64 ((rd_T34 t696 x68_2).f1))) (fun _ h_ => h_.1))) hb); have n1_ := Aside0.mk (Kd.R_below (by (with_reducible repeat (first | apply Kd.R_alloc | apply Kd.R_drewN | apply Kd.R_drew)); exact (Kd.R_mono (Kd.R_far (p := ⟨gb705, 1, none⟩) (Kd.R_far (p := ⟨gb705, 0, none⟩) (Kd.R_mono HO_8.out (fun k_ hk => (⟨hk, hk.2⟩ : _ ∧ k_ ≠ gb705))) (fun _ hk => hk.2) (.int .u64 ((rd_T34 t696 x68_2).f0))) (fun _ hk => hk.2) (.int .u64 ((rd_T34 t696 x68_2).f1))) (fun _ h_ => h_.1))) hb); have n2_ := Aside0.mk (Kd.R_below (by (with_reducible repeat (first | apply Kd.R_alloc | apply Kd.R_drewN | apply Kd.R_drew)); exact (Kd.R_mono (Kd.R_far (p := ⟨gb705, 1, none⟩) (Kd.R_far (p := ⟨gb705, 0, none⟩) (Kd.R_mono HO_66.out (fun k_ hk => (⟨hk, hk.2⟩ : _ ∧ k_ ≠ gb705))) (fun _ hk => hk.2) (.int .u64 ((rd_T34 t696 x68_2).f0))) (fun _ hk => hk.2) (.int .u64 ((rd_T34 t696 x68_2).f1))) (fun _ h_ => h_.1))) hb); have n3_ := Aside0.mk (blk_below (g := gb705) (o := .cells #[.int .u64 ((rd_T34 t696 x68_2).f0), .int .u64 ((rd_T34 t696 x68_2).f1)] 34 (0, 0)) (by (with_reducible repeat (first | refine blk_drewN ?_ _ | refine blk_drew ?_ | refine blk_alloc ?_ _)); refine blk_put (cs := #[.int .u64 ((rd_T34 t696 x68_2).f0), .int .u64 0]) ?_ 1 _ rfl; (with_reducible repeat (first | refine blk_drewN ?_ _ | refine blk_drew ?_ | refine blk_alloc ?_ _)); refine blk_put (cs := #[.int .u64 0, .int .u64 0]) ?_ 0 _ rfl; (with_reducible repeat (first | refine blk_drewN ?_ _ | refine blk_drew ?_ | refine blk_alloc ?_ _)); exact BK705.out) hb); have n4_ := Aside0.mk (below_step (by repeat (first | (with_reducible first | exact HB.out | apply below_alloc | apply pw_below_drewN | apply below_drew1 | refine below_set ?_ GE705.out) | exact HB.out)) hb); clear HO_6; clear HO_8; clear HO_66; clear BK705; clear HB; have HO_6 := n0_; have HO_8 := n1_; have HO_66 := n2_; have BK705 := n3_; have HB := n4_; clear n0_ n1_ n2_ n3_ n4_; (try clear hb); (try clear hb2); (try clear hk); (try clear hi)))
                          go_roundg k2
                          case measure => have := HJ8.out; have := HK2.out; omega
                          case rel => exact ⟨(t706), (wrap64 (x68_2 + 1)), (by first | rfl | (simp; done) | (simp [*]; done)), (by first | rfl | (simp; done) | (simp [*]; done)), H', ⟨by have := HJ8.out; have := HK2.out; omega⟩, ⟨by (with_reducible repeat (first | apply Kd.R_alloc | apply Kd.R_drewN | apply Kd.R_drew)); exact Kd.R_mono HO_6.out (fun _ hk => hk.1)⟩, ⟨by (with_reducible repeat (first | apply Kd.R_alloc | apply Kd.R_drewN | apply Kd.R_drew)); exact Kd.R_mono HO_8.out (fun _ hk => ⟨hk.1.1, hk.1.2⟩)⟩, ⟨by (with_reducible repeat (first | apply Kd.R_alloc | apply Kd.R_drewN | apply Kd.R_drew)); exact Kd.R_mono HO_66.out (fun _ hk => hk.1)⟩, ⟨by repeat (first | (with_reducible first | exact HB.out | apply below_alloc | apply pw_below_drewN | apply below_drew1 | refine below_set ?_ GE705.out) | exact HB.out)⟩⟩
                        · replace c26 := Bool.eq_false_iff.mpr c26
                          subst c26
                          have H1 : (medlarlaw12_LayerParts.l0 k2 a0 t695 t696 t700 false t696 (t696.length : Int) (wrap64 (x68_2 + 1))) = some r := by rw [if_neg (show ¬ (false = true) by decide)] at H; exact H
                          clear H
                          have H := H1
                          clear H1
                          have H' := Aside0.mk H
                          clear H
                          have p704 : 0 ≤ (x68_2 : Int) := of_decide_eq_true (by first | (with_reducible assumption) | assumption)
                          have q704 : x68_2 < (t696.length : Int) := of_decide_eq_true (by first | (with_reducible assumption) | assumption)
                          obtain ⟨ad704, e704, hx704_0, hx704_1⟩ := at_T34 (Kd.R_reads' HO_66.out).2.2 x68_2 p704 q704
                          cases e704
                          replace p704 := eq_true p704
                          replace q704 := eq_true q704
                          go_wp2_with (first | ((with_reducible refine gate_dst (N := 12) rfl ?_); (try (refine gate_guard (by rfl) ?_; dsimp only)); refine box_event ?hg (N := 12) ?hd (cs := #[.int .u64 0, .int .u64 0]) (t := 34) ?hr ?_; (case hd => rfl); (case hg => rfl); (case hr => first | (go_simp; done) | (go_simp; rfl)); intro gb705 hg w30 hbox hb; have n0_ := Aside0.mk (Kd.R_below (Kd.R_elderB (by (with_reducible repeat (first | apply Kd.R_alloc | apply Kd.R_drewN | apply Kd.R_drew)); exact HO_6.out) gb705 (Nat.le_of_eq hg.symm)) hb); have n1_ := Aside0.mk (Kd.R_below (Kd.R_elderB (by (with_reducible repeat (first | apply Kd.R_alloc | apply Kd.R_drewN | apply Kd.R_drew)); exact HO_8.out) gb705 (Nat.le_of_eq hg.symm)) hb); have n2_ := Aside0.mk (Kd.R_below (Kd.R_elderB (by (with_reducible repeat (first | apply Kd.R_alloc | apply Kd.R_drewN | apply Kd.R_drew)); exact HO_66.out) gb705 (Nat.le_of_eq hg.symm)) hb); have n3_ := Aside0.mk (below_step (by repeat (first | (with_reducible first | exact HB.out | apply below_alloc | apply pw_below_drewN | apply below_drew1) | exact HB.out)) hb); have n4_ := Aside0.mk (hbox); have n5_ := Aside0.mk ((by rw [hg]; exact (below_size (by repeat (first | (with_reducible first | exact HB.out | apply below_alloc | apply pw_below_drewN | apply below_drew1) | exact HB.out))) : w.heap.size ≤ gb705)); have n6_ := Aside0.mk ((by rw [hg]; exact (below_size (by repeat (first | (with_reducible first | exact HB.out | apply below_alloc | apply pw_below_drewN | apply below_drew1) | exact HB.out))) : w.heap.size ≤ gb705)); clear HO_6; clear HO_8; clear HO_66; clear HB; have HO_6 := n0_; have HO_8 := n1_; have HO_66 := n2_; have HB := n3_; have BK705 := n4_; have GW705 := n5_; have GE705 := n6_; clear n0_ n1_ n2_ n3_ n4_ n5_ n6_; clear hb hbox hg; have hcz31_0 : w30.cell? ⟨gb705, 0, none⟩ = some (.int .u64 0) := (blk_cell BK705.out 0).trans rfl; have hcz31_1 : w30.cell? ⟨gb705, 1, none⟩ = some (.int .u64 0) := (blk_cell BK705.out 1).trans rfl; have hfz31_0 := blk_frozen BK705.out 0; have hfz31_1 := blk_frozen BK705.out 1) | ((with_reducible refine gate_callee (f := 36) rfl ?_); refine goesL_ (some 75) rfl rfl Try.func36 (by kernel_rfl) rfl #[.int .i64 a0, .agg #[.int .u64 ((rd_T34 t696 x68_2).f0), .int .u64 ((rd_T34 t696 x68_2).f1)]] rfl (by (try simp only [List.map_toArray, List.map_cons, List.map_nil]); first | done | rfl | (simp only [List.length_drop, List.length_take]; rfl)) ?_; (with_reducible refine (sub_Useful.calls k2 a0 ((rd_T34 t696 x68_2).f0) ((rd_T34 t696 x68_2).f1) t706 t707 _ A24.out).mono ?_); rintro e w32 ⟨rfl, hb⟩; refine ⟨_, rfl, ?_⟩; have n0_ := Aside0.mk (Kd.R_below (by (with_reducible repeat (first | apply Kd.R_alloc | apply Kd.R_drewN | apply Kd.R_drew)); exact (Kd.R_mono (Kd.R_far (p := ⟨gb705, 1, none⟩) (Kd.R_far (p := ⟨gb705, 0, none⟩) (Kd.R_mono HO_6.out (fun k_ hk => (⟨hk, hk.2⟩ : _ ∧ k_ ≠ gb705))) (fun _ hk => hk.2) (.int .u64 ((rd_T34 t696 x68_2).f0))) (fun _ hk => hk.2) (.int .u64 ((rd_T34 t696 x68_2).f1))) (fun _ h_ => h_.1))) hb); have n1_ := Aside0.mk (Kd.R_below (by (with_reducible repeat (first | apply Kd.R_alloc | apply Kd.R_drewN | apply Kd.R_drew)); exact (Kd.R_mono (Kd.R_far (p := ⟨gb705, 1, none⟩) (Kd.R_far (p := ⟨gb705, 0, none⟩) (Kd.R_mono HO_8.out (fun k_ hk => (⟨hk, hk.2⟩ : _ ∧ k_ ≠ gb705))) (fun _ hk => hk.2) (.int .u64 ((rd_T34 t696 x68_2).f0))) (fun _ hk => hk.2) (.int .u64 ((rd_T34 t696 x68_2).f1))) (fun _ h_ => h_.1))) hb); have n2_ := Aside0.mk (Kd.R_below (by (with_reducible repeat (first | apply Kd.R_alloc | apply Kd.R_drewN | apply Kd.R_drew)); exact (Kd.R_mono (Kd.R_far (p := ⟨gb705, 1, none⟩) (Kd.R_far (p := ⟨gb705, 0, none⟩) (Kd.R_mono HO_66.out (fun k_ hk => (⟨hk, hk.2⟩ : _ ∧ k_ ≠ gb705))) (fun _ hk => hk.2) (.int .u64 ((rd_T34 t696 x68_2).f0))) (fun _ hk => hk.2) (.int .u64 ((rd_T34 t696 x68_2).f1))) (fun _ h_ => h_.1))) hb); have n3_ := Aside0.mk (blk_below (g := gb705) (o := .cells #[.int .u64 ((rd_T34 t696 x68_2).f0), .int .u64 ((rd_T34 t696 x68_2).f1)] 34 (0, 0)) (by (with_reducible repeat (first | refine blk_drewN ?_ _ | refine blk_drew ?_ | refine blk_alloc ?_ _)); refine blk_put (cs := #[.int .u64 ((rd_T34 t696 x68_2).f0), .int .u64 0]) ?_ 1 _ rfl; (with_reducible repeat (first | refine blk_drewN ?_ _ | refine blk_drew ?_ | refine blk_alloc ?_ _)); refine blk_put (cs := #[.int .u64 0, .int .u64 0]) ?_ 0 _ rfl; (with_reducible repeat (first | refine blk_drewN ?_ _ | refine blk_drew ?_ | refine blk_alloc ?_ _)); exact BK705.out) hb); have n4_ := Aside0.mk (below_step (by repeat (first | (with_reducible first | exact HB.out | apply below_alloc | apply pw_below_drewN | apply below_drew1 | refine below_set ?_ GE705.out) | exact HB.out)) hb); clear HO_6; clear HO_8; clear HO_66; clear BK705; clear HB; have HO_6 := n0_; have HO_8 := n1_; have HO_66 := n2_; have BK705 := n3_; have HB := n4_; clear n0_ n1_ n2_ n3_ n4_; (try clear hb); (try clear hb2); (try clear hk); (try clear hi)))
                          go_roundg k2
                          case measure => have := HJ8.out; have := HK2.out; omega
                          case rel => exact ⟨(false), (wrap64 (x68_2 + 1)), (by first | rfl | (simp; done) | (simp [*]; done)), (by first | rfl | (simp; done) | (simp [*]; done)), H', ⟨by have := HJ8.out; have := HK2.out; omega⟩, ⟨by (with_reducible repeat (first | apply Kd.R_alloc | apply Kd.R_drewN | apply Kd.R_drew)); exact Kd.R_mono HO_6.out (fun _ hk => hk.1)⟩, ⟨by (with_reducible repeat (first | apply Kd.R_alloc | apply Kd.R_drewN | apply Kd.R_drew)); exact Kd.R_mono HO_8.out (fun _ hk => ⟨hk.1.1, hk.1.2⟩)⟩, ⟨by (with_reducible repeat (first | apply Kd.R_alloc | apply Kd.R_drewN | apply Kd.R_drew)); exact Kd.R_mono HO_66.out (fun _ hk => hk.1)⟩, ⟨by repeat (first | (with_reducible first | exact HB.out | apply below_alloc | apply pw_below_drewN | apply below_drew1 | refine below_set ?_ GE705.out) | exact HB.out)⟩⟩
                      · rw [if_neg c25] at H
                        have c25b0 : (t707 == 0) = false := beq_eq_false_iff_ne.mpr c25
                        have c25b1 : (t707 != 0) = true := bne_iff_ne.mpr c25
                        exact absurd ((Option.some.inj H).trans hT.out) Bool.false_ne_true
                    · rw [if_neg c23] at H
                      exact absurd H (by simp)
                  · rw [if_neg c22] at H
                    exact absurd H (by simp)
                · rw [if_neg c21] at H
                  have c21b0 : decide (x68_2 < (t696.length : Int)) = false := decide_eq_false c21
                  clear c21
                  have H' := Aside0.mk H
                  clear H
                  obtain ⟨Ao33, co33, eo33⟩ := Kd.R_slice HO_8.out
                  subst eo33
                  go_wp2
                  go_loopg [87] k2 (fun kq v87 w' => ∃ (x87_3 : Int), v87 = .int .i64 x87_3 ∧ Aside0 (medlarlaw12_LayerParts.l1 kq a0 t695 t696 t700 x10_2 t700 (t700.length : Int) x87_3 = some r) ∧ Aside0 (kq ≤ k2) ∧ Aside0 (Kd.R k34 34 w' w.heap.size (fun k_ => some k_ ≠ ((.slice Ao33 t700.length co33) : Value).ownBlock ∧ some k_ ≠ ((.slice Ao33 t700.length co33) : Value).ownBlock) (.slice Ao20 t696.length co20) t696) ∧ Aside0 (Kd.R k34 34 w' w.heap.size (fun k_ => some k_ ≠ ((.slice Ao20 t696.length co20) : Value).ownBlock) (.slice Ao33 t700.length co33) t700) ∧ Aside0 (Kd.R k34 34 w' w.heap.size (fun k_ => some k_ ≠ ((.slice Ao20 t696.length co20) : Value).ownBlock) (.slice Ao33 t700.length co33) t700) ∧ Aside0 (Below w.heap.size w w'))
                  case atStart => exact ⟨(0), (by first | rfl | (simp; done) | (simp [*]; done)), H', ⟨Nat.le_refl _⟩, ⟨by (with_reducible repeat (first | apply Kd.R_alloc | apply Kd.R_drewN | apply Kd.R_drew)); exact Kd.R_mono HO_6.out (fun _ hk => ⟨hk, hk⟩)⟩, ⟨by (with_reducible repeat (first | apply Kd.R_alloc | apply Kd.R_drewN | apply Kd.R_drew)); exact Kd.R_mono HO_8.out (fun _ hk => hk.1)⟩, ⟨by (with_reducible repeat (first | apply Kd.R_alloc | apply Kd.R_drewN | apply Kd.R_drew)); exact Kd.R_mono HO_8.out (fun _ hk => hk.1)⟩, ⟨by repeat (first | (with_reducible first | exact HB.out | apply below_alloc | apply pw_below_drewN | apply below_drew1) | exact HB.out)⟩⟩
                  case round =>
                    clear H'
                    try clear c1
                    try clear c2
                    try clear p2
                    try clear c3
                    try clear c4
                    try clear c4b0
                    try clear c4b1
                    try clear p6
                    try clear p7
                    try clear q7
                    try clear hx7
                    try clear c8
                    try clear c8b0
                    try clear c8b1
                    try clear c11
                    try clear c13
                    try clear c13b0
                    try clear c13b1
                    try clear c14
                    try clear c14b0
                    try clear c14b1
                    try clear c19
                    try clear c21
                    try clear c21b0
                    try clear c22
                    try clear c22b0
                    try clear c23
                    try clear c23b0
                    try clear c25
                    try clear c25b0
                    try clear c25b1
                    try clear c26
                    try clear c30
                    try clear hcz28_0
                    try clear hcz28_1
                    try clear hcz31_0
                    try clear hcz31_1
                    try clear hfz28_0
                    try clear hfz28_1
                    try clear hfz31_0
                    try clear hfz31_1
                    try clear hx704_0
                    try clear hx704_1
                    try clear p2
                    try clear p6
                    try clear p704
                    try clear q704
                    obtain ⟨x87_3, rfl, HA, HK3, HO_6, HO_8, HO_85, HB⟩ := hrel
                    cases gk with
                    | zero => exact absurd HA.out (by simp [medlarlaw12_LayerParts.l1])
                    | succ k3 =>
                      have H := HA.out
                      clear HA
                      simp only [medlarlaw12_LayerParts.l1] at H
                      by_cases c34 : x87_3 < (t700.length : Int)
                      · rw [if_pos c34] at H
                        have c34b0 : decide (x87_3 < (t700.length : Int)) = true := decide_eq_true c34
                        clear c34
                        by_cases c35 : 0 ≤ x87_3
                        · rw [if_pos c35] at H
                          have c35b0 : decide (0 ≤ x87_3) = true := decide_eq_true c35
                          clear c35
                          by_cases c36 : x87_3 < (t700.length : Int)
                          · rw [if_pos c36] at H
                            have c36b0 : decide (x87_3 < (t700.length : Int)) = true := decide_eq_true c36
                            clear c36
                            replace H := Option.bind_eq_some_iff.mp H
                            obtain ⟨⟨t711, t714⟩, A370, H⟩ := H
                            replace H : (if t714 = 0 then (medlarlaw12_LayerParts.j3 k3 a0 t695 t696 t700 x10_2 t711 t700 (t700.length : Int) x87_3 ((t711.length : Int) == 0)) else (medlarlaw12_LayerParts.j3 k3 a0 t695 t696 t700 x10_2 t711 t700 (t700.length : Int) x87_3 true)) = some r := H
                            have A37 := Aside0.mk A370
                            clear A370
                            have HC38 := Aside0.mk H
                            clear H
                            have p709 : 0 ≤ (x87_3 : Int) := of_decide_eq_true (by first | (with_reducible assumption) | assumption)
                            have q709 : x87_3 < (t700.length : Int) := of_decide_eq_true (by first | (with_reducible assumption) | assumption)
                            obtain ⟨ad709, e709, hx709_0, hx709_1⟩ := at_T34 (Kd.R_reads' HO_85.out).2.2 x87_3 p709 q709
                            cases e709
                            replace p709 := eq_true p709
                            replace q709 := eq_true q709
                            go_upto_region 23 with (first | ((with_reducible refine gate_dst (N := 16) rfl ?_); (try (refine gate_guard (by rfl) ?_; dsimp only)); refine box_event ?hg (N := 16) ?hd (cs := #[.int .u64 0, .int .u64 0]) (t := 34) ?hr ?_; (case hd => rfl); (case hg => rfl); (case hr => first | (go_simp; done) | (go_simp; rfl)); intro gb710 hg w39 hbox hb; have n0_ := Aside0.mk (Kd.R_below (Kd.R_elderB (by (with_reducible repeat (first | apply Kd.R_alloc | apply Kd.R_drewN | apply Kd.R_drew)); exact HO_6.out) gb710 (Nat.le_of_eq hg.symm)) hb); have n1_ := Aside0.mk (Kd.R_below (Kd.R_elderB (by (with_reducible repeat (first | apply Kd.R_alloc | apply Kd.R_drewN | apply Kd.R_drew)); exact HO_8.out) gb710 (Nat.le_of_eq hg.symm)) hb); have n2_ := Aside0.mk (Kd.R_below (Kd.R_elderB (by (with_reducible repeat (first | apply Kd.R_alloc | apply Kd.R_drewN | apply Kd.R_drew)); exact HO_85.out) gb710 (Nat.le_of_eq hg.symm)) hb); have n3_ := Aside0.mk (below_step (by repeat (first | (with_reducible first | exact HB.out | apply below_alloc | apply pw_below_drewN | apply below_drew1) | exact HB.out)) hb); have n4_ := Aside0.mk (hbox); have n5_ := Aside0.mk ((by rw [hg]; exact (below_size (by repeat (first | (with_reducible first | exact HB.out | apply below_alloc | apply pw_below_drewN | apply below_drew1) | exact HB.out))) : w.heap.size ≤ gb710)); have n6_ := Aside0.mk ((by rw [hg]; exact (below_size (by repeat (first | (with_reducible first | exact HB.out | apply below_alloc | apply pw_below_drewN | apply below_drew1) | exact HB.out))) : w.heap.size ≤ gb710)); clear HO_6; clear HO_8; clear HO_85; clear HB; have HO_6 := n0_; have HO_8 := n1_; have HO_85 := n2_; have HB := n3_; have BK710 := n4_; have GW710 := n5_; have GE710 := n6_; clear n0_ n1_ n2_ n3_ n4_ n5_ n6_; clear hb hbox hg; have hcz40_0 : w39.cell? ⟨gb710, 0, none⟩ = some (.int .u64 0) := (blk_cell BK710.out 0).trans rfl; have hcz40_1 : w39.cell? ⟨gb710, 1, none⟩ = some (.int .u64 0) := (blk_cell BK710.out 1).trans rfl; have hfz40_0 := blk_frozen BK710.out 0; have hfz40_1 := blk_frozen BK710.out 1) | ((with_reducible refine gate_callee (f := 26) rfl ?_); refine goesL_ (some 94) rfl rfl Try.func26 (by kernel_rfl) rfl #[.int .i64 a0, .agg #[.int .u64 ((rd_T34 t700 x87_3).f0), .int .u64 ((rd_T34 t700 x87_3).f1)]] rfl (by (try simp only [List.map_toArray, List.map_cons, List.map_nil]); first | done | rfl | (simp only [List.length_drop, List.length_take]; rfl)) ?_; (with_reducible refine (sub_Leaves.calls k3 a0 ((rd_T34 t700 x87_3).f0) ((rd_T34 t700 x87_3).f1) t711 t714 _ A37.out).mono ?_); rintro e w41 ⟨v712, rfl, ho0, hb⟩; refine ⟨_, rfl, ?_⟩; have n0_ := Aside0.mk (Kd.R_below (by (with_reducible repeat (first | apply Kd.R_alloc | apply Kd.R_drewN | apply Kd.R_drew)); exact (Kd.R_mono (Kd.R_far (p := ⟨gb710, 1, none⟩) (Kd.R_far (p := ⟨gb710, 0, none⟩) (Kd.R_mono HO_6.out (fun k_ hk => (⟨hk, hk.2⟩ : _ ∧ k_ ≠ gb710))) (fun _ hk => hk.2) (.int .u64 ((rd_T34 t700 x87_3).f0))) (fun _ hk => hk.2) (.int .u64 ((rd_T34 t700 x87_3).f1))) (fun _ h_ => h_.1))) hb); have n1_ := Aside0.mk (Kd.R_below (by (with_reducible repeat (first | apply Kd.R_alloc | apply Kd.R_drewN | apply Kd.R_drew)); exact (Kd.R_mono (Kd.R_far (p := ⟨gb710, 1, none⟩) (Kd.R_far (p := ⟨gb710, 0, none⟩) (Kd.R_mono HO_8.out (fun k_ hk => (⟨hk, hk.2⟩ : _ ∧ k_ ≠ gb710))) (fun _ hk => hk.2) (.int .u64 ((rd_T34 t700 x87_3).f0))) (fun _ hk => hk.2) (.int .u64 ((rd_T34 t700 x87_3).f1))) (fun _ h_ => h_.1))) hb); have n2_ := Aside0.mk (Kd.R_below (by (with_reducible repeat (first | apply Kd.R_alloc | apply Kd.R_drewN | apply Kd.R_drew)); exact (Kd.R_mono (Kd.R_far (p := ⟨gb710, 1, none⟩) (Kd.R_far (p := ⟨gb710, 0, none⟩) (Kd.R_mono HO_85.out (fun k_ hk => (⟨hk, hk.2⟩ : _ ∧ k_ ≠ gb710))) (fun _ hk => hk.2) (.int .u64 ((rd_T34 t700 x87_3).f0))) (fun _ hk => hk.2) (.int .u64 ((rd_T34 t700 x87_3).f1))) (fun _ h_ => h_.1))) hb); have n3_ := Aside0.mk (Kd.R_lower ho0 (below_size (by repeat (first | (with_reducible first | exact HB.out | apply below_alloc | apply pw_below_drewN | apply below_drew1 | refine below_set ?_ GE710.out) | exact HB.out)))); have n4_ := Aside0.mk (blk_below (g := gb710) (o := .cells #[.int .u64 ((rd_T34 t700 x87_3).f0), .int .u64 ((rd_T34 t700 x87_3).f1)] 34 (0, 0)) (by (with_reducible repeat (first | refine blk_drewN ?_ _ | refine blk_drew ?_ | refine blk_alloc ?_ _)); refine blk_put (cs := #[.int .u64 ((rd_T34 t700 x87_3).f0), .int .u64 0]) ?_ 1 _ rfl; (with_reducible repeat (first | refine blk_drewN ?_ _ | refine blk_drew ?_ | refine blk_alloc ?_ _)); refine blk_put (cs := #[.int .u64 0, .int .u64 0]) ?_ 0 _ rfl; (with_reducible repeat (first | refine blk_drewN ?_ _ | refine blk_drew ?_ | refine blk_alloc ?_ _)); exact BK710.out) hb); have n5_ := Aside0.mk (below_step (by repeat (first | (with_reducible first | exact HB.out | apply below_alloc | apply pw_below_drewN | apply below_drew1 | refine below_set ?_ GE710.out) | exact HB.out)) hb); clear HO_6; clear HO_8; clear HO_85; clear BK710; clear HB; have HO_6 := n0_; have HO_8 := n1_; have HO_85 := n2_; have HO713 := n3_; have BK710 := n4_; have HB := n5_; clear n0_ n1_ n2_ n3_ n4_ n5_; (try clear hb); (try clear hb2); (try clear hk); (try clear hi); (try clear ho0)))
                            (try simp only [Act.put, List.setIfInBounds_toArray, List.set_cons_zero, List.set_cons_succ])
                            go_cut [103] (fun v103 wc => ∃ (kq : Nat) (x103_37 : Bool), v103 = .bool x103_37 ∧ Aside0 (medlarlaw12_LayerParts.j3 kq a0 t695 t696 t700 x10_2 t711 t700 (t700.length : Int) x87_3 x103_37 = some r) ∧ Aside0 (kq ≤ k3) ∧ Aside0 (Kd.R k34 34 wc w.heap.size (fun k_ => some k_ ≠ ((.slice (some ad709) t700.length co33) : Value).ownBlock ∧ some k_ ≠ ((.slice (some ad709) t700.length co33) : Value).ownBlock ∧ k_ ≠ gb710) (.slice Ao20 t696.length co20) t696) ∧ Aside0 (Kd.R k34 34 wc w.heap.size (fun k_ => some k_ ≠ ((.slice Ao20 t696.length co20) : Value).ownBlock ∧ k_ ≠ gb710) (.slice (some ad709) t700.length co33) t700) ∧ Aside0 (Kd.R k52 52 wc w.heap.size (fun _ => True) v712 t711) ∧ Aside0 (Kd.R k34 34 wc w.heap.size (fun k_ => some k_ ≠ ((.slice Ao20 t696.length co20) : Value).ownBlock ∧ k_ ≠ gb710) (.slice (some ad709) t700.length co33) t700) ∧ Aside0 (wc.heap[gb710]? = some (.cells #[.int .u64 ((rd_T34 t700 x87_3).f0), .int .u64 ((rd_T34 t700 x87_3).f1)] 34 (0, 0))) ∧ Aside0 (Below w.heap.size w wc))
                            case first =>
                              have H := HC38.out
                              clear HC38
                              by_cases c42 : t714 = 0
                              · rw [if_pos c42] at H
                                have c42b0 : (t714 == 0) = true := beq_iff_eq.mpr c42
                                have c42b1 : (t714 != 0) = false := bne_eq_false_iff_eq.mpr c42
                                clear c42
                                (first | rw [c42b0] | (simp only [i64_w, i32_w]; rw [c42b0]) | skip)
                                have H' := Aside0.mk H
                                clear H
                                obtain ⟨Ao43, co43, eo43⟩ := Kd.R_slice HO713.out
                                subst eo43
                                go_wp2
                                go_meet
                                case rel => exact ⟨_, (((t711.length : Int) == 0)), (by first | rfl | (simp; done) | (simp [*]; done)), H', ⟨by have := HJ8.out; have := HK2.out; have := HK3.out; first | omega | exact Nat.le_refl _⟩, ⟨by (with_reducible repeat (first | apply Kd.R_alloc | apply Kd.R_drewN | apply Kd.R_drew)); exact Kd.R_mono HO_6.out (fun _ hk => ⟨hk.1.1, ⟨hk.1.2, hk.2⟩⟩)⟩, ⟨by (with_reducible repeat (first | apply Kd.R_alloc | apply Kd.R_drewN | apply Kd.R_drew)); exact HO_8.out⟩, ⟨by (with_reducible repeat (first | apply Kd.R_alloc | apply Kd.R_drewN | apply Kd.R_drew)); exact HO713.out⟩, ⟨by (with_reducible repeat (first | apply Kd.R_alloc | apply Kd.R_drewN | apply Kd.R_drew)); exact HO_85.out⟩, ⟨by (with_reducible repeat (first | refine blk_drewN ?_ _ | refine blk_drew ?_ | refine blk_alloc ?_ _)); exact BK710.out⟩, ⟨by repeat (first | (with_reducible first | exact HB.out | apply below_alloc | apply pw_below_drewN | apply below_drew1 | refine below_set ?_ GE710.out) | exact HB.out)⟩⟩
                              · rw [if_neg c42] at H
                                have c42b0 : (t714 == 0) = false := beq_eq_false_iff_ne.mpr c42
                                have c42b1 : (t714 != 0) = true := bne_iff_ne.mpr c42
                                (first | rw [c42b0] | (simp only [i64_w, i32_w]; rw [c42b0]) | skip)
                                have H' := Aside0.mk H
                                clear H
                                go_wp2
                                go_meet
                                case rel => exact ⟨_, (true), (by first | rfl | (simp; done) | (simp [*]; done)), H', ⟨by have := HJ8.out; have := HK2.out; have := HK3.out; first | omega | exact Nat.le_refl _⟩, ⟨by (with_reducible repeat (first | apply Kd.R_alloc | apply Kd.R_drewN | apply Kd.R_drew)); exact Kd.R_mono HO_6.out (fun _ hk => ⟨hk.1.1, ⟨hk.1.2, hk.2⟩⟩)⟩, ⟨by (with_reducible repeat (first | apply Kd.R_alloc | apply Kd.R_drewN | apply Kd.R_drew)); exact HO_8.out⟩, ⟨by (with_reducible repeat (first | apply Kd.R_alloc | apply Kd.R_drewN | apply Kd.R_drew)); exact HO713.out⟩, ⟨by (with_reducible repeat (first | apply Kd.R_alloc | apply Kd.R_drewN | apply Kd.R_drew)); exact HO_85.out⟩, ⟨by (with_reducible repeat (first | refine blk_drewN ?_ _ | refine blk_drew ?_ | refine blk_alloc ?_ _)); exact BK710.out⟩, ⟨by repeat (first | (with_reducible first | exact HB.out | apply below_alloc | apply pw_below_drewN | apply below_drew1 | refine below_set ?_ GE710.out) | exact HB.out)⟩⟩
                            case rest =>
                              clear HC38
                              try clear c1
                              try clear c2
                              try clear p2
                              try clear c3
                              try clear c4
                              try clear c4b0
                              try clear c4b1
                              try clear p6
                              try clear p7
                              try clear q7
                              try clear hx7
                              try clear c8
                              try clear c8b0
                              try clear c8b1
                              try clear c11
                              try clear c13
                              try clear c13b0
                              try clear c13b1
                              try clear c14
                              try clear c14b0
                              try clear c14b1
                              try clear c19
                              try clear c21
                              try clear c21b0
                              try clear c22
                              try clear c22b0
                              try clear c23
                              try clear c23b0
                              try clear c25
                              try clear c25b0
                              try clear c25b1
                              try clear c26
                              try clear c30
                              try clear c34
                              try clear c34b0
                              try clear c35
                              try clear c35b0
                              try clear c36
                              try clear c36b0
                              try clear c42
                              try clear c42b0
                              try clear c42b1
                              try clear hcz28_0
                              try clear hcz28_1
                              try clear hcz31_0
                              try clear hcz31_1
                              try clear hcz40_0
                              try clear hcz40_1
                              try clear hfz28_0
                              try clear hfz28_1
                              try clear hfz31_0
                              try clear hfz31_1
                              try clear hfz40_0
                              try clear hfz40_1
                              try clear hx704_0
                              try clear hx704_1
                              try clear hx709_0
                              try clear hx709_1
                              try clear p2
                              try clear p6
                              try clear p7
                              try clear p704
                              try clear p709
                              try clear q7
                              try clear q704
                              try clear q709
                              obtain ⟨kq, x103_37, rfl, HA, HJ37, HO_6, HO_8, HO_17, HO_85, BK710, HB⟩ := hcut
                              cases kq with
                              | zero => exact absurd HA.out (by simp [medlarlaw12_LayerParts.j3])
                              | succ kj37 =>
                                have H := HA.out
                                clear HA
                                simp only [medlarlaw12_LayerParts.j3] at H
                                by_cases c44 : x103_37 = true
                                · subst c44
                                  have H1 : (some false) = some r := by rw [if_pos rfl] at H; exact H
                                  clear H
                                  have H := H1
                                  clear H1
                                  exact absurd ((Option.some.inj H).trans hT.out) Bool.false_ne_true
                                · replace c44 := Bool.eq_false_iff.mpr c44
                                  subst c44
                                  have H1 : (medlarlaw12_LayerParts.l2 kj37 a0 t695 t696 t700 x10_2 t711 0 t700 (t700.length : Int) x87_3 t696 (t696.length : Int) 0) = some r := by rw [if_neg (show ¬ (false = true) by decide)] at H; exact H
                                  clear H
                                  have H := H1
                                  clear H1
                                  have H' := Aside0.mk H
                                  clear H
                                  go_wp2
                                  go_loopg [19, 106] kj37 (fun kq v19 v106 w' => ∃ (x19_5 : Int) (x106_5 : Int), v19 = .int .i64 x19_5 ∧ v106 = .int .i64 x106_5 ∧ Aside0 (medlarlaw12_LayerParts.l2 kq a0 t695 t696 t700 x10_2 t711 x19_5 t700 (t700.length : Int) x87_3 t696 (t696.length : Int) x106_5 = some r) ∧ Aside0 (kq ≤ kj37) ∧ Aside0 (Kd.R k34 34 w' w.heap.size (fun k_ => some k_ ≠ ((.slice (some ad709) t700.length co33) : Value).ownBlock ∧ some k_ ≠ ((.slice (some ad709) t700.length co33) : Value).ownBlock ∧ k_ ≠ gb710) (.slice Ao20 t696.length co20) t696) ∧ Aside0 (Kd.R k34 34 w' w.heap.size (fun k_ => some k_ ≠ ((.slice Ao20 t696.length co20) : Value).ownBlock ∧ some k_ ≠ ((.slice Ao20 t696.length co20) : Value).ownBlock ∧ k_ ≠ gb710) (.slice (some ad709) t700.length co33) t700) ∧ Aside0 (Kd.R k52 52 w' w.heap.size (fun _ => True) v712 t711) ∧ Aside0 (Kd.R k34 34 w' w.heap.size (fun k_ => some k_ ≠ ((.slice Ao20 t696.length co20) : Value).ownBlock ∧ some k_ ≠ ((.slice Ao20 t696.length co20) : Value).ownBlock ∧ k_ ≠ gb710) (.slice (some ad709) t700.length co33) t700) ∧ Aside0 (Kd.R k34 34 w' w.heap.size (fun k_ => some k_ ≠ ((.slice (some ad709) t700.length co33) : Value).ownBlock ∧ some k_ ≠ ((.slice (some ad709) t700.length co33) : Value).ownBlock ∧ k_ ≠ gb710) (.slice Ao20 t696.length co20) t696) ∧ Aside0 (w'.heap[gb710]? = some (.cells #[.int .u64 ((rd_T34 t700 x87_3).f0), .int .u64 ((rd_T34 t700 x87_3).f1)] 34 (0, 0))) ∧ Aside0 (Below w.heap.size w w'))
                                  case atStart => exact ⟨(0), (0), (by first | rfl | (simp; done) | (simp [*]; done)), (by first | rfl | (simp; done) | (simp [*]; done)), H', ⟨Nat.le_refl _⟩, ⟨by (with_reducible repeat (first | apply Kd.R_alloc | apply Kd.R_drewN | apply Kd.R_drew)); exact HO_6.out⟩, ⟨by (with_reducible repeat (first | apply Kd.R_alloc | apply Kd.R_drewN | apply Kd.R_drew)); exact Kd.R_mono HO_8.out (fun _ hk => ⟨hk.1, ⟨hk.1, hk.2⟩⟩)⟩, ⟨by (with_reducible repeat (first | apply Kd.R_alloc | apply Kd.R_drewN | apply Kd.R_drew)); exact HO_17.out⟩, ⟨by (with_reducible repeat (first | apply Kd.R_alloc | apply Kd.R_drewN | apply Kd.R_drew)); exact Kd.R_mono HO_85.out (fun _ hk => ⟨hk.1, ⟨hk.1, hk.2⟩⟩)⟩, ⟨by (with_reducible repeat (first | apply Kd.R_alloc | apply Kd.R_drewN | apply Kd.R_drew)); exact HO_6.out⟩, ⟨by (with_reducible repeat (first | refine blk_drewN ?_ _ | refine blk_drew ?_ | refine blk_alloc ?_ _)); exact BK710.out⟩, ⟨by repeat (first | (with_reducible first | exact HB.out | apply below_alloc | apply pw_below_drewN | apply below_drew1 | refine below_set ?_ GE710.out) | exact HB.out)⟩⟩
                                  case round =>
                                    clear H'
                                    try clear c1
                                    try clear c2
                                    try clear p2
                                    try clear c3
                                    try clear c4
                                    try clear c4b0
                                    try clear c4b1
                                    try clear p6
                                    try clear p7
                                    try clear q7
                                    try clear hx7
                                    try clear c8
                                    try clear c8b0
                                    try clear c8b1
                                    try clear c11
                                    try clear c13
                                    try clear c13b0
                                    try clear c13b1
                                    try clear c14
                                    try clear c14b0
                                    try clear c14b1
                                    try clear c19
                                    try clear c21
                                    try clear c21b0
                                    try clear c22
                                    try clear c22b0
                                    try clear c23
                                    try clear c23b0
                                    try clear c25
                                    try clear c25b0
                                    try clear c25b1
                                    try clear c26
                                    try clear c30
                                    try clear c34
                                    try clear c34b0
                                    try clear c35
                                    try clear c35b0
                                    try clear c36
                                    try clear c36b0
                                    try clear c42
                                    try clear c42b0
                                    try clear c42b1
                                    try clear c44
                                    try clear hcz28_0
                                    try clear hcz28_1
                                    try clear hcz31_0
                                    try clear hcz31_1
                                    try clear hcz40_0
                                    try clear hcz40_1
                                    try clear hfz28_0
                                    try clear hfz28_1
                                    try clear hfz31_0
                                    try clear hfz31_1
                                    try clear hfz40_0
                                    try clear hfz40_1
                                    try clear hx704_0
                                    try clear hx704_1
                                    try clear hx709_0
                                    try clear hx709_1
                                    try clear p2
                                    try clear p6
                                    try clear p7
                                    try clear p704
                                    try clear p709
                                    try clear q7
                                    try clear q704
                                    try clear q709
                                    obtain ⟨x19_5, x106_5, rfl, rfl, HA, HK5, HO_6, HO_8, HO_17, HO_85, HO_104, BK710, HB⟩ := hrel
                                    cases gk with
                                    | zero => exact absurd HA.out (by simp [medlarlaw12_LayerParts.l2])
                                    | succ k5 =>
                                      have H := HA.out
                                      clear HA
                                      simp only [medlarlaw12_LayerParts.l2] at H
                                      by_cases c45 : x106_5 < (t696.length : Int)
                                      · rw [if_pos c45] at H
                                        have c45b0 : decide (x106_5 < (t696.length : Int)) = true := decide_eq_true c45
                                        clear c45
                                        by_cases c46 : 0 ≤ x106_5
                                        · rw [if_pos c46] at H
                                          have c46b0 : decide (0 ≤ x106_5) = true := decide_eq_true c46
                                          clear c46
                                          by_cases c47 : x106_5 < (t696.length : Int)
                                          · rw [if_pos c47] at H
                                            have c47b0 : decide (x106_5 < (t696.length : Int)) = true := decide_eq_true c47
                                            clear c47
                                            by_cases c48 : 0 < (t711.length : Int)
                                            · rw [if_pos c48] at H
                                              have c48b0 : decide (0 < (t711.length : Int)) = true := decide_eq_true c48
                                              have c48b1 : decide (0 < t711.length) = true := decide_eq_true (by omega)
                                              clear c48
                                              replace H := Option.bind_eq_some_iff.mp H
                                              obtain ⟨⟨t718, t719⟩, A490, H⟩ := H
                                              replace H : (if t719 = 0 then (if t718 = true then (medlarlaw12_LayerParts.l2 k5 a0 t695 t696 t700 x10_2 t711 (wrap64 (x19_5 + 1)) t700 (t700.length : Int) x87_3 t696 (t696.length : Int) (wrap64 (x106_5 + 1))) else (medlarlaw12_LayerParts.l2 k5 a0 t695 t696 t700 x10_2 t711 x19_5 t700 (t700.length : Int) x87_3 t696 (t696.length : Int) (wrap64 (x106_5 + 1)))) else (medlarlaw12_LayerParts.l2 k5 a0 t695 t696 t700 x10_2 t711 x19_5 t700 (t700.length : Int) x87_3 t696 (t696.length : Int) (wrap64 (x106_5 + 1)))) = some r := H
                                              have A49 := Aside0.mk A490
                                              clear A490
                                              by_cases c50 : t719 = 0
                                              · rw [if_pos c50] at H
                                                have c50b0 : (t719 == 0) = true := beq_iff_eq.mpr c50
                                                have c50b1 : (t719 != 0) = false := bne_eq_false_iff_eq.mpr c50
                                                clear c50
                                                by_cases c51 : t718 = true
                                                · subst c51
                                                  have H1 : (medlarlaw12_LayerParts.l2 k5 a0 t695 t696 t700 x10_2 t711 (wrap64 (x19_5 + 1)) t700 (t700.length : Int) x87_3 t696 (t696.length : Int) (wrap64 (x106_5 + 1))) = some r := by rw [if_pos rfl] at H; exact H
                                                  clear H
                                                  have H := H1
                                                  clear H1
                                                  have H' := Aside0.mk H
                                                  clear H
                                                  have p715 : 0 ≤ (x106_5 : Int) := of_decide_eq_true (by first | (with_reducible assumption) | assumption)
                                                  have q715 : x106_5 < (t696.length : Int) := of_decide_eq_true (by first | (with_reducible assumption) | assumption)
                                                  obtain ⟨ad715, e715, hx715_0, hx715_1⟩ := at_T34 (Kd.R_reads' HO_104.out).2.2 x106_5 p715 q715
                                                  cases e715
                                                  replace p715 := eq_true p715
                                                  replace q715 := eq_true q715
                                                  try go_wp2_with (first | ((with_reducible refine gate_dst (N := 21) rfl ?_); (try (refine gate_guard (by rfl) ?_; dsimp only)); refine box_event ?hg (N := 21) ?hd (cs := #[.int .u64 0, .int .u64 0]) (t := 34) ?hr ?_; (case hd => rfl); (case hg => rfl); (case hr => first | (go_simp; done) | (go_simp; rfl)); intro gb716 hg w52 hbox hb; have n0_ := Aside0.mk (Kd.R_below (Kd.R_elderB (by (with_reducible repeat (first | apply Kd.R_alloc | apply Kd.R_drewN | apply Kd.R_drew)); exact HO_6.out) gb716 (Nat.le_of_eq hg.symm)) hb); have n1_ := Aside0.mk (Kd.R_below (Kd.R_elderB (by (with_reducible repeat (first | apply Kd.R_alloc | apply Kd.R_drewN | apply Kd.R_drew)); exact HO_8.out) gb716 (Nat.le_of_eq hg.symm)) hb); have n2_ := Aside0.mk (Kd.R_below (by (with_reducible repeat (first | apply Kd.R_alloc | apply Kd.R_drewN | apply Kd.R_drew)); exact HO_17.out) hb); have n3_ := Aside0.mk (Kd.R_below (Kd.R_elderB (by (with_reducible repeat (first | apply Kd.R_alloc | apply Kd.R_drewN | apply Kd.R_drew)); exact HO_85.out) gb716 (Nat.le_of_eq hg.symm)) hb); have n4_ := Aside0.mk (Kd.R_below (Kd.R_elderB (by (with_reducible repeat (first | apply Kd.R_alloc | apply Kd.R_drewN | apply Kd.R_drew)); exact HO_104.out) gb716 (Nat.le_of_eq hg.symm)) hb); have n5_ := Aside0.mk (blk_below (g := gb710) (o := .cells #[.int .u64 ((rd_T34 t700 x87_3).f0), .int .u64 ((rd_T34 t700 x87_3).f1)] 34 (0, 0)) (by (with_reducible repeat (first | refine blk_drewN ?_ _ | refine blk_drew ?_ | refine blk_alloc ?_ _)); exact BK710.out) hb); have n6_ := Aside0.mk (below_step (by repeat (first | (with_reducible first | exact HB.out | apply below_alloc | apply pw_below_drewN | apply below_drew1 | refine below_set ?_ GE710.out) | exact HB.out)) hb); have n7_ := Aside0.mk (hbox); have n8_ := Aside0.mk ((by rw [hg]; exact (below_size (by repeat (first | (with_reducible first | exact HB.out | apply below_alloc | apply pw_below_drewN | apply below_drew1 | refine below_set ?_ GE710.out) | exact HB.out))) : w.heap.size ≤ gb716)); have n9_ := Aside0.mk ((by rw [hg]; exact (below_size (by repeat (first | (with_reducible first | exact HB.out | apply below_alloc | apply pw_below_drewN | apply below_drew1 | refine below_set ?_ GE710.out) | exact HB.out))) : w.heap.size ≤ gb716)); have n10_ := Aside0.mk ((by rw [hg]; exact Nat.ne_of_lt (blk_lt (g := gb710) (o := .cells #[.int .u64 ((rd_T34 t700 x87_3).f0), .int .u64 ((rd_T34 t700 x87_3).f1)] 34 (0, 0)) (by (with_reducible repeat (first | refine blk_drewN ?_ _ | refine blk_drew ?_ | refine blk_alloc ?_ _)); exact BK710.out)) : gb710 ≠ gb716)); have n11_ := Aside0.mk ((by rw [hg]; exact Nat.ne_of_gt (blk_lt (g := gb710) (o := .cells #[.int .u64 ((rd_T34 t700 x87_3).f0), .int .u64 ((rd_T34 t700 x87_3).f1)] 34 (0, 0)) (by (with_reducible repeat (first | refine blk_drewN ?_ _ | refine blk_drew ?_ | refine blk_alloc ?_ _)); exact BK710.out)) : gb716 ≠ gb710)); clear HO_6; clear HO_8; clear HO_17; clear HO_85; clear HO_104; clear BK710; clear HB; have HO_6 := n0_; have HO_8 := n1_; have HO_17 := n2_; have HO_85 := n3_; have HO_104 := n4_; have BK710 := n5_; have HB := n6_; have BK716 := n7_; have GW716 := n8_; have GE716 := n9_; have NB710_716 := n10_; have NB716_710 := n11_; clear n0_ n1_ n2_ n3_ n4_ n5_ n6_ n7_ n8_ n9_ n10_ n11_; clear hb hbox hg; have hnb53 := NB716_710.out; have hnc53 := NB710_716.out; have hcz54_0 : w52.cell? ⟨gb716, 0, none⟩ = some (.int .u64 0) := (blk_cell BK716.out 0).trans rfl; have hcz54_1 : w52.cell? ⟨gb716, 1, none⟩ = some (.int .u64 0) := (blk_cell BK716.out 1).trans rfl; have hfz54_0 := blk_frozen BK716.out 0; have hfz54_1 := blk_frozen BK716.out 1))
                                                  have n0_ : Aside0 (Kd.R k34 34 ((w52.setCell ⟨gb716, 0, none⟩ (.int .u64 ((rd_T34 t696 x106_5).f0))).setCell ⟨gb716, 1, none⟩ (.int .u64 ((rd_T34 t696 x106_5).f1))) w.heap.size (fun k_ => some k_ ≠ (.slice (some ad709) t700.length co33 : Value).ownBlock ∧ some k_ ≠ (.slice (some ad709) t700.length co33 : Value).ownBlock ∧ k_ ≠ gb710 ∧ k_ ≠ gb716) (.slice (some ad715) t696.length co20) t696) := ⟨by (with_reducible repeat (first | apply Kd.R_alloc | apply Kd.R_drewN | apply Kd.R_drew)); exact Kd.R_mono (Kd.R_far (p := ⟨gb716, 1, none⟩) (Kd.R_far (p := ⟨gb716, 0, none⟩) (Kd.R_mono HO_6.out (fun k_ hk => (⟨hk, hk.2⟩ : _ ∧ k_ ≠ gb716))) (fun _ hk => hk.2) (.int .u64 ((rd_T34 t696 x106_5).f0))) (fun _ hk => hk.2) (.int .u64 ((rd_T34 t696 x106_5).f1))) (fun _ hk => ⟨hk.1.1.1, ⟨hk.1.1.2.1, ⟨hk.1.1.2.2, hk.1.2⟩⟩⟩)⟩
                                                  have n1_ : Aside0 (Kd.R k34 34 ((w52.setCell ⟨gb716, 0, none⟩ (.int .u64 ((rd_T34 t696 x106_5).f0))).setCell ⟨gb716, 1, none⟩ (.int .u64 ((rd_T34 t696 x106_5).f1))) w.heap.size (fun k_ => some k_ ≠ (.slice (some ad715) t696.length co20 : Value).ownBlock ∧ some k_ ≠ (.slice (some ad715) t696.length co20 : Value).ownBlock ∧ k_ ≠ gb710 ∧ k_ ≠ gb716) (.slice (some ad709) t700.length co33) t700) := ⟨by (with_reducible repeat (first | apply Kd.R_alloc | apply Kd.R_drewN | apply Kd.R_drew)); exact Kd.R_mono (Kd.R_far (p := ⟨gb716, 1, none⟩) (Kd.R_far (p := ⟨gb716, 0, none⟩) (Kd.R_mono HO_8.out (fun k_ hk => (⟨hk, hk.2⟩ : _ ∧ k_ ≠ gb716))) (fun _ hk => hk.2) (.int .u64 ((rd_T34 t696 x106_5).f0))) (fun _ hk => hk.2) (.int .u64 ((rd_T34 t696 x106_5).f1))) (fun _ hk => ⟨hk.1.1.1, ⟨hk.1.1.2.1, ⟨hk.1.1.2.2, hk.1.2⟩⟩⟩)⟩
                                                  have n2_ : Aside0 (Kd.R k52 52 ((w52.setCell ⟨gb716, 0, none⟩ (.int .u64 ((rd_T34 t696 x106_5).f0))).setCell ⟨gb716, 1, none⟩ (.int .u64 ((rd_T34 t696 x106_5).f1))) w.heap.size (fun _ => True) v712 t711) := ⟨by (with_reducible repeat (first | apply Kd.R_alloc | apply Kd.R_drewN | apply Kd.R_drew)); exact Kd.R_mono (Kd.R_far (p := ⟨gb716, 1, none⟩) (Kd.R_far (p := ⟨gb716, 0, none⟩) (Kd.R_types HO_17.out BK716.out (by decide)) (fun _ hk => hk.2) (.int .u64 ((rd_T34 t696 x106_5).f0))) (fun _ hk => hk.2) (.int .u64 ((rd_T34 t696 x106_5).f1))) (fun _ hk => trivial)⟩
                                                  have n3_ : Aside0 (Kd.R k34 34 ((w52.setCell ⟨gb716, 0, none⟩ (.int .u64 ((rd_T34 t696 x106_5).f0))).setCell ⟨gb716, 1, none⟩ (.int .u64 ((rd_T34 t696 x106_5).f1))) w.heap.size (fun k_ => some k_ ≠ (.slice (some ad715) t696.length co20 : Value).ownBlock ∧ some k_ ≠ (.slice (some ad715) t696.length co20 : Value).ownBlock ∧ k_ ≠ gb710 ∧ k_ ≠ gb716) (.slice (some ad709) t700.length co33) t700) := ⟨by (with_reducible repeat (first | apply Kd.R_alloc | apply Kd.R_drewN | apply Kd.R_drew)); exact Kd.R_mono (Kd.R_far (p := ⟨gb716, 1, none⟩) (Kd.R_far (p := ⟨gb716, 0, none⟩) (Kd.R_mono HO_85.out (fun k_ hk => (⟨hk, hk.2⟩ : _ ∧ k_ ≠ gb716))) (fun _ hk => hk.2) (.int .u64 ((rd_T34 t696 x106_5).f0))) (fun _ hk => hk.2) (.int .u64 ((rd_T34 t696 x106_5).f1))) (fun _ hk => ⟨hk.1.1.1, ⟨hk.1.1.2.1, ⟨hk.1.1.2.2, hk.1.2⟩⟩⟩)⟩
                                                  have n4_ : Aside0 (Kd.R k34 34 ((w52.setCell ⟨gb716, 0, none⟩ (.int .u64 ((rd_T34 t696 x106_5).f0))).setCell ⟨gb716, 1, none⟩ (.int .u64 ((rd_T34 t696 x106_5).f1))) w.heap.size (fun k_ => some k_ ≠ (.slice (some ad709) t700.length co33 : Value).ownBlock ∧ some k_ ≠ (.slice (some ad709) t700.length co33 : Value).ownBlock ∧ k_ ≠ gb710 ∧ k_ ≠ gb716) (.slice (some ad715) t696.length co20) t696) := ⟨by (with_reducible repeat (first | apply Kd.R_alloc | apply Kd.R_drewN | apply Kd.R_drew)); exact Kd.R_mono (Kd.R_far (p := ⟨gb716, 1, none⟩) (Kd.R_far (p := ⟨gb716, 0, none⟩) (Kd.R_mono HO_104.out (fun k_ hk => (⟨hk, hk.2⟩ : _ ∧ k_ ≠ gb716))) (fun _ hk => hk.2) (.int .u64 ((rd_T34 t696 x106_5).f0))) (fun _ hk => hk.2) (.int .u64 ((rd_T34 t696 x106_5).f1))) (fun _ hk => ⟨hk.1.1.1, ⟨hk.1.1.2.1, ⟨hk.1.1.2.2, hk.1.2⟩⟩⟩)⟩
                                                  have n5_ : Aside0 (((w52.setCell ⟨gb716, 0, none⟩ (.int .u64 ((rd_T34 t696 x106_5).f0))).setCell ⟨gb716, 1, none⟩ (.int .u64 ((rd_T34 t696 x106_5).f1))).heap[gb710]? = some (.cells #[.int .u64 ((rd_T34 t700 x87_3).f0), .int .u64 ((rd_T34 t700 x87_3).f1)] 34 (0, 0))) := ⟨by (with_reducible repeat (first | refine blk_drewN ?_ _ | refine blk_drew ?_ | refine blk_alloc ?_ _)); refine blk_far ?_ NB710_716.out _; (with_reducible repeat (first | refine blk_drewN ?_ _ | refine blk_drew ?_ | refine blk_alloc ?_ _)); refine blk_far ?_ NB710_716.out _; (with_reducible repeat (first | refine blk_drewN ?_ _ | refine blk_drew ?_ | refine blk_alloc ?_ _)); exact BK710.out⟩
                                                  have n6_ : Aside0 (((w52.setCell ⟨gb716, 0, none⟩ (.int .u64 ((rd_T34 t696 x106_5).f0))).setCell ⟨gb716, 1, none⟩ (.int .u64 ((rd_T34 t696 x106_5).f1))).heap[gb716]? = some (.cells #[.int .u64 ((rd_T34 t696 x106_5).f0), .int .u64 ((rd_T34 t696 x106_5).f1)] 34 (0, 0))) := ⟨by (with_reducible repeat (first | refine blk_drewN ?_ _ | refine blk_drew ?_ | refine blk_alloc ?_ _)); refine blk_put (cs := #[.int .u64 ((rd_T34 t696 x106_5).f0), .int .u64 0]) ?_ 1 _ rfl; (with_reducible repeat (first | refine blk_drewN ?_ _ | refine blk_drew ?_ | refine blk_alloc ?_ _)); refine blk_put (cs := #[.int .u64 0, .int .u64 0]) ?_ 0 _ rfl; (with_reducible repeat (first | refine blk_drewN ?_ _ | refine blk_drew ?_ | refine blk_alloc ?_ _)); exact BK716.out⟩
                                                  have n7_ : Aside0 (Below w.heap.size w ((w52.setCell ⟨gb716, 0, none⟩ (.int .u64 ((rd_T34 t696 x106_5).f0))).setCell ⟨gb716, 1, none⟩ (.int .u64 ((rd_T34 t696 x106_5).f1)))) := ⟨by repeat (first | (with_reducible first | exact HB.out | apply below_alloc | apply pw_below_drewN | apply below_drew1 | refine below_set ?_ GE710.out | refine below_set ?_ GE716.out) | exact HB.out)⟩
                                                  (try clear HO_6)
                                                  (try clear HO_8)
                                                  (try clear HO_17)
                                                  (try clear HO_85)
                                                  (try clear HO_104)
                                                  (try clear BK710)
                                                  (try clear BK716)
                                                  (try clear HB)
                                                  generalize ((w52.setCell ⟨gb716, 0, none⟩ (.int .u64 ((rd_T34 t696 x106_5).f0))).setCell ⟨gb716, 1, none⟩ (.int .u64 ((rd_T34 t696 x106_5).f1))) = w55 at n0_ n1_ n2_ n3_ n4_ n5_ n6_ n7_ ⊢
                                                  have HO_6 := n0_
                                                  have HO_8 := n1_
                                                  have HO_17 := n2_
                                                  have HO_85 := n3_
                                                  have HO_104 := n4_
                                                  have BK710 := n5_
                                                  have BK716 := n6_
                                                  have HB := n7_
                                                  clear n0_ n1_ n2_ n3_ n4_ n5_ n6_ n7_
                                                  have n0_ := Aside0.mk (Kd.R_drew HO_6.out)
                                                  have n1_ := Aside0.mk (Kd.R_drew HO_8.out)
                                                  have n2_ := Aside0.mk (Kd.R_drew HO_17.out)
                                                  have n3_ := Aside0.mk (Kd.R_drew HO_85.out)
                                                  have n4_ := Aside0.mk (Kd.R_drew HO_104.out)
                                                  have n5_ := Aside0.mk (blk_drew BK710.out)
                                                  have n6_ := Aside0.mk (blk_drew BK716.out)
                                                  have n7_ := Aside0.mk (below_drew1 HB.out)
                                                  clear HO_6
                                                  clear HO_8
                                                  clear HO_17
                                                  clear HO_85
                                                  clear HO_104
                                                  clear BK710
                                                  clear BK716
                                                  clear HB
                                                  have HO_6 := n0_
                                                  have HO_8 := n1_
                                                  have HO_17 := n2_
                                                  have HO_85 := n3_
                                                  have HO_104 := n4_
                                                  have BK710 := n5_
                                                  have BK716 := n6_
                                                  have HB := n7_
                                                  clear n0_ n1_ n2_ n3_ n4_ n5_ n6_ n7_
                                                  obtain ⟨Ao57, co57, eo57⟩ := Kd.R_slice HO_17.out
                                                  (first | subst eo57 | (injection eo57 with f1_ f2_ f3_; have f4_ := f1_.symm; have f5_ := f3_.symm; clear f1_ f2_ f3_; subst f4_; subst f5_))
                                                  have p717 : 0 ≤ (0 : Int) := (by omega)
                                                  have q717 : 0 < (t711.length : Int) := of_decide_eq_true (by first | (with_reducible assumption) | assumption)
                                                  obtain ⟨ad717, e717, hx717_0, hx717_1⟩ := at_T52 (Kd.R_reads' HO_17.out).2.2 0 p717 q717
                                                  cases e717
                                                  have qi717 : (0 < t711.length) = True := eq_true (by omega)
                                                  (try rw [show ((0 : Int)).toNat = 0 from rfl] at hx717_0)
                                                  (try rw [show 0 * 2 = 0 from rfl] at hx717_0)
                                                  (try rw [Addr.add_zero'] at hx717_0)
                                                  (try rw [show ((0 : Int)).toNat = 0 from rfl] at hx717_1)
                                                  (try rw [show 0 * 2 = 0 from rfl] at hx717_1)
                                                  (try rw [Addr.add_zero'] at hx717_1)
                                                  replace p717 := eq_true p717
                                                  replace q717 := eq_true q717
                                                  refine start_ (n := 12) (S := fun w' => w'.cell? ⟨gb716, 0, none⟩ = some (.int .u64 ((rd_T34 t696 x106_5).f0)) ∧ w'.cell? ⟨gb716, 1, none⟩ = some (.int .u64 ((rd_T34 t696 x106_5).f1)) ∧ w'.cell? ad717 = some (.int .u64 ((rd_T52 t711 0).f0)) ∧ w'.cell? ⟨ad717.block, ad717.off + 1, none⟩ = some (.int .u64 ((rd_T52 t711 0).f1))) (ds := []) #[false, false, false, false, false, false, false, false, false, false, false, false] (by kernel_rfl) rfl rfl ⟨(blk_cell BK716.out 0).trans rfl, (blk_cell BK716.out 1).trans rfl, hx717_0, hx717_1⟩ (fun hHeld => ?_); refine with_tabW medlarlaw12_LayerParts.tab29 medlarlaw12_LayerParts.bits29 (fun HT_ HW_ => ?_)
                                                  generalize w55.drew = w56 at HO_6 HO_8 HO_17 HO_85 HO_104 BK710 BK716 HB hx717_0 hx717_1 hHeld ⊢
                                                  refine pure_ (i := 0) (N := some 111) (v := ?_) (a' := ?_) #[true, false, false, false, false, false, false, false, false, false, false, false] rfl rfl (any_of HT_.out (by kernel_rfl)) (fun _ _ _ h => h) (Or.inl ⟨by rfl, ?_⟩) ?_ ?_
                                                  rotate_left
                                                  · intro w'
                                                    go_simp
                                                    with_reducible rfl
                                                  rotate_left
                                                  · simp only [Act.put, List.setIfInBounds_toArray, List.set_cons_zero, List.set_cons_succ, i64_w, i32_w]
                                                    rfl
                                                  refine pure_ (i := 2) (N := some 113) (v := ?_) (a' := ?_) #[true, false, true, false, false, false, false, false, false, false, false, false] rfl rfl (any_of HT_.out (by kernel_rfl)) (fun _ _ _ h => h) (Or.inl ⟨by rfl, ?_⟩) ?_ ?_
                                                  rotate_left
                                                  · intro w'
                                                    go_simp
                                                    with_reducible rfl
                                                  rotate_left
                                                  · simp only [Act.put, List.setIfInBounds_toArray, List.set_cons_zero, List.set_cons_succ, i64_w, i32_w]
                                                    rfl
                                                  refine pure_ (i := 3) (N := some 114) (v := ?_) (a' := ?_) #[true, false, true, true, false, false, false, false, false, false, false, false] rfl rfl (any_of HT_.out (by kernel_rfl)) (fun _ _ _ h => h) (Or.inl ⟨by rfl, ?_⟩) ?_ ?_
                                                  rotate_left
                                                  · intro w'
                                                    go_simp
                                                    with_reducible rfl
                                                  rotate_left
                                                  · simp only [Act.put, List.setIfInBounds_toArray, List.set_cons_zero, List.set_cons_succ, i64_w, i32_w]
                                                    rfl
                                                  refine pure_ (i := 4) (N := some 115) (v := ?_) (a' := ?_) #[true, false, true, true, true, false, false, false, false, false, false, false] rfl rfl (any_of HT_.out (by kernel_rfl)) (fun _ _ _ h => h) (Or.inl ⟨by rfl, ?_⟩) ?_ ?_
                                                  rotate_left
                                                  · intro w'
                                                    go_simp
                                                    with_reducible rfl
                                                  rotate_left
                                                  · simp only [Act.put, List.setIfInBounds_toArray, List.set_cons_zero, List.set_cons_succ, i64_w, i32_w]
                                                    rfl
                                                  refine take_ (i := 1) (N := some 112) (v := ?_) (a' := ?_) #[true, true, true, true, true, false, false, false, false, false, false, false] rfl rfl (take_ofW HT_.out HW_.out (by kernel_rfl)) (fun _ _ _ h => h) (Or.inl ⟨by rfl, ?_⟩) hHeld ?_ ?_
                                                  rotate_left
                                                  · rintro w' ⟨s0, s1, s2, s3⟩
                                                    go_simp
                                                    with_reducible rfl
                                                  rotate_left
                                                  · simp only [Act.put, List.setIfInBounds_toArray, List.set_cons_zero, List.set_cons_succ, i64_w, i32_w]
                                                    rfl
                                                  refine take_ (i := 5) (N := some 116) (v := ?_) (a' := ?_) #[true, true, true, true, true, true, false, false, false, false, false, false] rfl rfl (take_ofW HT_.out HW_.out (by kernel_rfl)) (fun _ _ _ h => h) (Or.inl ⟨by rfl, ?_⟩) hHeld ?_ ?_
                                                  rotate_left
                                                  · rintro w' ⟨s0, s1, s2, s3⟩
                                                    go_simp
                                                    with_reducible rfl
                                                  rotate_left
                                                  · simp only [Act.put, List.setIfInBounds_toArray, List.set_cons_zero, List.set_cons_succ, i64_w, i32_w]
                                                    rfl
                                                  refine one_ (i := 6) (N := some 117) #[true, true, true, true, true, true, true, false, false, false, false, false] rfl rfl (one_of HT_.out (by kernel_rfl)) (by decide) (fun K hK => ?_)
                                                  refine goes_ Try.func20 (by kernel_rfl) rfl #[.int .i64 a0, .agg #[.int .u64 ((rd_T34 t696 x106_5).f0), .int .u64 ((rd_T34 t696 x106_5).f1)], .int .u64 ((rd_T52 t711 0).f0)] (by rfl) rfl rfl (by (try simp only [List.map_toArray, List.map_cons, List.map_nil]); first | done | rfl | (simp only [List.length_drop, List.length_take]; rfl)) ?_
                                                  with_reducible refine (sub_Has.calls k5 a0 ((rd_T34 t696 x106_5).f0) ((rd_T34 t696 x106_5).f1) ((rd_T52 t711 0).f0) true t719 _ A49.out).mono ?_
                                                  rintro e w58 ⟨rfl, hb⟩
                                                  have HS2_ := (hb.cell (World.block_lt_of_cell? _ _ (hHeld.2.2.1))).trans (hHeld.2.2.1)
                                                  have HS3_ := (hb.cell (World.block_lt_of_cell? _ _ (hHeld.2.2.2))).trans (hHeld.2.2.2)
                                                  refine ⟨_, rfl, ?_⟩
                                                  have n0_ := Aside0.mk (Kd.R_below (by (with_reducible repeat (first | apply Kd.R_alloc | apply Kd.R_drewN | apply Kd.R_drew)); exact HO_6.out) hb)
                                                  have n1_ := Aside0.mk (Kd.R_below (by (with_reducible repeat (first | apply Kd.R_alloc | apply Kd.R_drewN | apply Kd.R_drew)); exact HO_8.out) hb)
                                                  have n2_ := Aside0.mk (Kd.R_below (by (with_reducible repeat (first | apply Kd.R_alloc | apply Kd.R_drewN | apply Kd.R_drew)); exact HO_17.out) hb)
                                                  have n3_ := Aside0.mk (Kd.R_below (by (with_reducible repeat (first | apply Kd.R_alloc | apply Kd.R_drewN | apply Kd.R_drew)); exact HO_85.out) hb)
                                                  have n4_ := Aside0.mk (Kd.R_below (by (with_reducible repeat (first | apply Kd.R_alloc | apply Kd.R_drewN | apply Kd.R_drew)); exact HO_104.out) hb)
                                                  have n5_ := Aside0.mk (blk_below (g := gb710) (o := .cells #[.int .u64 ((rd_T34 t700 x87_3).f0), .int .u64 ((rd_T34 t700 x87_3).f1)] 34 (0, 0)) (by (with_reducible repeat (first | refine blk_drewN ?_ _ | refine blk_drew ?_ | refine blk_alloc ?_ _)); exact BK710.out) hb)
                                                  have n6_ := Aside0.mk (blk_below (g := gb716) (o := .cells #[.int .u64 ((rd_T34 t696 x106_5).f0), .int .u64 ((rd_T34 t696 x106_5).f1)] 34 (0, 0)) (by (with_reducible repeat (first | refine blk_drewN ?_ _ | refine blk_drew ?_ | refine blk_alloc ?_ _)); exact BK716.out) hb)
                                                  have n7_ := Aside0.mk (below_step (by repeat (first | (with_reducible first | exact HB.out | apply below_alloc | apply pw_below_drewN | apply below_drew1 | refine below_set ?_ GE710.out | refine below_set ?_ GE716.out) | exact HB.out)) hb)
                                                  clear HO_6
                                                  clear HO_8
                                                  clear HO_17
                                                  clear HO_85
                                                  clear HO_104
                                                  clear BK710
                                                  clear BK716
                                                  clear HB
                                                  have HO_6 := n0_
                                                  have HO_8 := n1_
                                                  have HO_17 := n2_
                                                  have HO_85 := n3_
                                                  have HO_104 := n4_
                                                  have BK710 := n5_
                                                  have BK716 := n6_
                                                  have HB := n7_
                                                  clear n0_ n1_ n2_ n3_ n4_ n5_ n6_ n7_
                                                  (try clear hb)
                                                  (try clear hb2)
                                                  (try clear hk)
                                                  (try clear hi)
                                                  refine hK.out _ _ ⟨(blk_cell BK716.out 0).trans rfl, (blk_cell BK716.out 1).trans rfl, HS2_, HS3_⟩ (fun hHeld => ?_)
                                                  clear hK K
                                                  refine norm_ (a' := ?_) ?_ ?_
                                                  rotate_left
                                                  · show Act.put _ (some 117) _ = _
                                                    simp only [Act.put, List.setIfInBounds_toArray, List.set_cons_zero, List.set_cons_succ, i64_w, i32_w]
                                                    rfl
                                                  refine pure_ (i := 7) (N := some 110) (v := ?_) (a' := ?_) #[true, true, true, true, true, true, true, true, false, false, false, false] rfl rfl (any_of HT_.out (by kernel_rfl)) (fun _ _ _ h => h) (Or.inl ⟨by rfl, ?_⟩) ?_ ?_
                                                  rotate_left
                                                  · intro w'
                                                    go_simp
                                                    with_reducible rfl
                                                  rotate_left
                                                  · simp only [Act.put, List.setIfInBounds_toArray, List.set_cons_zero, List.set_cons_succ, i64_w, i32_w]
                                                    rfl
                                                  refine pure_ (i := 8) (N := some 118) (v := ?_) (a' := ?_) #[true, true, true, true, true, true, true, true, true, false, false, false] rfl rfl (any_of HT_.out (by kernel_rfl)) (fun _ _ _ h => h) (Or.inl ⟨by rfl, ?_⟩) ?_ ?_
                                                  rotate_left
                                                  · intro w'
                                                    go_simp
                                                    with_reducible rfl
                                                  rotate_left
                                                  · simp only [Act.put, List.setIfInBounds_toArray, List.set_cons_zero, List.set_cons_succ, i64_w, i32_w]
                                                    rfl
                                                  refine pure_ (i := 9) (N := some 119) (v := ?_) (a' := ?_) #[true, true, true, true, true, true, true, true, true, true, false, false] rfl rfl (any_of HT_.out (by kernel_rfl)) (fun _ _ _ h => h) (Or.inl ⟨by rfl, ?_⟩) ?_ ?_
                                                  rotate_left
                                                  · intro w'
                                                    go_simp
                                                    with_reducible rfl
                                                  rotate_left
                                                  · simp only [Act.put, List.setIfInBounds_toArray, List.set_cons_zero, List.set_cons_succ, i64_w, i32_w]
                                                    rfl
                                                  refine pure_ (i := 10) (N := some 22) (v := ?_) (a' := ?_) #[true, true, true, true, true, true, true, true, true, true, true, false] rfl rfl (any_of HT_.out (by kernel_rfl)) (fun _ _ _ h => h) (Or.inl ⟨by rfl, ?_⟩) ?_ ?_
                                                  rotate_left
                                                  · intro w'
                                                    go_simp
                                                    with_reducible rfl
                                                  rotate_left
                                                  · simp only [Act.put, List.setIfInBounds_toArray, List.set_cons_zero, List.set_cons_succ, i64_w, i32_w]
                                                    rfl
                                                  refine pure_ (i := 11) (N := some 23) (v := ?_) (a' := ?_) #[true, true, true, true, true, true, true, true, true, true, true, true] rfl rfl (any_of HT_.out (by kernel_rfl)) (fun _ _ _ h => h) (Or.inl ⟨by rfl, ?_⟩) ?_ ?_
                                                  rotate_left
                                                  · intro w'
                                                    go_simp
                                                    with_reducible rfl
                                                  rotate_left
                                                  · simp only [Act.put, List.setIfInBounds_toArray, List.set_cons_zero, List.set_cons_succ, i64_w, i32_w]
                                                    rfl
                                                  refine done_ (done_of HT_.out (by kernel_rfl)) ?_
                                                  try go_wp2
                                                  go_roundg k5
                                                  case measure => have := HJ8.out; have := HK2.out; have := HK3.out; have := HJ37.out; have := HK5.out; omega
                                                  case rel => exact ⟨(wrap64 (x19_5 + 1)), (wrap64 (x106_5 + 1)), (by first | rfl | (simp; done) | (simp [*]; done)), (by first | rfl | (simp; done) | (simp [*]; done)), H', ⟨by have := HJ8.out; have := HK2.out; have := HK3.out; have := HJ37.out; have := HK5.out; omega⟩, ⟨by (with_reducible repeat (first | apply Kd.R_alloc | apply Kd.R_drewN | apply Kd.R_drew)); exact Kd.R_mono HO_6.out (fun _ hk => ⟨hk.1, ⟨hk.2.1, hk.2.2.1⟩⟩)⟩, ⟨by (with_reducible repeat (first | apply Kd.R_alloc | apply Kd.R_drewN | apply Kd.R_drew)); exact Kd.R_mono HO_8.out (fun _ hk => ⟨hk.1, ⟨hk.2.1, hk.2.2.1⟩⟩)⟩, ⟨by (with_reducible repeat (first | apply Kd.R_alloc | apply Kd.R_drewN | apply Kd.R_drew)); exact HO_17.out⟩, ⟨by (with_reducible repeat (first | apply Kd.R_alloc | apply Kd.R_drewN | apply Kd.R_drew)); exact Kd.R_mono HO_85.out (fun _ hk => ⟨hk.1, ⟨hk.2.1, hk.2.2.1⟩⟩)⟩, ⟨by (with_reducible repeat (first | apply Kd.R_alloc | apply Kd.R_drewN | apply Kd.R_drew)); exact Kd.R_mono HO_104.out (fun _ hk => ⟨hk.1, ⟨hk.2.1, hk.2.2.1⟩⟩)⟩, ⟨by (with_reducible repeat (first | refine blk_drewN ?_ _ | refine blk_drew ?_ | refine blk_alloc ?_ _)); exact BK710.out⟩, ⟨by repeat (first | (with_reducible first | exact HB.out | apply below_alloc | apply pw_below_drewN | apply below_drew1 | refine below_set ?_ GE710.out | refine below_set ?_ GE716.out) | exact HB.out)⟩⟩
                                                · replace c51 := Bool.eq_false_iff.mpr c51
                                                  subst c51
                                                  have H1 : (medlarlaw12_LayerParts.l2 k5 a0 t695 t696 t700 x10_2 t711 x19_5 t700 (t700.length : Int) x87_3 t696 (t696.length : Int) (wrap64 (x106_5 + 1))) = some r := by rw [if_neg (show ¬ (false = true) by decide)] at H; exact H
                                                  clear H
                                                  have H := H1
                                                  clear H1
                                                  have H' := Aside0.mk H
                                                  clear H
                                                  have p715 : 0 ≤ (x106_5 : Int) := of_decide_eq_true (by first | (with_reducible assumption) | assumption)
                                                  have q715 : x106_5 < (t696.length : Int) := of_decide_eq_true (by first | (with_reducible assumption) | assumption)
                                                  obtain ⟨ad715, e715, hx715_0, hx715_1⟩ := at_T34 (Kd.R_reads' HO_104.out).2.2 x106_5 p715 q715
                                                  cases e715
                                                  replace p715 := eq_true p715
                                                  replace q715 := eq_true q715
                                                  try go_wp2_with (first | ((with_reducible refine gate_dst (N := 21) rfl ?_); (try (refine gate_guard (by rfl) ?_; dsimp only)); refine box_event ?hg (N := 21) ?hd (cs := #[.int .u64 0, .int .u64 0]) (t := 34) ?hr ?_; (case hd => rfl); (case hg => rfl); (case hr => first | (go_simp; done) | (go_simp; rfl)); intro gb716 hg w59 hbox hb; have n0_ := Aside0.mk (Kd.R_below (Kd.R_elderB (by (with_reducible repeat (first | apply Kd.R_alloc | apply Kd.R_drewN | apply Kd.R_drew)); exact HO_6.out) gb716 (Nat.le_of_eq hg.symm)) hb); have n1_ := Aside0.mk (Kd.R_below (Kd.R_elderB (by (with_reducible repeat (first | apply Kd.R_alloc | apply Kd.R_drewN | apply Kd.R_drew)); exact HO_8.out) gb716 (Nat.le_of_eq hg.symm)) hb); have n2_ := Aside0.mk (Kd.R_below (by (with_reducible repeat (first | apply Kd.R_alloc | apply Kd.R_drewN | apply Kd.R_drew)); exact HO_17.out) hb); have n3_ := Aside0.mk (Kd.R_below (Kd.R_elderB (by (with_reducible repeat (first | apply Kd.R_alloc | apply Kd.R_drewN | apply Kd.R_drew)); exact HO_85.out) gb716 (Nat.le_of_eq hg.symm)) hb); have n4_ := Aside0.mk (Kd.R_below (Kd.R_elderB (by (with_reducible repeat (first | apply Kd.R_alloc | apply Kd.R_drewN | apply Kd.R_drew)); exact HO_104.out) gb716 (Nat.le_of_eq hg.symm)) hb); have n5_ := Aside0.mk (blk_below (g := gb710) (o := .cells #[.int .u64 ((rd_T34 t700 x87_3).f0), .int .u64 ((rd_T34 t700 x87_3).f1)] 34 (0, 0)) (by (with_reducible repeat (first | refine blk_drewN ?_ _ | refine blk_drew ?_ | refine blk_alloc ?_ _)); exact BK710.out) hb); have n6_ := Aside0.mk (below_step (by repeat (first | (with_reducible first | exact HB.out | apply below_alloc | apply pw_below_drewN | apply below_drew1 | refine below_set ?_ GE710.out) | exact HB.out)) hb); have n7_ := Aside0.mk (hbox); have n8_ := Aside0.mk ((by rw [hg]; exact (below_size (by repeat (first | (with_reducible first | exact HB.out | apply below_alloc | apply pw_below_drewN | apply below_drew1 | refine below_set ?_ GE710.out) | exact HB.out))) : w.heap.size ≤ gb716)); have n9_ := Aside0.mk ((by rw [hg]; exact (below_size (by repeat (first | (with_reducible first | exact HB.out | apply below_alloc | apply pw_below_drewN | apply below_drew1 | refine below_set ?_ GE710.out) | exact HB.out))) : w.heap.size ≤ gb716)); have n10_ := Aside0.mk ((by rw [hg]; exact Nat.ne_of_lt (blk_lt (g := gb710) (o := .cells #[.int .u64 ((rd_T34 t700 x87_3).f0), .int .u64 ((rd_T34 t700 x87_3).f1)] 34 (0, 0)) (by (with_reducible repeat (first | refine blk_drewN ?_ _ | refine blk_drew ?_ | refine blk_alloc ?_ _)); exact BK710.out)) : gb710 ≠ gb716)); have n11_ := Aside0.mk ((by rw [hg]; exact Nat.ne_of_gt (blk_lt (g := gb710) (o := .cells #[.int .u64 ((rd_T34 t700 x87_3).f0), .int .u64 ((rd_T34 t700 x87_3).f1)] 34 (0, 0)) (by (with_reducible repeat (first | refine blk_drewN ?_ _ | refine blk_drew ?_ | refine blk_alloc ?_ _)); exact BK710.out)) : gb716 ≠ gb710)); clear HO_6; clear HO_8; clear HO_17; clear HO_85; clear HO_104; clear BK710; clear HB; have HO_6 := n0_; have HO_8 := n1_; have HO_17 := n2_; have HO_85 := n3_; have HO_104 := n4_; have BK710 := n5_; have HB := n6_; have BK716 := n7_; have GW716 := n8_; have GE716 := n9_; have NB710_716 := n10_; have NB716_710 := n11_; clear n0_ n1_ n2_ n3_ n4_ n5_ n6_ n7_ n8_ n9_ n10_ n11_; clear hb hbox hg; have hnb60 := NB716_710.out; have hnc60 := NB710_716.out; have hcz61_0 : w59.cell? ⟨gb716, 0, none⟩ = some (.int .u64 0) := (blk_cell BK716.out 0).trans rfl; have hcz61_1 : w59.cell? ⟨gb716, 1, none⟩ = some (.int .u64 0) := (blk_cell BK716.out 1).trans rfl; have hfz61_0 := blk_frozen BK716.out 0; have hfz61_1 := blk_frozen BK716.out 1))
                                                  have n0_ : Aside0 (Kd.R k34 34 ((w59.setCell ⟨gb716, 0, none⟩ (.int .u64 ((rd_T34 t696 x106_5).f0))).setCell ⟨gb716, 1, none⟩ (.int .u64 ((rd_T34 t696 x106_5).f1))) w.heap.size (fun k_ => some k_ ≠ (.slice (some ad709) t700.length co33 : Value).ownBlock ∧ some k_ ≠ (.slice (some ad709) t700.length co33 : Value).ownBlock ∧ k_ ≠ gb710 ∧ k_ ≠ gb716) (.slice (some ad715) t696.length co20) t696) := ⟨by (with_reducible repeat (first | apply Kd.R_alloc | apply Kd.R_drewN | apply Kd.R_drew)); exact Kd.R_mono (Kd.R_far (p := ⟨gb716, 1, none⟩) (Kd.R_far (p := ⟨gb716, 0, none⟩) (Kd.R_mono HO_6.out (fun k_ hk => (⟨hk, hk.2⟩ : _ ∧ k_ ≠ gb716))) (fun _ hk => hk.2) (.int .u64 ((rd_T34 t696 x106_5).f0))) (fun _ hk => hk.2) (.int .u64 ((rd_T34 t696 x106_5).f1))) (fun _ hk => ⟨hk.1.1.1, ⟨hk.1.1.2.1, ⟨hk.1.1.2.2, hk.1.2⟩⟩⟩)⟩
                                                  have n1_ : Aside0 (Kd.R k34 34 ((w59.setCell ⟨gb716, 0, none⟩ (.int .u64 ((rd_T34 t696 x106_5).f0))).setCell ⟨gb716, 1, none⟩ (.int .u64 ((rd_T34 t696 x106_5).f1))) w.heap.size (fun k_ => some k_ ≠ (.slice (some ad715) t696.length co20 : Value).ownBlock ∧ some k_ ≠ (.slice (some ad715) t696.length co20 : Value).ownBlock ∧ k_ ≠ gb710 ∧ k_ ≠ gb716) (.slice (some ad709) t700.length co33) t700) := ⟨by (with_reducible repeat (first | apply Kd.R_alloc | apply Kd.R_drewN | apply Kd.R_drew)); exact Kd.R_mono (Kd.R_far (p := ⟨gb716, 1, none⟩) (Kd.R_far (p := ⟨gb716, 0, none⟩) (Kd.R_mono HO_8.out (fun k_ hk => (⟨hk, hk.2⟩ : _ ∧ k_ ≠ gb716))) (fun _ hk => hk.2) (.int .u64 ((rd_T34 t696 x106_5).f0))) (fun _ hk => hk.2) (.int .u64 ((rd_T34 t696 x106_5).f1))) (fun _ hk => ⟨hk.1.1.1, ⟨hk.1.1.2.1, ⟨hk.1.1.2.2, hk.1.2⟩⟩⟩)⟩
                                                  have n2_ : Aside0 (Kd.R k52 52 ((w59.setCell ⟨gb716, 0, none⟩ (.int .u64 ((rd_T34 t696 x106_5).f0))).setCell ⟨gb716, 1, none⟩ (.int .u64 ((rd_T34 t696 x106_5).f1))) w.heap.size (fun _ => True) v712 t711) := ⟨by (with_reducible repeat (first | apply Kd.R_alloc | apply Kd.R_drewN | apply Kd.R_drew)); exact Kd.R_mono (Kd.R_far (p := ⟨gb716, 1, none⟩) (Kd.R_far (p := ⟨gb716, 0, none⟩) (Kd.R_types HO_17.out BK716.out (by decide)) (fun _ hk => hk.2) (.int .u64 ((rd_T34 t696 x106_5).f0))) (fun _ hk => hk.2) (.int .u64 ((rd_T34 t696 x106_5).f1))) (fun _ hk => trivial)⟩
                                                  have n3_ : Aside0 (Kd.R k34 34 ((w59.setCell ⟨gb716, 0, none⟩ (.int .u64 ((rd_T34 t696 x106_5).f0))).setCell ⟨gb716, 1, none⟩ (.int .u64 ((rd_T34 t696 x106_5).f1))) w.heap.size (fun k_ => some k_ ≠ (.slice (some ad715) t696.length co20 : Value).ownBlock ∧ some k_ ≠ (.slice (some ad715) t696.length co20 : Value).ownBlock ∧ k_ ≠ gb710 ∧ k_ ≠ gb716) (.slice (some ad709) t700.length co33) t700) := ⟨by (with_reducible repeat (first | apply Kd.R_alloc | apply Kd.R_drewN | apply Kd.R_drew)); exact Kd.R_mono (Kd.R_far (p := ⟨gb716, 1, none⟩) (Kd.R_far (p := ⟨gb716, 0, none⟩) (Kd.R_mono HO_85.out (fun k_ hk => (⟨hk, hk.2⟩ : _ ∧ k_ ≠ gb716))) (fun _ hk => hk.2) (.int .u64 ((rd_T34 t696 x106_5).f0))) (fun _ hk => hk.2) (.int .u64 ((rd_T34 t696 x106_5).f1))) (fun _ hk => ⟨hk.1.1.1, ⟨hk.1.1.2.1, ⟨hk.1.1.2.2, hk.1.2⟩⟩⟩)⟩
                                                  have n4_ : Aside0 (Kd.R k34 34 ((w59.setCell ⟨gb716, 0, none⟩ (.int .u64 ((rd_T34 t696 x106_5).f0))).setCell ⟨gb716, 1, none⟩ (.int .u64 ((rd_T34 t696 x106_5).f1))) w.heap.size (fun k_ => some k_ ≠ (.slice (some ad709) t700.length co33 : Value).ownBlock ∧ some k_ ≠ (.slice (some ad709) t700.length co33 : Value).ownBlock ∧ k_ ≠ gb710 ∧ k_ ≠ gb716) (.slice (some ad715) t696.length co20) t696) := ⟨by (with_reducible repeat (first | apply Kd.R_alloc | apply Kd.R_drewN | apply Kd.R_drew)); exact Kd.R_mono (Kd.R_far (p := ⟨gb716, 1, none⟩) (Kd.R_far (p := ⟨gb716, 0, none⟩) (Kd.R_mono HO_104.out (fun k_ hk => (⟨hk, hk.2⟩ : _ ∧ k_ ≠ gb716))) (fun _ hk => hk.2) (.int .u64 ((rd_T34 t696 x106_5).f0))) (fun _ hk => hk.2) (.int .u64 ((rd_T34 t696 x106_5).f1))) (fun _ hk => ⟨hk.1.1.1, ⟨hk.1.1.2.1, ⟨hk.1.1.2.2, hk.1.2⟩⟩⟩)⟩
                                                  have n5_ : Aside0 (((w59.setCell ⟨gb716, 0, none⟩ (.int .u64 ((rd_T34 t696 x106_5).f0))).setCell ⟨gb716, 1, none⟩ (.int .u64 ((rd_T34 t696 x106_5).f1))).heap[gb710]? = some (.cells #[.int .u64 ((rd_T34 t700 x87_3).f0), .int .u64 ((rd_T34 t700 x87_3).f1)] 34 (0, 0))) := ⟨by (with_reducible repeat (first | refine blk_drewN ?_ _ | refine blk_drew ?_ | refine blk_alloc ?_ _)); refine blk_far ?_ NB710_716.out _; (with_reducible repeat (first | refine blk_drewN ?_ _ | refine blk_drew ?_ | refine blk_alloc ?_ _)); refine blk_far ?_ NB710_716.out _; (with_reducible repeat (first | refine blk_drewN ?_ _ | refine blk_drew ?_ | refine blk_alloc ?_ _)); exact BK710.out⟩
                                                  have n6_ : Aside0 (((w59.setCell ⟨gb716, 0, none⟩ (.int .u64 ((rd_T34 t696 x106_5).f0))).setCell ⟨gb716, 1, none⟩ (.int .u64 ((rd_T34 t696 x106_5).f1))).heap[gb716]? = some (.cells #[.int .u64 ((rd_T34 t696 x106_5).f0), .int .u64 ((rd_T34 t696 x106_5).f1)] 34 (0, 0))) := ⟨by (with_reducible repeat (first | refine blk_drewN ?_ _ | refine blk_drew ?_ | refine blk_alloc ?_ _)); refine blk_put (cs := #[.int .u64 ((rd_T34 t696 x106_5).f0), .int .u64 0]) ?_ 1 _ rfl; (with_reducible repeat (first | refine blk_drewN ?_ _ | refine blk_drew ?_ | refine blk_alloc ?_ _)); refine blk_put (cs := #[.int .u64 0, .int .u64 0]) ?_ 0 _ rfl; (with_reducible repeat (first | refine blk_drewN ?_ _ | refine blk_drew ?_ | refine blk_alloc ?_ _)); exact BK716.out⟩
                                                  have n7_ : Aside0 (Below w.heap.size w ((w59.setCell ⟨gb716, 0, none⟩ (.int .u64 ((rd_T34 t696 x106_5).f0))).setCell ⟨gb716, 1, none⟩ (.int .u64 ((rd_T34 t696 x106_5).f1)))) := ⟨by repeat (first | (with_reducible first | exact HB.out | apply below_alloc | apply pw_below_drewN | apply below_drew1 | refine below_set ?_ GE710.out | refine below_set ?_ GE716.out) | exact HB.out)⟩
                                                  (try clear HO_6)
                                                  (try clear HO_8)
                                                  (try clear HO_17)
                                                  (try clear HO_85)
                                                  (try clear HO_104)
                                                  (try clear BK710)
                                                  (try clear BK716)
                                                  (try clear HB)
                                                  generalize ((w59.setCell ⟨gb716, 0, none⟩ (.int .u64 ((rd_T34 t696 x106_5).f0))).setCell ⟨gb716, 1, none⟩ (.int .u64 ((rd_T34 t696 x106_5).f1))) = w62 at n0_ n1_ n2_ n3_ n4_ n5_ n6_ n7_ ⊢
                                                  have HO_6 := n0_
                                                  have HO_8 := n1_
                                                  have HO_17 := n2_
                                                  have HO_85 := n3_
                                                  have HO_104 := n4_
                                                  have BK710 := n5_
                                                  have BK716 := n6_
                                                  have HB := n7_
                                                  clear n0_ n1_ n2_ n3_ n4_ n5_ n6_ n7_
                                                  have n0_ := Aside0.mk (Kd.R_drew HO_6.out)
                                                  have n1_ := Aside0.mk (Kd.R_drew HO_8.out)
                                                  have n2_ := Aside0.mk (Kd.R_drew HO_17.out)
                                                  have n3_ := Aside0.mk (Kd.R_drew HO_85.out)
                                                  have n4_ := Aside0.mk (Kd.R_drew HO_104.out)
                                                  have n5_ := Aside0.mk (blk_drew BK710.out)
                                                  have n6_ := Aside0.mk (blk_drew BK716.out)
                                                  have n7_ := Aside0.mk (below_drew1 HB.out)
                                                  clear HO_6
                                                  clear HO_8
                                                  clear HO_17
                                                  clear HO_85
                                                  clear HO_104
                                                  clear BK710
                                                  clear BK716
                                                  clear HB
                                                  have HO_6 := n0_
                                                  have HO_8 := n1_
                                                  have HO_17 := n2_
                                                  have HO_85 := n3_
                                                  have HO_104 := n4_
                                                  have BK710 := n5_
                                                  have BK716 := n6_
                                                  have HB := n7_
                                                  clear n0_ n1_ n2_ n3_ n4_ n5_ n6_ n7_
                                                  obtain ⟨Ao64, co64, eo64⟩ := Kd.R_slice HO_17.out
                                                  (first | subst eo64 | (injection eo64 with f1_ f2_ f3_; have f4_ := f1_.symm; have f5_ := f3_.symm; clear f1_ f2_ f3_; subst f4_; subst f5_))
                                                  have p717 : 0 ≤ (0 : Int) := (by omega)
                                                  have q717 : 0 < (t711.length : Int) := of_decide_eq_true (by first | (with_reducible assumption) | assumption)
                                                  obtain ⟨ad717, e717, hx717_0, hx717_1⟩ := at_T52 (Kd.R_reads' HO_17.out).2.2 0 p717 q717
                                                  cases e717
                                                  have qi717 : (0 < t711.length) = True := eq_true (by omega)
                                                  (try rw [show ((0 : Int)).toNat = 0 from rfl] at hx717_0)
                                                  (try rw [show 0 * 2 = 0 from rfl] at hx717_0)
                                                  (try rw [Addr.add_zero'] at hx717_0)
                                                  (try rw [show ((0 : Int)).toNat = 0 from rfl] at hx717_1)
                                                  (try rw [show 0 * 2 = 0 from rfl] at hx717_1)
                                                  (try rw [Addr.add_zero'] at hx717_1)
                                                  replace p717 := eq_true p717
                                                  replace q717 := eq_true q717
                                                  refine start_ (n := 12) (S := fun w' => w'.cell? ⟨gb716, 0, none⟩ = some (.int .u64 ((rd_T34 t696 x106_5).f0)) ∧ w'.cell? ⟨gb716, 1, none⟩ = some (.int .u64 ((rd_T34 t696 x106_5).f1)) ∧ w'.cell? ad717 = some (.int .u64 ((rd_T52 t711 0).f0)) ∧ w'.cell? ⟨ad717.block, ad717.off + 1, none⟩ = some (.int .u64 ((rd_T52 t711 0).f1))) (ds := []) #[false, false, false, false, false, false, false, false, false, false, false, false] (by kernel_rfl) rfl rfl ⟨(blk_cell BK716.out 0).trans rfl, (blk_cell BK716.out 1).trans rfl, hx717_0, hx717_1⟩ (fun hHeld => ?_); refine with_tabW medlarlaw12_LayerParts.tab29 medlarlaw12_LayerParts.bits29 (fun HT_ HW_ => ?_)
                                                  generalize w62.drew = w63 at HO_6 HO_8 HO_17 HO_85 HO_104 BK710 BK716 HB hx717_0 hx717_1 hHeld ⊢
                                                  refine pure_ (i := 0) (N := some 111) (v := ?_) (a' := ?_) #[true, false, false, false, false, false, false, false, false, false, false, false] rfl rfl (any_of HT_.out (by kernel_rfl)) (fun _ _ _ h => h) (Or.inl ⟨by rfl, ?_⟩) ?_ ?_
                                                  rotate_left
                                                  · intro w'
                                                    go_simp
                                                    with_reducible rfl
                                                  rotate_left
                                                  · simp only [Act.put, List.setIfInBounds_toArray, List.set_cons_zero, List.set_cons_succ, i64_w, i32_w]
                                                    rfl
                                                  refine pure_ (i := 2) (N := some 113) (v := ?_) (a' := ?_) #[true, false, true, false, false, false, false, false, false, false, false, false] rfl rfl (any_of HT_.out (by kernel_rfl)) (fun _ _ _ h => h) (Or.inl ⟨by rfl, ?_⟩) ?_ ?_
                                                  rotate_left
                                                  · intro w'
                                                    go_simp
                                                    with_reducible rfl
                                                  rotate_left
                                                  · simp only [Act.put, List.setIfInBounds_toArray, List.set_cons_zero, List.set_cons_succ, i64_w, i32_w]
                                                    rfl
                                                  refine pure_ (i := 3) (N := some 114) (v := ?_) (a' := ?_) #[true, false, true, true, false, false, false, false, false, false, false, false] rfl rfl (any_of HT_.out (by kernel_rfl)) (fun _ _ _ h => h) (Or.inl ⟨by rfl, ?_⟩) ?_ ?_
                                                  rotate_left
                                                  · intro w'
                                                    go_simp
                                                    with_reducible rfl
                                                  rotate_left
                                                  · simp only [Act.put, List.setIfInBounds_toArray, List.set_cons_zero, List.set_cons_succ, i64_w, i32_w]
                                                    rfl
                                                  refine pure_ (i := 4) (N := some 115) (v := ?_) (a' := ?_) #[true, false, true, true, true, false, false, false, false, false, false, false] rfl rfl (any_of HT_.out (by kernel_rfl)) (fun _ _ _ h => h) (Or.inl ⟨by rfl, ?_⟩) ?_ ?_
                                                  rotate_left
                                                  · intro w'
                                                    go_simp
                                                    with_reducible rfl
                                                  rotate_left
                                                  · simp only [Act.put, List.setIfInBounds_toArray, List.set_cons_zero, List.set_cons_succ, i64_w, i32_w]
                                                    rfl
                                                  refine take_ (i := 1) (N := some 112) (v := ?_) (a' := ?_) #[true, true, true, true, true, false, false, false, false, false, false, false] rfl rfl (take_ofW HT_.out HW_.out (by kernel_rfl)) (fun _ _ _ h => h) (Or.inl ⟨by rfl, ?_⟩) hHeld ?_ ?_
                                                  rotate_left
                                                  · rintro w' ⟨s0, s1, s2, s3⟩
                                                    go_simp
                                                    with_reducible rfl
                                                  rotate_left
                                                  · simp only [Act.put, List.setIfInBounds_toArray, List.set_cons_zero, List.set_cons_succ, i64_w, i32_w]
                                                    rfl
                                                  refine take_ (i := 5) (N := some 116) (v := ?_) (a' := ?_) #[true, true, true, true, true, true, false, false, false, false, false, false] rfl rfl (take_ofW HT_.out HW_.out (by kernel_rfl)) (fun _ _ _ h => h) (Or.inl ⟨by rfl, ?_⟩) hHeld ?_ ?_
                                                  rotate_left
                                                  · rintro w' ⟨s0, s1, s2, s3⟩
                                                    go_simp
                                                    with_reducible rfl
                                                  rotate_left
                                                  · simp only [Act.put, List.setIfInBounds_toArray, List.set_cons_zero, List.set_cons_succ, i64_w, i32_w]
                                                    rfl
                                                  refine one_ (i := 6) (N := some 117) #[true, true, true, true, true, true, true, false, false, false, false, false] rfl rfl (one_of HT_.out (by kernel_rfl)) (by decide) (fun K hK => ?_)
                                                  refine goes_ Try.func20 (by kernel_rfl) rfl #[.int .i64 a0, .agg #[.int .u64 ((rd_T34 t696 x106_5).f0), .int .u64 ((rd_T34 t696 x106_5).f1)], .int .u64 ((rd_T52 t711 0).f0)] (by rfl) rfl rfl (by (try simp only [List.map_toArray, List.map_cons, List.map_nil]); first | done | rfl | (simp only [List.length_drop, List.length_take]; rfl)) ?_
                                                  with_reducible refine (sub_Has.calls k5 a0 ((rd_T34 t696 x106_5).f0) ((rd_T34 t696 x106_5).f1) ((rd_T52 t711 0).f0) false t719 _ A49.out).mono ?_
                                                  rintro e w65 ⟨rfl, hb⟩
                                                  have HS2_ := (hb.cell (World.block_lt_of_cell? _ _ (hHeld.2.2.1))).trans (hHeld.2.2.1)
                                                  have HS3_ := (hb.cell (World.block_lt_of_cell? _ _ (hHeld.2.2.2))).trans (hHeld.2.2.2)
                                                  refine ⟨_, rfl, ?_⟩
                                                  have n0_ := Aside0.mk (Kd.R_below (by (with_reducible repeat (first | apply Kd.R_alloc | apply Kd.R_drewN | apply Kd.R_drew)); exact HO_6.out) hb)
                                                  have n1_ := Aside0.mk (Kd.R_below (by (with_reducible repeat (first | apply Kd.R_alloc | apply Kd.R_drewN | apply Kd.R_drew)); exact HO_8.out) hb)
                                                  have n2_ := Aside0.mk (Kd.R_below (by (with_reducible repeat (first | apply Kd.R_alloc | apply Kd.R_drewN | apply Kd.R_drew)); exact HO_17.out) hb)
                                                  have n3_ := Aside0.mk (Kd.R_below (by (with_reducible repeat (first | apply Kd.R_alloc | apply Kd.R_drewN | apply Kd.R_drew)); exact HO_85.out) hb)
                                                  have n4_ := Aside0.mk (Kd.R_below (by (with_reducible repeat (first | apply Kd.R_alloc | apply Kd.R_drewN | apply Kd.R_drew)); exact HO_104.out) hb)
                                                  have n5_ := Aside0.mk (blk_below (g := gb710) (o := .cells #[.int .u64 ((rd_T34 t700 x87_3).f0), .int .u64 ((rd_T34 t700 x87_3).f1)] 34 (0, 0)) (by (with_reducible repeat (first | refine blk_drewN ?_ _ | refine blk_drew ?_ | refine blk_alloc ?_ _)); exact BK710.out) hb)
                                                  have n6_ := Aside0.mk (blk_below (g := gb716) (o := .cells #[.int .u64 ((rd_T34 t696 x106_5).f0), .int .u64 ((rd_T34 t696 x106_5).f1)] 34 (0, 0)) (by (with_reducible repeat (first | refine blk_drewN ?_ _ | refine blk_drew ?_ | refine blk_alloc ?_ _)); exact BK716.out) hb)
                                                  have n7_ := Aside0.mk (below_step (by repeat (first | (with_reducible first | exact HB.out | apply below_alloc | apply pw_below_drewN | apply below_drew1 | refine below_set ?_ GE710.out | refine below_set ?_ GE716.out) | exact HB.out)) hb)
                                                  clear HO_6
                                                  clear HO_8
                                                  clear HO_17
                                                  clear HO_85
                                                  clear HO_104
                                                  clear BK710
                                                  clear BK716
                                                  clear HB
                                                  have HO_6 := n0_
                                                  have HO_8 := n1_
                                                  have HO_17 := n2_
                                                  have HO_85 := n3_
                                                  have HO_104 := n4_
                                                  have BK710 := n5_
                                                  have BK716 := n6_
                                                  have HB := n7_
                                                  clear n0_ n1_ n2_ n3_ n4_ n5_ n6_ n7_
                                                  (try clear hb)
                                                  (try clear hb2)
                                                  (try clear hk)
                                                  (try clear hi)
                                                  refine hK.out _ _ ⟨(blk_cell BK716.out 0).trans rfl, (blk_cell BK716.out 1).trans rfl, HS2_, HS3_⟩ (fun hHeld => ?_)
                                                  clear hK K
                                                  refine norm_ (a' := ?_) ?_ ?_
                                                  rotate_left
                                                  · show Act.put _ (some 117) _ = _
                                                    simp only [Act.put, List.setIfInBounds_toArray, List.set_cons_zero, List.set_cons_succ, i64_w, i32_w]
                                                    rfl
                                                  refine pure_ (i := 7) (N := some 110) (v := ?_) (a' := ?_) #[true, true, true, true, true, true, true, true, false, false, false, false] rfl rfl (any_of HT_.out (by kernel_rfl)) (fun _ _ _ h => h) (Or.inl ⟨by rfl, ?_⟩) ?_ ?_
                                                  rotate_left
                                                  · intro w'
                                                    go_simp
                                                    with_reducible rfl
                                                  rotate_left
                                                  · simp only [Act.put, List.setIfInBounds_toArray, List.set_cons_zero, List.set_cons_succ, i64_w, i32_w]
                                                    rfl
                                                  refine pure_ (i := 8) (N := some 118) (v := ?_) (a' := ?_) #[true, true, true, true, true, true, true, true, true, false, false, false] rfl rfl (any_of HT_.out (by kernel_rfl)) (fun _ _ _ h => h) (Or.inl ⟨by rfl, ?_⟩) ?_ ?_
                                                  rotate_left
                                                  · intro w'
                                                    go_simp
                                                    with_reducible rfl
                                                  rotate_left
                                                  · simp only [Act.put, List.setIfInBounds_toArray, List.set_cons_zero, List.set_cons_succ, i64_w, i32_w]
                                                    rfl
                                                  refine pure_ (i := 9) (N := some 119) (v := ?_) (a' := ?_) #[true, true, true, true, true, true, true, true, true, true, false, false] rfl rfl (any_of HT_.out (by kernel_rfl)) (fun _ _ _ h => h) (Or.inl ⟨by rfl, ?_⟩) ?_ ?_
                                                  rotate_left
                                                  · intro w'
                                                    go_simp
                                                    with_reducible rfl
                                                  rotate_left
                                                  · simp only [Act.put, List.setIfInBounds_toArray, List.set_cons_zero, List.set_cons_succ, i64_w, i32_w]
                                                    rfl
                                                  refine pure_ (i := 10) (N := some 22) (v := ?_) (a' := ?_) #[true, true, true, true, true, true, true, true, true, true, true, false] rfl rfl (any_of HT_.out (by kernel_rfl)) (fun _ _ _ h => h) (Or.inl ⟨by rfl, ?_⟩) ?_ ?_
                                                  rotate_left
                                                  · intro w'
                                                    go_simp
                                                    with_reducible rfl
                                                  rotate_left
                                                  · simp only [Act.put, List.setIfInBounds_toArray, List.set_cons_zero, List.set_cons_succ, i64_w, i32_w]
                                                    rfl
                                                  refine pure_ (i := 11) (N := some 23) (v := ?_) (a' := ?_) #[true, true, true, true, true, true, true, true, true, true, true, true] rfl rfl (any_of HT_.out (by kernel_rfl)) (fun _ _ _ h => h) (Or.inl ⟨by rfl, ?_⟩) ?_ ?_
                                                  rotate_left
                                                  · intro w'
                                                    go_simp
                                                    with_reducible rfl
                                                  rotate_left
                                                  · simp only [Act.put, List.setIfInBounds_toArray, List.set_cons_zero, List.set_cons_succ, i64_w, i32_w]
                                                    rfl
                                                  refine done_ (done_of HT_.out (by kernel_rfl)) ?_
                                                  try go_wp2
                                                  go_roundg k5
                                                  case measure => have := HJ8.out; have := HK2.out; have := HK3.out; have := HJ37.out; have := HK5.out; omega
                                                  case rel => exact ⟨(x19_5), (wrap64 (x106_5 + 1)), (by first | rfl | (simp; done) | (simp [*]; done)), (by first | rfl | (simp; done) | (simp [*]; done)), H', ⟨by have := HJ8.out; have := HK2.out; have := HK3.out; have := HJ37.out; have := HK5.out; omega⟩, ⟨by (with_reducible repeat (first | apply Kd.R_alloc | apply Kd.R_drewN | apply Kd.R_drew)); exact Kd.R_mono HO_6.out (fun _ hk => ⟨hk.1, ⟨hk.2.1, hk.2.2.1⟩⟩)⟩, ⟨by (with_reducible repeat (first | apply Kd.R_alloc | apply Kd.R_drewN | apply Kd.R_drew)); exact Kd.R_mono HO_8.out (fun _ hk => ⟨hk.1, ⟨hk.2.1, hk.2.2.1⟩⟩)⟩, ⟨by (with_reducible repeat (first | apply Kd.R_alloc | apply Kd.R_drewN | apply Kd.R_drew)); exact HO_17.out⟩, ⟨by (with_reducible repeat (first | apply Kd.R_alloc | apply Kd.R_drewN | apply Kd.R_drew)); exact Kd.R_mono HO_85.out (fun _ hk => ⟨hk.1, ⟨hk.2.1, hk.2.2.1⟩⟩)⟩, ⟨by (with_reducible repeat (first | apply Kd.R_alloc | apply Kd.R_drewN | apply Kd.R_drew)); exact Kd.R_mono HO_104.out (fun _ hk => ⟨hk.1, ⟨hk.2.1, hk.2.2.1⟩⟩)⟩, ⟨by (with_reducible repeat (first | refine blk_drewN ?_ _ | refine blk_drew ?_ | refine blk_alloc ?_ _)); exact BK710.out⟩, ⟨by repeat (first | (with_reducible first | exact HB.out | apply below_alloc | apply pw_below_drewN | apply below_drew1 | refine below_set ?_ GE710.out | refine below_set ?_ GE716.out) | exact HB.out)⟩⟩
                                              · rw [if_neg c50] at H
                                                have c50b0 : (t719 == 0) = false := beq_eq_false_iff_ne.mpr c50
                                                have c50b1 : (t719 != 0) = true := bne_iff_ne.mpr c50
                                                have H' := Aside0.mk H
                                                clear H
                                                have p715 : 0 ≤ (x106_5 : Int) := of_decide_eq_true (by first | (with_reducible assumption) | assumption)
                                                have q715 : x106_5 < (t696.length : Int) := of_decide_eq_true (by first | (with_reducible assumption) | assumption)
                                                obtain ⟨ad715, e715, hx715_0, hx715_1⟩ := at_T34 (Kd.R_reads' HO_104.out).2.2 x106_5 p715 q715
                                                cases e715
                                                replace p715 := eq_true p715
                                                replace q715 := eq_true q715
                                                try go_wp2_with (first | ((with_reducible refine gate_dst (N := 21) rfl ?_); (try (refine gate_guard (by rfl) ?_; dsimp only)); refine box_event ?hg (N := 21) ?hd (cs := #[.int .u64 0, .int .u64 0]) (t := 34) ?hr ?_; (case hd => rfl); (case hg => rfl); (case hr => first | (go_simp; done) | (go_simp; rfl)); intro gb716 hg w66 hbox hb; have n0_ := Aside0.mk (Kd.R_below (Kd.R_elderB (by (with_reducible repeat (first | apply Kd.R_alloc | apply Kd.R_drewN | apply Kd.R_drew)); exact HO_6.out) gb716 (Nat.le_of_eq hg.symm)) hb); have n1_ := Aside0.mk (Kd.R_below (Kd.R_elderB (by (with_reducible repeat (first | apply Kd.R_alloc | apply Kd.R_drewN | apply Kd.R_drew)); exact HO_8.out) gb716 (Nat.le_of_eq hg.symm)) hb); have n2_ := Aside0.mk (Kd.R_below (by (with_reducible repeat (first | apply Kd.R_alloc | apply Kd.R_drewN | apply Kd.R_drew)); exact HO_17.out) hb); have n3_ := Aside0.mk (Kd.R_below (Kd.R_elderB (by (with_reducible repeat (first | apply Kd.R_alloc | apply Kd.R_drewN | apply Kd.R_drew)); exact HO_85.out) gb716 (Nat.le_of_eq hg.symm)) hb); have n4_ := Aside0.mk (Kd.R_below (Kd.R_elderB (by (with_reducible repeat (first | apply Kd.R_alloc | apply Kd.R_drewN | apply Kd.R_drew)); exact HO_104.out) gb716 (Nat.le_of_eq hg.symm)) hb); have n5_ := Aside0.mk (blk_below (g := gb710) (o := .cells #[.int .u64 ((rd_T34 t700 x87_3).f0), .int .u64 ((rd_T34 t700 x87_3).f1)] 34 (0, 0)) (by (with_reducible repeat (first | refine blk_drewN ?_ _ | refine blk_drew ?_ | refine blk_alloc ?_ _)); exact BK710.out) hb); have n6_ := Aside0.mk (below_step (by repeat (first | (with_reducible first | exact HB.out | apply below_alloc | apply pw_below_drewN | apply below_drew1 | refine below_set ?_ GE710.out) | exact HB.out)) hb); have n7_ := Aside0.mk (hbox); have n8_ := Aside0.mk ((by rw [hg]; exact (below_size (by repeat (first | (with_reducible first | exact HB.out | apply below_alloc | apply pw_below_drewN | apply below_drew1 | refine below_set ?_ GE710.out) | exact HB.out))) : w.heap.size ≤ gb716)); have n9_ := Aside0.mk ((by rw [hg]; exact (below_size (by repeat (first | (with_reducible first | exact HB.out | apply below_alloc | apply pw_below_drewN | apply below_drew1 | refine below_set ?_ GE710.out) | exact HB.out))) : w.heap.size ≤ gb716)); have n10_ := Aside0.mk ((by rw [hg]; exact Nat.ne_of_lt (blk_lt (g := gb710) (o := .cells #[.int .u64 ((rd_T34 t700 x87_3).f0), .int .u64 ((rd_T34 t700 x87_3).f1)] 34 (0, 0)) (by (with_reducible repeat (first | refine blk_drewN ?_ _ | refine blk_drew ?_ | refine blk_alloc ?_ _)); exact BK710.out)) : gb710 ≠ gb716)); have n11_ := Aside0.mk ((by rw [hg]; exact Nat.ne_of_gt (blk_lt (g := gb710) (o := .cells #[.int .u64 ((rd_T34 t700 x87_3).f0), .int .u64 ((rd_T34 t700 x87_3).f1)] 34 (0, 0)) (by (with_reducible repeat (first | refine blk_drewN ?_ _ | refine blk_drew ?_ | refine blk_alloc ?_ _)); exact BK710.out)) : gb716 ≠ gb710)); clear HO_6; clear HO_8; clear HO_17; clear HO_85; clear HO_104; clear BK710; clear HB; have HO_6 := n0_; have HO_8 := n1_; have HO_17 := n2_; have HO_85 := n3_; have HO_104 := n4_; have BK710 := n5_; have HB := n6_; have BK716 := n7_; have GW716 := n8_; have GE716 := n9_; have NB710_716 := n10_; have NB716_710 := n11_; clear n0_ n1_ n2_ n3_ n4_ n5_ n6_ n7_ n8_ n9_ n10_ n11_; clear hb hbox hg; have hnb67 := NB716_710.out; have hnc67 := NB710_716.out; have hcz68_0 : w66.cell? ⟨gb716, 0, none⟩ = some (.int .u64 0) := (blk_cell BK716.out 0).trans rfl; have hcz68_1 : w66.cell? ⟨gb716, 1, none⟩ = some (.int .u64 0) := (blk_cell BK716.out 1).trans rfl; have hfz68_0 := blk_frozen BK716.out 0; have hfz68_1 := blk_frozen BK716.out 1))
                                                have n0_ : Aside0 (Kd.R k34 34 ((w66.setCell ⟨gb716, 0, none⟩ (.int .u64 ((rd_T34 t696 x106_5).f0))).setCell ⟨gb716, 1, none⟩ (.int .u64 ((rd_T34 t696 x106_5).f1))) w.heap.size (fun k_ => some k_ ≠ (.slice (some ad709) t700.length co33 : Value).ownBlock ∧ some k_ ≠ (.slice (some ad709) t700.length co33 : Value).ownBlock ∧ k_ ≠ gb710 ∧ k_ ≠ gb716) (.slice (some ad715) t696.length co20) t696) := ⟨by (with_reducible repeat (first | apply Kd.R_alloc | apply Kd.R_drewN | apply Kd.R_drew)); exact Kd.R_mono (Kd.R_far (p := ⟨gb716, 1, none⟩) (Kd.R_far (p := ⟨gb716, 0, none⟩) (Kd.R_mono HO_6.out (fun k_ hk => (⟨hk, hk.2⟩ : _ ∧ k_ ≠ gb716))) (fun _ hk => hk.2) (.int .u64 ((rd_T34 t696 x106_5).f0))) (fun _ hk => hk.2) (.int .u64 ((rd_T34 t696 x106_5).f1))) (fun _ hk => ⟨hk.1.1.1, ⟨hk.1.1.2.1, ⟨hk.1.1.2.2, hk.1.2⟩⟩⟩)⟩
                                                have n1_ : Aside0 (Kd.R k34 34 ((w66.setCell ⟨gb716, 0, none⟩ (.int .u64 ((rd_T34 t696 x106_5).f0))).setCell ⟨gb716, 1, none⟩ (.int .u64 ((rd_T34 t696 x106_5).f1))) w.heap.size (fun k_ => some k_ ≠ (.slice (some ad715) t696.length co20 : Value).ownBlock ∧ some k_ ≠ (.slice (some ad715) t696.length co20 : Value).ownBlock ∧ k_ ≠ gb710 ∧ k_ ≠ gb716) (.slice (some ad709) t700.length co33) t700) := ⟨by (with_reducible repeat (first | apply Kd.R_alloc | apply Kd.R_drewN | apply Kd.R_drew)); exact Kd.R_mono (Kd.R_far (p := ⟨gb716, 1, none⟩) (Kd.R_far (p := ⟨gb716, 0, none⟩) (Kd.R_mono HO_8.out (fun k_ hk => (⟨hk, hk.2⟩ : _ ∧ k_ ≠ gb716))) (fun _ hk => hk.2) (.int .u64 ((rd_T34 t696 x106_5).f0))) (fun _ hk => hk.2) (.int .u64 ((rd_T34 t696 x106_5).f1))) (fun _ hk => ⟨hk.1.1.1, ⟨hk.1.1.2.1, ⟨hk.1.1.2.2, hk.1.2⟩⟩⟩)⟩
                                                have n2_ : Aside0 (Kd.R k52 52 ((w66.setCell ⟨gb716, 0, none⟩ (.int .u64 ((rd_T34 t696 x106_5).f0))).setCell ⟨gb716, 1, none⟩ (.int .u64 ((rd_T34 t696 x106_5).f1))) w.heap.size (fun _ => True) v712 t711) := ⟨by (with_reducible repeat (first | apply Kd.R_alloc | apply Kd.R_drewN | apply Kd.R_drew)); exact Kd.R_mono (Kd.R_far (p := ⟨gb716, 1, none⟩) (Kd.R_far (p := ⟨gb716, 0, none⟩) (Kd.R_types HO_17.out BK716.out (by decide)) (fun _ hk => hk.2) (.int .u64 ((rd_T34 t696 x106_5).f0))) (fun _ hk => hk.2) (.int .u64 ((rd_T34 t696 x106_5).f1))) (fun _ hk => trivial)⟩
                                                have n3_ : Aside0 (Kd.R k34 34 ((w66.setCell ⟨gb716, 0, none⟩ (.int .u64 ((rd_T34 t696 x106_5).f0))).setCell ⟨gb716, 1, none⟩ (.int .u64 ((rd_T34 t696 x106_5).f1))) w.heap.size (fun k_ => some k_ ≠ (.slice (some ad715) t696.length co20 : Value).ownBlock ∧ some k_ ≠ (.slice (some ad715) t696.length co20 : Value).ownBlock ∧ k_ ≠ gb710 ∧ k_ ≠ gb716) (.slice (some ad709) t700.length co33) t700) := ⟨by (with_reducible repeat (first | apply Kd.R_alloc | apply Kd.R_drewN | apply Kd.R_drew)); exact Kd.R_mono (Kd.R_far (p := ⟨gb716, 1, none⟩) (Kd.R_far (p := ⟨gb716, 0, none⟩) (Kd.R_mono HO_85.out (fun k_ hk => (⟨hk, hk.2⟩ : _ ∧ k_ ≠ gb716))) (fun _ hk => hk.2) (.int .u64 ((rd_T34 t696 x106_5).f0))) (fun _ hk => hk.2) (.int .u64 ((rd_T34 t696 x106_5).f1))) (fun _ hk => ⟨hk.1.1.1, ⟨hk.1.1.2.1, ⟨hk.1.1.2.2, hk.1.2⟩⟩⟩)⟩
                                                have n4_ : Aside0 (Kd.R k34 34 ((w66.setCell ⟨gb716, 0, none⟩ (.int .u64 ((rd_T34 t696 x106_5).f0))).setCell ⟨gb716, 1, none⟩ (.int .u64 ((rd_T34 t696 x106_5).f1))) w.heap.size (fun k_ => some k_ ≠ (.slice (some ad709) t700.length co33 : Value).ownBlock ∧ some k_ ≠ (.slice (some ad709) t700.length co33 : Value).ownBlock ∧ k_ ≠ gb710 ∧ k_ ≠ gb716) (.slice (some ad715) t696.length co20) t696) := ⟨by (with_reducible repeat (first | apply Kd.R_alloc | apply Kd.R_drewN | apply Kd.R_drew)); exact Kd.R_mono (Kd.R_far (p := ⟨gb716, 1, none⟩) (Kd.R_far (p := ⟨gb716, 0, none⟩) (Kd.R_mono HO_104.out (fun k_ hk => (⟨hk, hk.2⟩ : _ ∧ k_ ≠ gb716))) (fun _ hk => hk.2) (.int .u64 ((rd_T34 t696 x106_5).f0))) (fun _ hk => hk.2) (.int .u64 ((rd_T34 t696 x106_5).f1))) (fun _ hk => ⟨hk.1.1.1, ⟨hk.1.1.2.1, ⟨hk.1.1.2.2, hk.1.2⟩⟩⟩)⟩
                                                have n5_ : Aside0 (((w66.setCell ⟨gb716, 0, none⟩ (.int .u64 ((rd_T34 t696 x106_5).f0))).setCell ⟨gb716, 1, none⟩ (.int .u64 ((rd_T34 t696 x106_5).f1))).heap[gb710]? = some (.cells #[.int .u64 ((rd_T34 t700 x87_3).f0), .int .u64 ((rd_T34 t700 x87_3).f1)] 34 (0, 0))) := ⟨by (with_reducible repeat (first | refine blk_drewN ?_ _ | refine blk_drew ?_ | refine blk_alloc ?_ _)); refine blk_far ?_ NB710_716.out _; (with_reducible repeat (first | refine blk_drewN ?_ _ | refine blk_drew ?_ | refine blk_alloc ?_ _)); refine blk_far ?_ NB710_716.out _; (with_reducible repeat (first | refine blk_drewN ?_ _ | refine blk_drew ?_ | refine blk_alloc ?_ _)); exact BK710.out⟩
                                                have n6_ : Aside0 (((w66.setCell ⟨gb716, 0, none⟩ (.int .u64 ((rd_T34 t696 x106_5).f0))).setCell ⟨gb716, 1, none⟩ (.int .u64 ((rd_T34 t696 x106_5).f1))).heap[gb716]? = some (.cells #[.int .u64 ((rd_T34 t696 x106_5).f0), .int .u64 ((rd_T34 t696 x106_5).f1)] 34 (0, 0))) := ⟨by (with_reducible repeat (first | refine blk_drewN ?_ _ | refine blk_drew ?_ | refine blk_alloc ?_ _)); refine blk_put (cs := #[.int .u64 ((rd_T34 t696 x106_5).f0), .int .u64 0]) ?_ 1 _ rfl; (with_reducible repeat (first | refine blk_drewN ?_ _ | refine blk_drew ?_ | refine blk_alloc ?_ _)); refine blk_put (cs := #[.int .u64 0, .int .u64 0]) ?_ 0 _ rfl; (with_reducible repeat (first | refine blk_drewN ?_ _ | refine blk_drew ?_ | refine blk_alloc ?_ _)); exact BK716.out⟩
                                                have n7_ : Aside0 (Below w.heap.size w ((w66.setCell ⟨gb716, 0, none⟩ (.int .u64 ((rd_T34 t696 x106_5).f0))).setCell ⟨gb716, 1, none⟩ (.int .u64 ((rd_T34 t696 x106_5).f1)))) := ⟨by repeat (first | (with_reducible first | exact HB.out | apply below_alloc | apply pw_below_drewN | apply below_drew1 | refine below_set ?_ GE710.out | refine below_set ?_ GE716.out) | exact HB.out)⟩
                                                (try clear HO_6)
                                                (try clear HO_8)
                                                (try clear HO_17)
                                                (try clear HO_85)
                                                (try clear HO_104)
                                                (try clear BK710)
                                                (try clear BK716)
                                                (try clear HB)
                                                generalize ((w66.setCell ⟨gb716, 0, none⟩ (.int .u64 ((rd_T34 t696 x106_5).f0))).setCell ⟨gb716, 1, none⟩ (.int .u64 ((rd_T34 t696 x106_5).f1))) = w69 at n0_ n1_ n2_ n3_ n4_ n5_ n6_ n7_ ⊢
                                                have HO_6 := n0_
                                                have HO_8 := n1_
                                                have HO_17 := n2_
                                                have HO_85 := n3_
                                                have HO_104 := n4_
                                                have BK710 := n5_
                                                have BK716 := n6_
                                                have HB := n7_
                                                clear n0_ n1_ n2_ n3_ n4_ n5_ n6_ n7_
                                                have n0_ := Aside0.mk (Kd.R_drew HO_6.out)
                                                have n1_ := Aside0.mk (Kd.R_drew HO_8.out)
                                                have n2_ := Aside0.mk (Kd.R_drew HO_17.out)
                                                have n3_ := Aside0.mk (Kd.R_drew HO_85.out)
                                                have n4_ := Aside0.mk (Kd.R_drew HO_104.out)
                                                have n5_ := Aside0.mk (blk_drew BK710.out)
                                                have n6_ := Aside0.mk (blk_drew BK716.out)
                                                have n7_ := Aside0.mk (below_drew1 HB.out)
                                                clear HO_6
                                                clear HO_8
                                                clear HO_17
                                                clear HO_85
                                                clear HO_104
                                                clear BK710
                                                clear BK716
                                                clear HB
                                                have HO_6 := n0_
                                                have HO_8 := n1_
                                                have HO_17 := n2_
                                                have HO_85 := n3_
                                                have HO_104 := n4_
                                                have BK710 := n5_
                                                have BK716 := n6_
                                                have HB := n7_
                                                clear n0_ n1_ n2_ n3_ n4_ n5_ n6_ n7_
                                                obtain ⟨Ao71, co71, eo71⟩ := Kd.R_slice HO_17.out
                                                (first | subst eo71 | (injection eo71 with f1_ f2_ f3_; have f4_ := f1_.symm; have f5_ := f3_.symm; clear f1_ f2_ f3_; subst f4_; subst f5_))
                                                have p717 : 0 ≤ (0 : Int) := (by omega)
                                                have q717 : 0 < (t711.length : Int) := of_decide_eq_true (by first | (with_reducible assumption) | assumption)
                                                obtain ⟨ad717, e717, hx717_0, hx717_1⟩ := at_T52 (Kd.R_reads' HO_17.out).2.2 0 p717 q717
                                                cases e717
                                                have qi717 : (0 < t711.length) = True := eq_true (by omega)
                                                (try rw [show ((0 : Int)).toNat = 0 from rfl] at hx717_0)
                                                (try rw [show 0 * 2 = 0 from rfl] at hx717_0)
                                                (try rw [Addr.add_zero'] at hx717_0)
                                                (try rw [show ((0 : Int)).toNat = 0 from rfl] at hx717_1)
                                                (try rw [show 0 * 2 = 0 from rfl] at hx717_1)
                                                (try rw [Addr.add_zero'] at hx717_1)
                                                replace p717 := eq_true p717
                                                replace q717 := eq_true q717
                                                refine start_ (n := 12) (S := fun w' => w'.cell? ⟨gb716, 0, none⟩ = some (.int .u64 ((rd_T34 t696 x106_5).f0)) ∧ w'.cell? ⟨gb716, 1, none⟩ = some (.int .u64 ((rd_T34 t696 x106_5).f1)) ∧ w'.cell? ad717 = some (.int .u64 ((rd_T52 t711 0).f0)) ∧ w'.cell? ⟨ad717.block, ad717.off + 1, none⟩ = some (.int .u64 ((rd_T52 t711 0).f1))) (ds := []) #[false, false, false, false, false, false, false, false, false, false, false, false] (by kernel_rfl) rfl rfl ⟨(blk_cell BK716.out 0).trans rfl, (blk_cell BK716.out 1).trans rfl, hx717_0, hx717_1⟩ (fun hHeld => ?_); refine with_tabW medlarlaw12_LayerParts.tab29 medlarlaw12_LayerParts.bits29 (fun HT_ HW_ => ?_)
                                                generalize w69.drew = w70 at HO_6 HO_8 HO_17 HO_85 HO_104 BK710 BK716 HB hx717_0 hx717_1 hHeld ⊢
                                                refine pure_ (i := 0) (N := some 111) (v := ?_) (a' := ?_) #[true, false, false, false, false, false, false, false, false, false, false, false] rfl rfl (any_of HT_.out (by kernel_rfl)) (fun _ _ _ h => h) (Or.inl ⟨by rfl, ?_⟩) ?_ ?_
                                                rotate_left
                                                · intro w'
                                                  go_simp
                                                  with_reducible rfl
                                                rotate_left
                                                · simp only [Act.put, List.setIfInBounds_toArray, List.set_cons_zero, List.set_cons_succ, i64_w, i32_w]
                                                  rfl
                                                refine pure_ (i := 2) (N := some 113) (v := ?_) (a' := ?_) #[true, false, true, false, false, false, false, false, false, false, false, false] rfl rfl (any_of HT_.out (by kernel_rfl)) (fun _ _ _ h => h) (Or.inl ⟨by rfl, ?_⟩) ?_ ?_
                                                rotate_left
                                                · intro w'
                                                  go_simp
                                                  with_reducible rfl
                                                rotate_left
                                                · simp only [Act.put, List.setIfInBounds_toArray, List.set_cons_zero, List.set_cons_succ, i64_w, i32_w]
                                                  rfl
                                                refine pure_ (i := 3) (N := some 114) (v := ?_) (a' := ?_) #[true, false, true, true, false, false, false, false, false, false, false, false] rfl rfl (any_of HT_.out (by kernel_rfl)) (fun _ _ _ h => h) (Or.inl ⟨by rfl, ?_⟩) ?_ ?_
                                                rotate_left
                                                · intro w'
                                                  go_simp
                                                  with_reducible rfl
                                                rotate_left
                                                · simp only [Act.put, List.setIfInBounds_toArray, List.set_cons_zero, List.set_cons_succ, i64_w, i32_w]
                                                  rfl
                                                refine pure_ (i := 4) (N := some 115) (v := ?_) (a' := ?_) #[true, false, true, true, true, false, false, false, false, false, false, false] rfl rfl (any_of HT_.out (by kernel_rfl)) (fun _ _ _ h => h) (Or.inl ⟨by rfl, ?_⟩) ?_ ?_
                                                rotate_left
                                                · intro w'
                                                  go_simp
                                                  with_reducible rfl
                                                rotate_left
                                                · simp only [Act.put, List.setIfInBounds_toArray, List.set_cons_zero, List.set_cons_succ, i64_w, i32_w]
                                                  rfl
                                                refine take_ (i := 1) (N := some 112) (v := ?_) (a' := ?_) #[true, true, true, true, true, false, false, false, false, false, false, false] rfl rfl (take_ofW HT_.out HW_.out (by kernel_rfl)) (fun _ _ _ h => h) (Or.inl ⟨by rfl, ?_⟩) hHeld ?_ ?_
                                                rotate_left
                                                · rintro w' ⟨s0, s1, s2, s3⟩
                                                  go_simp
                                                  with_reducible rfl
                                                rotate_left
                                                · simp only [Act.put, List.setIfInBounds_toArray, List.set_cons_zero, List.set_cons_succ, i64_w, i32_w]
                                                  rfl
                                                refine take_ (i := 5) (N := some 116) (v := ?_) (a' := ?_) #[true, true, true, true, true, true, false, false, false, false, false, false] rfl rfl (take_ofW HT_.out HW_.out (by kernel_rfl)) (fun _ _ _ h => h) (Or.inl ⟨by rfl, ?_⟩) hHeld ?_ ?_
                                                rotate_left
                                                · rintro w' ⟨s0, s1, s2, s3⟩
                                                  go_simp
                                                  with_reducible rfl
                                                rotate_left
                                                · simp only [Act.put, List.setIfInBounds_toArray, List.set_cons_zero, List.set_cons_succ, i64_w, i32_w]
                                                  rfl
                                                refine one_ (i := 6) (N := some 117) #[true, true, true, true, true, true, true, false, false, false, false, false] rfl rfl (one_of HT_.out (by kernel_rfl)) (by decide) (fun K hK => ?_)
                                                refine goes_ Try.func20 (by kernel_rfl) rfl #[.int .i64 a0, .agg #[.int .u64 ((rd_T34 t696 x106_5).f0), .int .u64 ((rd_T34 t696 x106_5).f1)], .int .u64 ((rd_T52 t711 0).f0)] (by rfl) rfl rfl (by (try simp only [List.map_toArray, List.map_cons, List.map_nil]); first | done | rfl | (simp only [List.length_drop, List.length_take]; rfl)) ?_
                                                with_reducible refine (sub_Has.calls k5 a0 ((rd_T34 t696 x106_5).f0) ((rd_T34 t696 x106_5).f1) ((rd_T52 t711 0).f0) t718 t719 _ A49.out).mono ?_
                                                rintro e w72 ⟨rfl, hb⟩
                                                have HS2_ := (hb.cell (World.block_lt_of_cell? _ _ (hHeld.2.2.1))).trans (hHeld.2.2.1)
                                                have HS3_ := (hb.cell (World.block_lt_of_cell? _ _ (hHeld.2.2.2))).trans (hHeld.2.2.2)
                                                refine ⟨_, rfl, ?_⟩
                                                have n0_ := Aside0.mk (Kd.R_below (by (with_reducible repeat (first | apply Kd.R_alloc | apply Kd.R_drewN | apply Kd.R_drew)); exact HO_6.out) hb)
                                                have n1_ := Aside0.mk (Kd.R_below (by (with_reducible repeat (first | apply Kd.R_alloc | apply Kd.R_drewN | apply Kd.R_drew)); exact HO_8.out) hb)
                                                have n2_ := Aside0.mk (Kd.R_below (by (with_reducible repeat (first | apply Kd.R_alloc | apply Kd.R_drewN | apply Kd.R_drew)); exact HO_17.out) hb)
                                                have n3_ := Aside0.mk (Kd.R_below (by (with_reducible repeat (first | apply Kd.R_alloc | apply Kd.R_drewN | apply Kd.R_drew)); exact HO_85.out) hb)
                                                have n4_ := Aside0.mk (Kd.R_below (by (with_reducible repeat (first | apply Kd.R_alloc | apply Kd.R_drewN | apply Kd.R_drew)); exact HO_104.out) hb)
                                                have n5_ := Aside0.mk (blk_below (g := gb710) (o := .cells #[.int .u64 ((rd_T34 t700 x87_3).f0), .int .u64 ((rd_T34 t700 x87_3).f1)] 34 (0, 0)) (by (with_reducible repeat (first | refine blk_drewN ?_ _ | refine blk_drew ?_ | refine blk_alloc ?_ _)); exact BK710.out) hb)
                                                have n6_ := Aside0.mk (blk_below (g := gb716) (o := .cells #[.int .u64 ((rd_T34 t696 x106_5).f0), .int .u64 ((rd_T34 t696 x106_5).f1)] 34 (0, 0)) (by (with_reducible repeat (first | refine blk_drewN ?_ _ | refine blk_drew ?_ | refine blk_alloc ?_ _)); exact BK716.out) hb)
                                                have n7_ := Aside0.mk (below_step (by repeat (first | (with_reducible first | exact HB.out | apply below_alloc | apply pw_below_drewN | apply below_drew1 | refine below_set ?_ GE710.out | refine below_set ?_ GE716.out) | exact HB.out)) hb)
                                                clear HO_6
                                                clear HO_8
                                                clear HO_17
                                                clear HO_85
                                                clear HO_104
                                                clear BK710
                                                clear BK716
                                                clear HB
                                                have HO_6 := n0_
                                                have HO_8 := n1_
                                                have HO_17 := n2_
                                                have HO_85 := n3_
                                                have HO_104 := n4_
                                                have BK710 := n5_
                                                have BK716 := n6_
                                                have HB := n7_
                                                clear n0_ n1_ n2_ n3_ n4_ n5_ n6_ n7_
                                                (try clear hb)
                                                (try clear hb2)
                                                (try clear hk)
                                                (try clear hi)
                                                refine hK.out _ _ ⟨(blk_cell BK716.out 0).trans rfl, (blk_cell BK716.out 1).trans rfl, HS2_, HS3_⟩ (fun hHeld => ?_)
                                                clear hK K
                                                refine norm_ (a' := ?_) ?_ ?_
                                                rotate_left
                                                · show Act.put _ (some 117) _ = _
                                                  simp only [Act.put, List.setIfInBounds_toArray, List.set_cons_zero, List.set_cons_succ, i64_w, i32_w]
                                                  rfl
                                                refine pure_ (i := 7) (N := some 110) (v := ?_) (a' := ?_) #[true, true, true, true, true, true, true, true, false, false, false, false] rfl rfl (any_of HT_.out (by kernel_rfl)) (fun _ _ _ h => h) (Or.inl ⟨by rfl, ?_⟩) ?_ ?_
                                                rotate_left
                                                · intro w'
                                                  go_simp
                                                  with_reducible rfl
                                                rotate_left
                                                · simp only [Act.put, List.setIfInBounds_toArray, List.set_cons_zero, List.set_cons_succ, i64_w, i32_w]
                                                  rfl
                                                refine pure_ (i := 8) (N := some 118) (v := ?_) (a' := ?_) #[true, true, true, true, true, true, true, true, true, false, false, false] rfl rfl (any_of HT_.out (by kernel_rfl)) (fun _ _ _ h => h) (Or.inl ⟨by rfl, ?_⟩) ?_ ?_
                                                rotate_left
                                                · intro w'
                                                  go_simp
                                                  with_reducible rfl
                                                rotate_left
                                                · simp only [Act.put, List.setIfInBounds_toArray, List.set_cons_zero, List.set_cons_succ, i64_w, i32_w]
                                                  rfl
                                                refine pure_ (i := 9) (N := some 119) (v := ?_) (a' := ?_) #[true, true, true, true, true, true, true, true, true, true, false, false] rfl rfl (any_of HT_.out (by kernel_rfl)) (fun _ _ _ h => h) (Or.inl ⟨by rfl, ?_⟩) ?_ ?_
                                                rotate_left
                                                · intro w'
                                                  go_simp
                                                  with_reducible rfl
                                                rotate_left
                                                · simp only [Act.put, List.setIfInBounds_toArray, List.set_cons_zero, List.set_cons_succ, i64_w, i32_w]
                                                  rfl
                                                refine pure_ (i := 10) (N := some 22) (v := ?_) (a' := ?_) #[true, true, true, true, true, true, true, true, true, true, true, false] rfl rfl (any_of HT_.out (by kernel_rfl)) (fun _ _ _ h => h) (Or.inl ⟨by rfl, ?_⟩) ?_ ?_
                                                rotate_left
                                                · intro w'
                                                  go_simp
                                                  with_reducible rfl
                                                rotate_left
                                                · simp only [Act.put, List.setIfInBounds_toArray, List.set_cons_zero, List.set_cons_succ, i64_w, i32_w]
                                                  rfl
                                                refine pure_ (i := 11) (N := some 23) (v := ?_) (a' := ?_) #[true, true, true, true, true, true, true, true, true, true, true, true] rfl rfl (any_of HT_.out (by kernel_rfl)) (fun _ _ _ h => h) (Or.inl ⟨by rfl, ?_⟩) ?_ ?_
                                                rotate_left
                                                · intro w'
                                                  go_simp
                                                  with_reducible rfl
                                                rotate_left
                                                · simp only [Act.put, List.setIfInBounds_toArray, List.set_cons_zero, List.set_cons_succ, i64_w, i32_w]
                                                  rfl
                                                refine done_ (done_of HT_.out (by kernel_rfl)) ?_
                                                try go_wp2
                                                go_roundg k5
                                                case measure => have := HJ8.out; have := HK2.out; have := HK3.out; have := HJ37.out; have := HK5.out; omega
                                                case rel => exact ⟨(x19_5), (wrap64 (x106_5 + 1)), (by first | rfl | (simp; done) | (simp [*]; done)), (by first | rfl | (simp; done) | (simp [*]; done)), H', ⟨by have := HJ8.out; have := HK2.out; have := HK3.out; have := HJ37.out; have := HK5.out; omega⟩, ⟨by (with_reducible repeat (first | apply Kd.R_alloc | apply Kd.R_drewN | apply Kd.R_drew)); exact Kd.R_mono HO_6.out (fun _ hk => ⟨hk.1, ⟨hk.2.1, hk.2.2.1⟩⟩)⟩, ⟨by (with_reducible repeat (first | apply Kd.R_alloc | apply Kd.R_drewN | apply Kd.R_drew)); exact Kd.R_mono HO_8.out (fun _ hk => ⟨hk.1, ⟨hk.2.1, hk.2.2.1⟩⟩)⟩, ⟨by (with_reducible repeat (first | apply Kd.R_alloc | apply Kd.R_drewN | apply Kd.R_drew)); exact HO_17.out⟩, ⟨by (with_reducible repeat (first | apply Kd.R_alloc | apply Kd.R_drewN | apply Kd.R_drew)); exact Kd.R_mono HO_85.out (fun _ hk => ⟨hk.1, ⟨hk.2.1, hk.2.2.1⟩⟩)⟩, ⟨by (with_reducible repeat (first | apply Kd.R_alloc | apply Kd.R_drewN | apply Kd.R_drew)); exact Kd.R_mono HO_104.out (fun _ hk => ⟨hk.1, ⟨hk.2.1, hk.2.2.1⟩⟩)⟩, ⟨by (with_reducible repeat (first | refine blk_drewN ?_ _ | refine blk_drew ?_ | refine blk_alloc ?_ _)); exact BK710.out⟩, ⟨by repeat (first | (with_reducible first | exact HB.out | apply below_alloc | apply pw_below_drewN | apply below_drew1 | refine below_set ?_ GE710.out | refine below_set ?_ GE716.out) | exact HB.out)⟩⟩
                                            · rw [if_neg c48] at H
                                              exact absurd H (by simp)
                                          · rw [if_neg c47] at H
                                            exact absurd H (by simp)
                                        · rw [if_neg c46] at H
                                          exact absurd H (by simp)
                                      · rw [if_neg c45] at H
                                        have c45b0 : decide (x106_5 < (t696.length : Int)) = false := decide_eq_false c45
                                        clear c45
                                        by_cases c73 : x19_5 = 1
                                        · rw [if_pos c73] at H
                                          have c73b0 : (x19_5 == 1) = true := beq_iff_eq.mpr c73
                                          have c73b1 : (x19_5 != 1) = false := bne_eq_false_iff_eq.mpr c73
                                          clear c73
                                          have H' := Aside0.mk H
                                          clear H
                                          go_wp2
                                          go_roundg k5
                                          case measure => have := HJ8.out; have := HK2.out; have := HK3.out; have := HJ37.out; have := HK5.out; omega
                                          case rel => exact ⟨(wrap64 (x87_3 + 1)), (by first | rfl | (simp; done) | (simp [*]; done)), H', ⟨by have := HJ8.out; have := HK2.out; have := HK3.out; have := HJ37.out; have := HK5.out; omega⟩, ⟨by (with_reducible repeat (first | apply Kd.R_alloc | apply Kd.R_drewN | apply Kd.R_drew)); exact Kd.R_mono HO_6.out (fun _ hk => ⟨hk.1, hk.2.1⟩)⟩, ⟨by (with_reducible repeat (first | apply Kd.R_alloc | apply Kd.R_drewN | apply Kd.R_drew)); exact Kd.R_mono HO_8.out (fun _ hk => hk.1)⟩, ⟨by (with_reducible repeat (first | apply Kd.R_alloc | apply Kd.R_drewN | apply Kd.R_drew)); exact Kd.R_mono HO_85.out (fun _ hk => hk.1)⟩, ⟨by repeat (first | (with_reducible first | exact HB.out | apply below_alloc | apply pw_below_drewN | apply below_drew1 | refine below_set ?_ GE710.out) | exact HB.out)⟩⟩
                                        · rw [if_neg c73] at H
                                          have c73b0 : (x19_5 == 1) = false := beq_eq_false_iff_ne.mpr c73
                                          have c73b1 : (x19_5 != 1) = true := bne_iff_ne.mpr c73
                                          exact absurd ((Option.some.inj H).trans hT.out) Bool.false_ne_true
                          · rw [if_neg c36] at H
                            exact absurd H (by simp)
                        · rw [if_neg c35] at H
                          exact absurd H (by simp)
                      · rw [if_neg c34] at H
                        have c34b0 : decide (x87_3 < (t700.length : Int)) = false := decide_eq_false c34
                        clear c34
                        by_cases c74 : t695 = true
                        · subst c74
                          have H1 : ((medlarref08_Same.f k3 t700 t696).bind fun t708 => (some (x10_2 == t708))) = some r := by rw [if_pos rfl] at H; exact H
                          clear H
                          have H := H1
                          clear H1
                          replace H := Option.bind_eq_some_iff.mp H
                          obtain ⟨t708, A750, H⟩ := H
                          replace H : (some (x10_2 == t708)) = some r := H
                          have A75 := Aside0.mk A750
                          clear A750
                          obtain rfl := Option.some.inj H
                          go_wp2_with (first | (go_at_call 19; (with_reducible refine (medlarref08_Same.calls k3 _ _ t700 _ _ t696 t708 _ ?side1 ?side2 ?side3 ?side4 A75.out).mono ?_); (case side1 => repeat (first | exact (Kd.R_reads' HO_8.out).2.2 | (with_reducible refine Kd.C_alloc ?_ _) | (with_reducible refine Kd.C_drewN ?_ _) | (with_reducible refine Kd.C_drew ?_))); (case side2 => exact (Kd.R_reads' HO_8.out).2.1); (case side3 => repeat (first | exact (Kd.R_reads' HO_6.out).2.2 | (with_reducible refine Kd.C_alloc ?_ _) | (with_reducible refine Kd.C_drewN ?_ _) | (with_reducible refine Kd.C_drew ?_))); (case side4 => exact (Kd.R_reads' HO_6.out).2.1); rintro e w' ⟨rfl, ⟨nd, rfl⟩⟩))
                          go_ret
                          exact ⟨by first | rfl | (simp [errW_none, errW_some] <;> rfl) | (simp [*, errW_none, errW_some] <;> rfl), by repeat (first | (with_reducible first | exact HB.out | apply below_alloc | apply pw_below_drewN | apply below_drew1) | exact HB.out)⟩
                        · replace c74 := Bool.eq_false_iff.mpr c74
                          subst c74
                          have H1 : (some false) = some r := by rw [if_neg (show ¬ (false = true) by decide)] at H; exact H
                          clear H
                          have H := H1
                          clear H1
                          exact absurd ((Option.some.inj H).trans hT.out) Bool.false_ne_true
    · rw [if_neg c8] at H
      have c8b0 : (t697 == 0) = false := beq_eq_false_iff_ne.mpr c8
      have c8b1 : (t697 != 0) = true := bne_iff_ne.mpr c8
      by_cases c76 : t695 = true
      · subst c76
        have H1 : (some (t701 == t697)) = some r := by rw [if_pos rfl] at H; exact H
        clear H
        have H := H1
        clear H1
        obtain rfl := Option.some.inj H
        go_enter Try.func11, Try.ntmps11
        go_wp2_with (first | ((with_reducible refine gate_callee (f := 30) rfl ?_); refine goesL_ (some 24) rfl rfl Try.func30 (by kernel_rfl) rfl #[] rfl (by (try simp only [List.map_toArray, List.map_cons, List.map_nil]); first | done | rfl | (simp only [List.length_drop, List.length_take]; rfl)) ?_; (with_reducible refine (medlarlaw12_live.calls k  true _ A3.out).mono ?_); rintro e w77 ⟨rfl, hb⟩; refine ⟨_, rfl, ?_⟩; have n0_ := Aside0.mk (below_step (by repeat (first | (with_reducible first | exact HB.out | apply below_alloc | apply pw_below_drewN | apply below_drew1) | exact HB.out)) hb); clear HB; have HB := n0_; clear n0_; (try clear hb); (try clear hb2); (try clear hk); (try clear hi)) | ((with_reducible refine gate_callee (f := 35) rfl ?_); refine goesL_ (some 32) rfl rfl Try.func35 (by kernel_rfl) rfl #[.int .i64 a0, .int .i64 2, .slice A1 l1.length c1] rfl (by (try simp only [List.map_toArray, List.map_cons, List.map_nil]); first | done | rfl | (simp only [List.length_drop, List.length_take]; rfl)) ?_; (with_reducible refine (layer_Cover.calls k a0 2 _ _ l1 t696 t697 _ ?side1 ?side2 A6.out).mono ?_); (case side1 => repeat (first | exact (Kd.C_below HR1.out HB.out) | (with_reducible refine Kd.C_alloc ?_ _) | (with_reducible refine Kd.C_drewN ?_ _) | (with_reducible refine Kd.C_drew ?_))); (case side2 => exact HC1.out); rintro e w78 ⟨v698, rfl, ho0, hb⟩; refine ⟨_, rfl, ?_⟩; have n0_ := Aside0.mk (Kd.R_lower ho0 (below_size (by repeat (first | (with_reducible first | exact HB.out | apply below_alloc | apply pw_below_drewN | apply below_drew1) | exact HB.out)))); have n1_ := Aside0.mk (below_step (by repeat (first | (with_reducible first | exact HB.out | apply below_alloc | apply pw_below_drewN | apply below_drew1) | exact HB.out)) hb); clear HB; have HO699 := n0_; have HB := n1_; clear n0_ n1_; (try clear hb); (try clear hb2); (try clear hk); (try clear hi); (try clear ho0)) | ((with_reducible refine gate_callee (f := 35) rfl ?_); refine goesL_ (some 38) rfl rfl Try.func35 (by kernel_rfl) rfl #[.int .i64 a0, .int .i64 3, .slice A1 l1.length c1] rfl (by (try simp only [List.map_toArray, List.map_cons, List.map_nil]); first | done | rfl | (simp only [List.length_drop, List.length_take]; rfl)) ?_; (with_reducible refine (layer_Cover.calls k a0 3 _ _ l1 t700 t701 _ ?side1 ?side2 A7.out).mono ?_); (case side1 => repeat (first | exact (Kd.C_below HR1.out HB.out) | (with_reducible refine Kd.C_alloc ?_ _) | (with_reducible refine Kd.C_drewN ?_ _) | (with_reducible refine Kd.C_drew ?_))); (case side2 => exact HC1.out); rintro e w79 ⟨v702, rfl, ho0, hb⟩; refine ⟨_, rfl, ?_⟩; have n0_ := Aside0.mk (Kd.R_elder' (by (with_reducible repeat (first | apply Kd.R_alloc | apply Kd.R_drewN | apply Kd.R_drew)); exact HO699.out) (Kd.R_base ho0) hb); have n1_ := Aside0.mk (Kd.R_lower (Kd.R_new' ho0 (Kd.R_lt (by (with_reducible repeat (first | apply Kd.R_alloc | apply Kd.R_drewN | apply Kd.R_drew)); exact HO699.out))) (below_size (by repeat (first | (with_reducible first | exact HB.out | apply below_alloc | apply pw_below_drewN | apply below_drew1) | exact HB.out)))); have n2_ := Aside0.mk (below_step (by repeat (first | (with_reducible first | exact HB.out | apply below_alloc | apply pw_below_drewN | apply below_drew1) | exact HB.out)) hb); clear HO699; clear HB; have HO699 := n0_; have HO703 := n1_; have HB := n2_; clear n0_ n1_ n2_; (try clear hb); (try clear hb2); (try clear hk); (try clear hi); (try clear ho0)))
        go_ret
        exact ⟨by first | rfl | (simp [errW_none, errW_some] <;> rfl) | (simp [*, errW_none, errW_some] <;> rfl), by repeat (first | (with_reducible first | exact HB.out | apply below_alloc | apply pw_below_drewN | apply below_drew1) | exact HB.out)⟩
      · replace c76 := Bool.eq_false_iff.mpr c76
        subst c76
        have H1 : (some false) = some r := by rw [if_neg (show ¬ (false = true) by decide)] at H; exact H
        clear H
        have H := H1
        clear H1
        exact absurd ((Option.some.inj H).trans hT.out) Bool.false_ne_true

/-- THE ONE PURE STATEMENT of medlarlaw12_LayerParts: yours. -/
def medlarlaw12_LayerParts.Pure : Prop := ∀ (a0 : Int) (l1 : List Int), (Lit.int .i64 a0).wf = true → l1.length ≤ maxLen → l1.length * 8 ≤ 140737488351232 → (∀ x ∈ l1, (Lit.int .u64 x).wf = true) → ∃ k, medlarlaw12_LayerParts.f k a0 l1 = some true
theorem medlarlaw12_LayerParts.walk (P : medlarlaw12_LayerParts.Pure) (a0 : Int) (a1 : Option Addr) (len1 cap1 : Nat) (z1 : List Int) (w : World) (w0 : (Lit.int .i64 a0).wf = true) (w1 : (a1 = none ∧ len1 = 0 ∧ cap1 = 0 ∧ z1 = []) ∨ ∃ x, a1 = some x ∧ len1 ≤ cap1 ∧ cap1 ≤ maxLen ∧ z1.length = cap1 ∧ (∀ i, i < z1.length → w.cell? (x.add i) = some (.int .u64 (z1.getD i 0))) ∧ ∀ n ∈ z1, (Lit.int .u64 n).wf = true) (y1 : len1 * 8 ≤ 140737488351232) :
    Calls Try.prog 11 #[.int .i64 a0, .slice a1 len1 cap1] w fun e w' => e = .returned (.bool true) ∧ Below w.heap.size w w' := by
  obtain ⟨l1, rfl, hr1, hm1, hw1, hc1⟩ := ReadsInt.ofRowC w1
  obtain ⟨k, h⟩ := P a0 l1 w0 hm1 y1 hw1
  refine (medlarlaw12_LayerParts.calls k a0 _ _ l1 true w (Kd.C_of_reads (d := (0 : Int)) (h1 := fun _ => rfl) hr1) hc1 h ⟨rfl⟩).mono ?_
  rintro e w' ⟨rfl, hd⟩
  exact ⟨rfl, hd⟩

end Go.Proofs.Ytmffkfakcbopcaa.MP
