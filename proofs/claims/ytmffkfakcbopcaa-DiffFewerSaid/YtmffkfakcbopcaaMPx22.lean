-- written by a program of this session (wip/tools/mprint.sh) for this seat
import Derived.Test.YtmffkfakcbopcaaMPx0
import Derived.Test.YtmffkfakcbopcaaMPx3
import Derived.Test.YtmffkfakcbopcaaMPx5
import Derived.Test.YtmffkfakcbopcaaMPx10
import Derived.Test.YtmffkfakcbopcaaMPx17
import Derived.Test.YtmffkfakcbopcaaMPx21
namespace Go.Proofs.Ytmffkfakcbopcaa.MP
open Go.RowKit Go.Proofs.YtmffkfakcbopcaaW.PrintWords Go.Proofs.YtmffkfakcbopcaaW.PrintLast Go.Proofs.YtmffkfakcbopcaaW.PrintMore
attribute [local go_sem] max2_int min2_int max_two min_two max_three min_three max_four min_four   -- for this text's walks alone
set_option linter.unusedVariables false
set_option linter.unusedSimpArgs false

/-! ### medlarlaw11_DiffFewer: function 7 -/
mutual
def medlarlaw11_DiffFewer.j0 : Nat → Int → Bool → List (S34) → List (S34) → Bool → Option (Bool)
  | 0, _, _, _, _, _ => none
  | k + 1, x0, x5, x6, x8, x64 => if x64 = true then (some false) else (medlarlaw11_DiffFewer.l0 k x0 x5 x6 x8 (x8.length : Int) 0)
def medlarlaw11_DiffFewer.l0 : Nat → Int → Bool → List (S34) → List (S34) → Int → Int → Option (Bool)
  | 0, _, _, _, _, _, _ => none
  | k + 1, x0, x5, x6, x65, x66, x67 => if x67 < x66 then (if 0 ≤ x67 then (if x67 < (x65.length : Int) then ((sub_Leaves.f k x0 ((rd_T34 x65 x67).f0) ((rd_T34 x65 x67).f1)).bind fun bt569 => (if bt569.2 = 0 then (medlarlaw11_DiffFewer.j2 k x0 x5 x6 bt569.1 x65 x66 x67 ((bt569.1.length : Int) != 1)) else (medlarlaw11_DiffFewer.j2 k x0 x5 x6 bt569.1 x65 x66 x67 true))) else (none)) else (none)) else (some x5)
def medlarlaw11_DiffFewer.j2 : Nat → Int → Bool → List (S34) → List (S52) → List (S34) → Int → Int → Bool → Option (Bool)
  | 0, _, _, _, _, _, _, _, _ => none
  | k + 1, x0, x5, x6, x12, x65, x66, x67, x83 => if x83 = true then (some false) else (medlarlaw11_DiffFewer.l1 k x0 x5 x6 x12 0 x65 x66 x67 x6 (x6.length : Int) 0)
def medlarlaw11_DiffFewer.l1 : Nat → Int → Bool → List (S34) → List (S52) → Int → List (S34) → Int → Int → List (S34) → Int → Int → Option (Bool)
  | 0, _, _, _, _, _, _, _, _, _, _, _ => none
  | k + 1, x0, x5, x6, x12, x14, x65, x66, x67, x84, x85, x86 => if x86 < x85 then (if 0 ≤ x86 then (if x86 < (x84.length : Int) then (if 0 < (x12.length : Int) then ((sub_Has.f k x0 ((rd_T34 x84 x86).f0) ((rd_T34 x84 x86).f1) ((rd_T52 x12 0).f0)).bind fun bt576 => ((sub_Has.f k x0 ((rd_T34 x84 x86).f0) ((rd_T34 x84 x86).f1) ((rd_T52 x12 0).f1)).bind fun bt579 => (if bt576.2 = 0 then (if bt579.2 = 0 then (medlarlaw11_DiffFewer.j4 k x0 x5 x6 x12 x14 bt576.1 x65 x66 x67 x84 x85 x86 (bt576.1 != bt579.1)) else (medlarlaw11_DiffFewer.j4 k x0 x5 x6 x12 x14 bt576.1 x65 x66 x67 x84 x85 x86 true)) else (medlarlaw11_DiffFewer.j4 k x0 x5 x6 x12 x14 bt576.1 x65 x66 x67 x84 x85 x86 true)))) else (none)) else (none)) else (none)) else (if x14 = 1 then (medlarlaw11_DiffFewer.l0 k x0 x5 x6 x65 x66 (wrap64 (x67 + 1))) else (some false))
def medlarlaw11_DiffFewer.j4 : Nat → Int → Bool → List (S34) → List (S52) → Int → Bool → List (S34) → Int → Int → List (S34) → Int → Int → Bool → Option (Bool)
  | 0, _, _, _, _, _, _, _, _, _, _, _, _, _ => none
  | k + 1, x0, x5, x6, x12, x14, x17, x65, x66, x67, x84, x85, x86, x120 => if x120 = true then (some false) else (if x17 = true then (medlarlaw11_DiffFewer.l1 k x0 x5 x6 x12 (wrap64 (x14 + 1)) x65 x66 x67 x84 x85 (wrap64 (x86 + 1))) else (medlarlaw11_DiffFewer.l1 k x0 x5 x6 x12 x14 x65 x66 x67 x84 x85 (wrap64 (x86 + 1))))
end
def medlarlaw11_DiffFewer.f (k : Nat) (a0 : Int) (l1 : List Int) : Option (Bool) := (medlarlaw11_live.f k).bind fun t558 => (if (l1.length : Int) > 30 then (some t558) else ((diff_Cover.f k a0 l1).bind fun bt559 => ((whole_Cover.f k a0 l1).bind fun bt563 => (if bt559.2 = 0 then (if bt563.2 = 0 then (if (bt559.1.length : Int) > (bt563.1.length : Int) then (medlarlaw11_DiffFewer.j0 k a0 t558 bt559.1 bt563.1 true) else (if (l1.length : Int) = 1 then (medlarlaw11_DiffFewer.j0 k a0 t558 bt559.1 bt563.1 ((bt559.1.length : Int) != 1)) else (medlarlaw11_DiffFewer.j0 k a0 t558 bt559.1 bt563.1 false))) else (medlarlaw11_DiffFewer.j0 k a0 t558 bt559.1 bt563.1 true)) else (if t558 = true then (some (bt559.2 == bt563.2)) else (some false))))))
theorem medlarlaw11_DiffFewer.mono_l : ∀ k, (∀ y0 y1 y2 y3 y4, LeO (medlarlaw11_DiffFewer.j0 k y0 y1 y2 y3 y4) (medlarlaw11_DiffFewer.j0 (k + 1) y0 y1 y2 y3 y4)) ∧ (∀ y0 y1 y2 y3 y4 y5, LeO (medlarlaw11_DiffFewer.l0 k y0 y1 y2 y3 y4 y5) (medlarlaw11_DiffFewer.l0 (k + 1) y0 y1 y2 y3 y4 y5)) ∧ (∀ y0 y1 y2 y3 y4 y5 y6 y7, LeO (medlarlaw11_DiffFewer.j2 k y0 y1 y2 y3 y4 y5 y6 y7) (medlarlaw11_DiffFewer.j2 (k + 1) y0 y1 y2 y3 y4 y5 y6 y7)) ∧ (∀ y0 y1 y2 y3 y4 y5 y6 y7 y8 y9 y10, LeO (medlarlaw11_DiffFewer.l1 k y0 y1 y2 y3 y4 y5 y6 y7 y8 y9 y10) (medlarlaw11_DiffFewer.l1 (k + 1) y0 y1 y2 y3 y4 y5 y6 y7 y8 y9 y10)) ∧ (∀ y0 y1 y2 y3 y4 y5 y6 y7 y8 y9 y10 y11 y12, LeO (medlarlaw11_DiffFewer.j4 k y0 y1 y2 y3 y4 y5 y6 y7 y8 y9 y10 y11 y12) (medlarlaw11_DiffFewer.j4 (k + 1) y0 y1 y2 y3 y4 y5 y6 y7 y8 y9 y10 y11 y12))
  | 0 => ⟨fun _ _ _ _ _ r h => by simp [medlarlaw11_DiffFewer.j0] at h, fun _ _ _ _ _ _ r h => by simp [medlarlaw11_DiffFewer.l0] at h, fun _ _ _ _ _ _ _ _ r h => by simp [medlarlaw11_DiffFewer.j2] at h, fun _ _ _ _ _ _ _ _ _ _ _ r h => by simp [medlarlaw11_DiffFewer.l1] at h, fun _ _ _ _ _ _ _ _ _ _ _ _ _ r h => by simp [medlarlaw11_DiffFewer.j4] at h⟩
  | k + 1 => by
    obtain ⟨ih0, ih1, ih2, ih3, ih4⟩ := medlarlaw11_DiffFewer.mono_l k
    refine ⟨?_, ?_, ?_, ?_, ?_⟩
    · intro y0 y1 y2 y3 y4
      unfold medlarlaw11_DiffFewer.j0
      repeat' first
      | (with_reducible exact ih0 _ _ _ _ _)
      | (with_reducible exact ih1 _ _ _ _ _ _)
      | (with_reducible exact ih2 _ _ _ _ _ _ _ _)
      | (with_reducible exact ih3 _ _ _ _ _ _ _ _ _ _ _)
      | (with_reducible exact ih4 _ _ _ _ _ _ _ _ _ _ _ _ _)
      | (with_reducible exact diff_Cover.mono _ _ _)
      | (with_reducible exact medlarlaw11_live.mono _)
      | (with_reducible exact sub_Has.mono _ _ _ _ _)
      | (with_reducible exact sub_Leaves.mono _ _ _ _)
      | (with_reducible exact whole_Cover.mono _ _ _)
      | (with_reducible exact LeO.refl _)
      | (with_reducible exact LeO.none _)
      | (with_reducible refine LeO.ite ?_ ?_)
      | (with_reducible refine LeO.bind ?_ (fun _ => ?_))
      | exact ih0 _ _ _ _ _
      | exact ih1 _ _ _ _ _ _
      | exact ih2 _ _ _ _ _ _ _ _
      | exact ih3 _ _ _ _ _ _ _ _ _ _ _
      | exact ih4 _ _ _ _ _ _ _ _ _ _ _ _ _
      | exact diff_Cover.mono _ _ _
      | exact medlarlaw11_live.mono _
      | exact sub_Has.mono _ _ _ _ _
      | exact sub_Leaves.mono _ _ _ _
      | exact whole_Cover.mono _ _ _
      | exact LeO.none _
      | refine LeO.ite ?_ ?_
      | refine LeO.bind ?_ (fun _ => ?_)
    · intro y0 y1 y2 y3 y4 y5
      unfold medlarlaw11_DiffFewer.l0
      repeat' first
      | (with_reducible exact ih0 _ _ _ _ _)
      | (with_reducible exact ih1 _ _ _ _ _ _)
      | (with_reducible exact ih2 _ _ _ _ _ _ _ _)
      | (with_reducible exact ih3 _ _ _ _ _ _ _ _ _ _ _)
      | (with_reducible exact ih4 _ _ _ _ _ _ _ _ _ _ _ _ _)
      | (with_reducible exact diff_Cover.mono _ _ _)
      | (with_reducible exact medlarlaw11_live.mono _)
      | (with_reducible exact sub_Has.mono _ _ _ _ _)
      | (with_reducible exact sub_Leaves.mono _ _ _ _)
      | (with_reducible exact whole_Cover.mono _ _ _)
      | (with_reducible exact LeO.refl _)
      | (with_reducible exact LeO.none _)
      | (with_reducible refine LeO.ite ?_ ?_)
      | (with_reducible refine LeO.bind ?_ (fun _ => ?_))
      | exact ih0 _ _ _ _ _
      | exact ih1 _ _ _ _ _ _
      | exact ih2 _ _ _ _ _ _ _ _
      | exact ih3 _ _ _ _ _ _ _ _ _ _ _
      | exact ih4 _ _ _ _ _ _ _ _ _ _ _ _ _
      | exact diff_Cover.mono _ _ _
      | exact medlarlaw11_live.mono _
      | exact sub_Has.mono _ _ _ _ _
      | exact sub_Leaves.mono _ _ _ _
      | exact whole_Cover.mono _ _ _
      | exact LeO.none _
      | refine LeO.ite ?_ ?_
      | refine LeO.bind ?_ (fun _ => ?_)
    · intro y0 y1 y2 y3 y4 y5 y6 y7
      unfold medlarlaw11_DiffFewer.j2
      repeat' first
      | (with_reducible exact ih0 _ _ _ _ _)
      | (with_reducible exact ih1 _ _ _ _ _ _)
      | (with_reducible exact ih2 _ _ _ _ _ _ _ _)
      | (with_reducible exact ih3 _ _ _ _ _ _ _ _ _ _ _)
      | (with_reducible exact ih4 _ _ _ _ _ _ _ _ _ _ _ _ _)
      | (with_reducible exact diff_Cover.mono _ _ _)
      | (with_reducible exact medlarlaw11_live.mono _)
      | (with_reducible exact sub_Has.mono _ _ _ _ _)
      | (with_reducible exact sub_Leaves.mono _ _ _ _)
      | (with_reducible exact whole_Cover.mono _ _ _)
      | (with_reducible exact LeO.refl _)
      | (with_reducible exact LeO.none _)
      | (with_reducible refine LeO.ite ?_ ?_)
      | (with_reducible refine LeO.bind ?_ (fun _ => ?_))
      | exact ih0 _ _ _ _ _
      | exact ih1 _ _ _ _ _ _
      | exact ih2 _ _ _ _ _ _ _ _
      | exact ih3 _ _ _ _ _ _ _ _ _ _ _
      | exact ih4 _ _ _ _ _ _ _ _ _ _ _ _ _
      | exact diff_Cover.mono _ _ _
      | exact medlarlaw11_live.mono _
      | exact sub_Has.mono _ _ _ _ _
      | exact sub_Leaves.mono _ _ _ _
      | exact whole_Cover.mono _ _ _
      | exact LeO.none _
      | refine LeO.ite ?_ ?_
      | refine LeO.bind ?_ (fun _ => ?_)
    · intro y0 y1 y2 y3 y4 y5 y6 y7 y8 y9 y10
      unfold medlarlaw11_DiffFewer.l1
      repeat' first
      | (with_reducible exact ih0 _ _ _ _ _)
      | (with_reducible exact ih1 _ _ _ _ _ _)
      | (with_reducible exact ih2 _ _ _ _ _ _ _ _)
      | (with_reducible exact ih3 _ _ _ _ _ _ _ _ _ _ _)
      | (with_reducible exact ih4 _ _ _ _ _ _ _ _ _ _ _ _ _)
      | (with_reducible exact diff_Cover.mono _ _ _)
      | (with_reducible exact medlarlaw11_live.mono _)
      | (with_reducible exact sub_Has.mono _ _ _ _ _)
      | (with_reducible exact sub_Leaves.mono _ _ _ _)
      | (with_reducible exact whole_Cover.mono _ _ _)
      | (with_reducible exact LeO.refl _)
      | (with_reducible exact LeO.none _)
      | (with_reducible refine LeO.ite ?_ ?_)
      | (with_reducible refine LeO.bind ?_ (fun _ => ?_))
      | exact ih0 _ _ _ _ _
      | exact ih1 _ _ _ _ _ _
      | exact ih2 _ _ _ _ _ _ _ _
      | exact ih3 _ _ _ _ _ _ _ _ _ _ _
      | exact ih4 _ _ _ _ _ _ _ _ _ _ _ _ _
      | exact diff_Cover.mono _ _ _
      | exact medlarlaw11_live.mono _
      | exact sub_Has.mono _ _ _ _ _
      | exact sub_Leaves.mono _ _ _ _
      | exact whole_Cover.mono _ _ _
      | exact LeO.none _
      | refine LeO.ite ?_ ?_
      | refine LeO.bind ?_ (fun _ => ?_)
    · intro y0 y1 y2 y3 y4 y5 y6 y7 y8 y9 y10 y11 y12
      unfold medlarlaw11_DiffFewer.j4
      repeat' first
      | (with_reducible exact ih0 _ _ _ _ _)
      | (with_reducible exact ih1 _ _ _ _ _ _)
      | (with_reducible exact ih2 _ _ _ _ _ _ _ _)
      | (with_reducible exact ih3 _ _ _ _ _ _ _ _ _ _ _)
      | (with_reducible exact ih4 _ _ _ _ _ _ _ _ _ _ _ _ _)
      | (with_reducible exact diff_Cover.mono _ _ _)
      | (with_reducible exact medlarlaw11_live.mono _)
      | (with_reducible exact sub_Has.mono _ _ _ _ _)
      | (with_reducible exact sub_Leaves.mono _ _ _ _)
      | (with_reducible exact whole_Cover.mono _ _ _)
      | (with_reducible exact LeO.refl _)
      | (with_reducible exact LeO.none _)
      | (with_reducible refine LeO.ite ?_ ?_)
      | (with_reducible refine LeO.bind ?_ (fun _ => ?_))
      | exact ih0 _ _ _ _ _
      | exact ih1 _ _ _ _ _ _
      | exact ih2 _ _ _ _ _ _ _ _
      | exact ih3 _ _ _ _ _ _ _ _ _ _ _
      | exact ih4 _ _ _ _ _ _ _ _ _ _ _ _ _
      | exact diff_Cover.mono _ _ _
      | exact medlarlaw11_live.mono _
      | exact sub_Has.mono _ _ _ _ _
      | exact sub_Leaves.mono _ _ _ _
      | exact whole_Cover.mono _ _ _
      | exact LeO.none _
      | refine LeO.ite ?_ ?_
      | refine LeO.bind ?_ (fun _ => ?_)
theorem medlarlaw11_DiffFewer.mono : ∀ a0 a1 k, LeO (medlarlaw11_DiffFewer.f k a0 a1) (medlarlaw11_DiffFewer.f (k + 1) a0 a1) := by
  intro a0 a1 k
  obtain ⟨ih0, ih1, ih2, ih3, ih4⟩ := medlarlaw11_DiffFewer.mono_l k
  unfold medlarlaw11_DiffFewer.f
  repeat' first
      | (with_reducible exact ih0 _ _ _ _ _)
      | (with_reducible exact ih1 _ _ _ _ _ _)
      | (with_reducible exact ih2 _ _ _ _ _ _ _ _)
      | (with_reducible exact ih3 _ _ _ _ _ _ _ _ _ _ _)
      | (with_reducible exact ih4 _ _ _ _ _ _ _ _ _ _ _ _ _)
      | (with_reducible exact diff_Cover.mono _ _ _)
      | (with_reducible exact medlarlaw11_live.mono _)
      | (with_reducible exact sub_Has.mono _ _ _ _ _)
      | (with_reducible exact sub_Leaves.mono _ _ _ _)
      | (with_reducible exact whole_Cover.mono _ _ _)
      | (with_reducible exact LeO.refl _)
      | (with_reducible exact LeO.none _)
      | (with_reducible refine LeO.ite ?_ ?_)
      | (with_reducible refine LeO.bind ?_ (fun _ => ?_))
      | exact ih0 _ _ _ _ _
      | exact ih1 _ _ _ _ _ _
      | exact ih2 _ _ _ _ _ _ _ _
      | exact ih3 _ _ _ _ _ _ _ _ _ _ _
      | exact ih4 _ _ _ _ _ _ _ _ _ _ _ _ _
      | exact diff_Cover.mono _ _ _
      | exact medlarlaw11_live.mono _
      | exact sub_Has.mono _ _ _ _ _
      | exact sub_Leaves.mono _ _ _ _
      | exact whole_Cover.mono _ _ _
      | exact LeO.none _
      | refine LeO.ite ?_ ?_
      | refine LeO.bind ?_ (fun _ => ?_)
def medlarlaw11_DiffFewer.T20 : Bool × List (List Nat × List Nat) := (true, [([], []), ([], []), ([], []), ([2], [2]), ([3], [3]), ([4], [4]), ([0, 1, 5], [0, 1, 5]), ([6], [6]), ([7], [7]), ([7], [7]), ([8, 6, 0, 1, 2, 3, 4, 5, 6, 7, 8], [8]), ([9, 10, 0, 1, 2, 3, 4, 5, 6, 7, 8, 9, 10], [9])])
def medlarlaw11_DiffFewer.B20 : List Nat := [0, 0, 0, 4, 12, 28, 63, 127, 255, 255, 511, 2047]
theorem medlarlaw11_DiffFewer.tab20 : rtab .any (opsOf Try.f7 20) = medlarlaw11_DiffFewer.T20 := by kernel_rfl
theorem medlarlaw11_DiffFewer.bits20 : waitsOk medlarlaw11_DiffFewer.T20.2 medlarlaw11_DiffFewer.B20 = true := by kernel_rfl
def medlarlaw11_DiffFewer.T21 : Bool × List (List Nat × List Nat) := (true, [([], []), ([], []), ([], []), ([2], [2]), ([3], [3]), ([4], [4]), ([0, 1, 5], [0, 1, 5]), ([6], [6]), ([7], [7]), ([7], [7]), ([8, 6, 0, 1, 2, 3, 4, 5, 6, 7, 8], [8]), ([9, 10, 0, 1, 2, 3, 4, 5, 6, 7, 8, 9, 10], [9])])
def medlarlaw11_DiffFewer.B21 : List Nat := [0, 0, 0, 4, 12, 28, 63, 127, 255, 255, 511, 2047]
theorem medlarlaw11_DiffFewer.tab21 : rtab .any (opsOf Try.f7 21) = medlarlaw11_DiffFewer.T21 := by kernel_rfl
theorem medlarlaw11_DiffFewer.bits21 : waitsOk medlarlaw11_DiffFewer.T21.2 medlarlaw11_DiffFewer.B21 = true := by kernel_rfl
set_option maxHeartbeats 8000000 in
set_option maxRecDepth 100000 in
theorem medlarlaw11_DiffFewer.calls (k : Nat) (a0 : Int) (A1 : Option Addr) (c1 : Nat) (l1 : List Int) (r : Bool) (w : World) (hr1 : Kd.C (Kd.int .u64) w A1 l1.length l1) (hc1 : l1.length ≤ c1) (h : medlarlaw11_DiffFewer.f k a0 l1 = some r) (hT : Aside0 (r = true)) :
    Calls Try.prog 7 #[.int .i64 a0, .slice A1 l1.length c1] w fun e w' => e = .returned (.bool r) ∧ Below w.heap.size w w' := by
  have hu34 := Try.underlying34
  have HR1 := Aside0.mk hr1
  have HC1 := Aside0.mk hc1
  clear hr1 hc1
  have HB := Aside0.mk (Below.refl w.heap.size w)
  have H : ((medlarlaw11_live.f k).bind fun t558 => (if (l1.length : Int) > 30 then (some t558) else ((diff_Cover.f k a0 l1).bind fun bt559 => ((whole_Cover.f k a0 l1).bind fun bt563 => (if bt559.2 = 0 then (if bt563.2 = 0 then (if (bt559.1.length : Int) > (bt563.1.length : Int) then (medlarlaw11_DiffFewer.j0 k a0 t558 bt559.1 bt563.1 true) else (if (l1.length : Int) = 1 then (medlarlaw11_DiffFewer.j0 k a0 t558 bt559.1 bt563.1 ((bt559.1.length : Int) != 1)) else (medlarlaw11_DiffFewer.j0 k a0 t558 bt559.1 bt563.1 false))) else (medlarlaw11_DiffFewer.j0 k a0 t558 bt559.1 bt563.1 true)) else (if t558 = true then (some (bt559.2 == bt563.2)) else (some false))))))) = some r := h
  clear h
  replace H := Option.bind_eq_some_iff.mp H
  obtain ⟨t558, A30, H⟩ := H
  replace H : (if (l1.length : Int) > 30 then (some t558) else ((diff_Cover.f k a0 l1).bind fun bt559 => ((whole_Cover.f k a0 l1).bind fun bt563 => (if bt559.2 = 0 then (if bt563.2 = 0 then (if (bt559.1.length : Int) > (bt563.1.length : Int) then (medlarlaw11_DiffFewer.j0 k a0 t558 bt559.1 bt563.1 true) else (if (l1.length : Int) = 1 then (medlarlaw11_DiffFewer.j0 k a0 t558 bt559.1 bt563.1 ((bt559.1.length : Int) != 1)) else (medlarlaw11_DiffFewer.j0 k a0 t558 bt559.1 bt563.1 false))) else (medlarlaw11_DiffFewer.j0 k a0 t558 bt559.1 bt563.1 true)) else (if t558 = true then (some (bt559.2 == bt563.2)) else (some false)))))) = some r := H
  have A3 := Aside0.mk A30
  clear A30
  by_cases c4 : (l1.length : Int) > 30
  · rw [if_pos c4] at H
    have c4b0 : decide (30 < (l1.length : Int)) = true := decide_eq_true c4
    have c4b1 : decide (30 < l1.length) = true := decide_eq_true (by omega)
    clear c4
    obtain rfl := Option.some.inj H
    go_enter Try.func7, Try.ntmps7
    go_wp2_with (first | ((with_reducible refine gate_callee (f := 14) rfl ?_); refine goesL_ (some 21) rfl rfl Try.func14 (by kernel_rfl) rfl #[] rfl (by (try simp only [List.map_toArray, List.map_cons, List.map_nil]); first | done | rfl | (simp only [List.length_drop, List.length_take]; rfl)) ?_; (with_reducible refine (medlarlaw11_live.calls k  t558 _ A3.out).mono ?_); rintro e w5 ⟨rfl, hb⟩; refine ⟨_, rfl, ?_⟩; have n0_ := Aside0.mk (below_step (by repeat (first | (with_reducible first | exact HB.out | apply below_alloc | apply pw_below_drewN | apply below_drew1) | exact HB.out)) hb); clear HB; have HB := n0_; clear n0_; (try clear hb); (try clear hb2); (try clear hk); (try clear hi)))
    go_ret
    exact ⟨by first | rfl | (simp [errW_none, errW_some] <;> rfl) | (simp [*, errW_none, errW_some] <;> rfl), by repeat (first | (with_reducible first | exact HB.out | apply below_alloc | apply pw_below_drewN | apply below_drew1) | exact HB.out)⟩
  · rw [if_neg c4] at H
    have c4b0 : decide (30 < (l1.length : Int)) = false := decide_eq_false c4
    have c4b1 : decide (30 < l1.length) = false := decide_eq_false (by omega)
    clear c4
    replace H := Option.bind_eq_some_iff.mp H
    obtain ⟨⟨t559, t560⟩, A60, H⟩ := H
    replace H : ((whole_Cover.f k a0 l1).bind fun bt563 => (if t560 = 0 then (if bt563.2 = 0 then (if (t559.length : Int) > (bt563.1.length : Int) then (medlarlaw11_DiffFewer.j0 k a0 t558 t559 bt563.1 true) else (if (l1.length : Int) = 1 then (medlarlaw11_DiffFewer.j0 k a0 t558 t559 bt563.1 ((t559.length : Int) != 1)) else (medlarlaw11_DiffFewer.j0 k a0 t558 t559 bt563.1 false))) else (medlarlaw11_DiffFewer.j0 k a0 t558 t559 bt563.1 true)) else (if t558 = true then (some (t560 == bt563.2)) else (some false)))) = some r := H
    have A6 := Aside0.mk A60
    clear A60
    replace H := Option.bind_eq_some_iff.mp H
    obtain ⟨⟨t563, t564⟩, A70, H⟩ := H
    replace H : (if t560 = 0 then (if t564 = 0 then (if (t559.length : Int) > (t563.length : Int) then (medlarlaw11_DiffFewer.j0 k a0 t558 t559 t563 true) else (if (l1.length : Int) = 1 then (medlarlaw11_DiffFewer.j0 k a0 t558 t559 t563 ((t559.length : Int) != 1)) else (medlarlaw11_DiffFewer.j0 k a0 t558 t559 t563 false))) else (medlarlaw11_DiffFewer.j0 k a0 t558 t559 t563 true)) else (if t558 = true then (some (t560 == t564)) else (some false))) = some r := H
    have A7 := Aside0.mk A70
    clear A70
    by_cases c8 : t560 = 0
    · rw [if_pos c8] at H
      have c8b0 : (t560 == 0) = true := beq_iff_eq.mpr c8
      have c8b1 : (t560 != 0) = false := bne_eq_false_iff_eq.mpr c8
      clear c8
      have HC9 := Aside0.mk H
      clear H
      go_enter Try.func7, Try.ntmps7
      go_upto_region 8 with (first | ((with_reducible refine gate_callee (f := 14) rfl ?_); refine goesL_ (some 21) rfl rfl Try.func14 (by kernel_rfl) rfl #[] rfl (by (try simp only [List.map_toArray, List.map_cons, List.map_nil]); first | done | rfl | (simp only [List.length_drop, List.length_take]; rfl)) ?_; (with_reducible refine (medlarlaw11_live.calls k  t558 _ A3.out).mono ?_); rintro e w10 ⟨rfl, hb⟩; refine ⟨_, rfl, ?_⟩; have n0_ := Aside0.mk (below_step (by repeat (first | (with_reducible first | exact HB.out | apply below_alloc | apply pw_below_drewN | apply below_drew1) | exact HB.out)) hb); clear HB; have HB := n0_; clear n0_; (try clear hb); (try clear hb2); (try clear hk); (try clear hi)) | ((with_reducible refine gate_callee (f := 15) rfl ?_); refine goesL_ (some 29) rfl rfl Try.func15 (by kernel_rfl) rfl #[.int .i64 a0, .slice A1 l1.length c1] rfl (by (try simp only [List.map_toArray, List.map_cons, List.map_nil]); first | done | rfl | (simp only [List.length_drop, List.length_take]; rfl)) ?_; (with_reducible refine (diff_Cover.calls k a0 _ _ l1 t559 t560 _ ?side1 ?side2 A6.out).mono ?_); (case side1 => repeat (first | exact (Kd.C_below HR1.out HB.out) | (with_reducible refine Kd.C_alloc ?_ _) | (with_reducible refine Kd.C_drewN ?_ _) | (with_reducible refine Kd.C_drew ?_))); (case side2 => exact HC1.out); rintro e w11 ⟨v561, rfl, ho0, hb⟩; refine ⟨_, rfl, ?_⟩; have n0_ := Aside0.mk (Kd.R_lower ho0 (below_size (by repeat (first | (with_reducible first | exact HB.out | apply below_alloc | apply pw_below_drewN | apply below_drew1) | exact HB.out)))); have n1_ := Aside0.mk (below_step (by repeat (first | (with_reducible first | exact HB.out | apply below_alloc | apply pw_below_drewN | apply below_drew1) | exact HB.out)) hb); clear HB; have HO562 := n0_; have HB := n1_; clear n0_ n1_; (try clear hb); (try clear hb2); (try clear hk); (try clear hi); (try clear ho0)) | ((with_reducible refine gate_callee (f := 29) rfl ?_); refine goesL_ (some 35) rfl rfl Try.func29 (by kernel_rfl) rfl #[.int .i64 a0, .slice A1 l1.length c1] rfl (by (try simp only [List.map_toArray, List.map_cons, List.map_nil]); first | done | rfl | (simp only [List.length_drop, List.length_take]; rfl)) ?_; (with_reducible refine (whole_Cover.calls k a0 _ _ l1 t563 t564 _ ?side1 ?side2 A7.out).mono ?_); (case side1 => repeat (first | exact (Kd.C_below HR1.out HB.out) | (with_reducible refine Kd.C_alloc ?_ _) | (with_reducible refine Kd.C_drewN ?_ _) | (with_reducible refine Kd.C_drew ?_))); (case side2 => exact HC1.out); rintro e w12 ⟨v565, rfl, ho0, hb⟩; refine ⟨_, rfl, ?_⟩; have n0_ := Aside0.mk (Kd.R_elder' (by (with_reducible repeat (first | apply Kd.R_alloc | apply Kd.R_drewN | apply Kd.R_drew)); exact HO562.out) (Kd.R_base ho0) hb); have n1_ := Aside0.mk (Kd.R_lower (Kd.R_new' ho0 (Kd.R_lt (by (with_reducible repeat (first | apply Kd.R_alloc | apply Kd.R_drewN | apply Kd.R_drew)); exact HO562.out))) (below_size (by repeat (first | (with_reducible first | exact HB.out | apply below_alloc | apply pw_below_drewN | apply below_drew1) | exact HB.out)))); have n2_ := Aside0.mk (below_step (by repeat (first | (with_reducible first | exact HB.out | apply below_alloc | apply pw_below_drewN | apply below_drew1) | exact HB.out)) hb); clear HO562; clear HB; have HO562 := n0_; have HO566 := n1_; have HB := n2_; clear n0_ n1_ n2_; (try clear hb); (try clear hb2); (try clear hk); (try clear hi); (try clear ho0)))
      (try simp only [Act.put, List.setIfInBounds_toArray, List.set_cons_zero, List.set_cons_succ])
      go_cut [64] (fun v64 wc => ∃ (kq : Nat) (x64_8 : Bool), v64 = .bool x64_8 ∧ Aside0 (medlarlaw11_DiffFewer.j0 kq a0 t558 t559 t563 x64_8 = some r) ∧ Aside0 (kq ≤ k) ∧ Aside0 (Kd.R k34 34 wc w.heap.size (fun k_ => some k_ ≠ (v565 : Value).ownBlock) v561 t559) ∧ Aside0 (Kd.R k34 34 wc w.heap.size (fun k_ => some k_ ≠ (v561 : Value).ownBlock) v565 t563) ∧ Aside0 (Below w.heap.size w wc))
      case first =>
        have H := HC9.out
        clear HC9
        by_cases c13 : t564 = 0
        · rw [if_pos c13] at H
          have c13b0 : (t564 == 0) = true := beq_iff_eq.mpr c13
          have c13b1 : (t564 != 0) = false := bne_eq_false_iff_eq.mpr c13
          clear c13
          (first | rw [c13b0] | (simp only [i64_w, i32_w]; rw [c13b0]) | skip)
          by_cases c14 : (t559.length : Int) > (t563.length : Int)
          · rw [if_pos c14] at H
            have c14b0 : decide ((t563.length : Int) < (t559.length : Int)) = true := decide_eq_true c14
            have c14b1 : decide (t563.length < t559.length) = true := decide_eq_true (Int.ofNat_lt.mp c14)
            clear c14
            have H' := Aside0.mk H
            clear H
            obtain ⟨Ao15, co15, eo15⟩ := Kd.R_slice HO562.out
            subst eo15
            obtain ⟨Ao16, co16, eo16⟩ := Kd.R_slice HO566.out
            subst eo16
            go_wp2
            go_meet
            case rel => exact ⟨_, (true), (by first | rfl | (simp; done) | (simp [*]; done)), H', ⟨by first | omega | exact Nat.le_refl _⟩, ⟨by (with_reducible repeat (first | apply Kd.R_alloc | apply Kd.R_drewN | apply Kd.R_drew)); exact Kd.R_mono HO562.out (fun _ hk => hk.2)⟩, ⟨by (with_reducible repeat (first | apply Kd.R_alloc | apply Kd.R_drewN | apply Kd.R_drew)); exact Kd.R_mono HO566.out (fun _ hk => hk.2)⟩, ⟨by repeat (first | (with_reducible first | exact HB.out | apply below_alloc | apply pw_below_drewN | apply below_drew1) | exact HB.out)⟩⟩
          · rw [if_neg c14] at H
            have c14b0 : decide ((t563.length : Int) < (t559.length : Int)) = false := decide_eq_false c14
            have c14b1 : decide (t563.length < t559.length) = false := decide_eq_false (fun h => c14 (Int.ofNat_lt.mpr h))
            clear c14
            by_cases c17 : (l1.length : Int) = 1
            · rw [if_pos c17] at H
              have c17b0 : ((l1.length : Int) == 1) = true := beq_iff_eq.mpr c17
              have c17b1 : ((l1.length : Int) != 1) = false := bne_eq_false_iff_eq.mpr c17
              clear c17
              have H' := Aside0.mk H
              clear H
              obtain ⟨Ao18, co18, eo18⟩ := Kd.R_slice HO562.out
              subst eo18
              obtain ⟨Ao19, co19, eo19⟩ := Kd.R_slice HO566.out
              subst eo19
              go_wp2
              go_meet
              case rel => exact ⟨_, (((t559.length : Int) != 1)), (by first | rfl | (simp; done) | (simp [*]; done)), H', ⟨by first | omega | exact Nat.le_refl _⟩, ⟨by (with_reducible repeat (first | apply Kd.R_alloc | apply Kd.R_drewN | apply Kd.R_drew)); exact Kd.R_mono HO562.out (fun _ hk => hk.2)⟩, ⟨by (with_reducible repeat (first | apply Kd.R_alloc | apply Kd.R_drewN | apply Kd.R_drew)); exact Kd.R_mono HO566.out (fun _ hk => hk.2)⟩, ⟨by repeat (first | (with_reducible first | exact HB.out | apply below_alloc | apply pw_below_drewN | apply below_drew1) | exact HB.out)⟩⟩
            · rw [if_neg c17] at H
              have c17b0 : ((l1.length : Int) == 1) = false := beq_eq_false_iff_ne.mpr c17
              have c17b1 : ((l1.length : Int) != 1) = true := bne_iff_ne.mpr c17
              have H' := Aside0.mk H
              clear H
              obtain ⟨Ao20, co20, eo20⟩ := Kd.R_slice HO562.out
              subst eo20
              obtain ⟨Ao21, co21, eo21⟩ := Kd.R_slice HO566.out
              subst eo21
              go_wp2
              go_meet
              case rel => exact ⟨_, (false), (by first | rfl | (simp; done) | (simp [*]; done)), H', ⟨by first | omega | exact Nat.le_refl _⟩, ⟨by (with_reducible repeat (first | apply Kd.R_alloc | apply Kd.R_drewN | apply Kd.R_drew)); exact Kd.R_mono HO562.out (fun _ hk => hk.2)⟩, ⟨by (with_reducible repeat (first | apply Kd.R_alloc | apply Kd.R_drewN | apply Kd.R_drew)); exact Kd.R_mono HO566.out (fun _ hk => hk.2)⟩, ⟨by repeat (first | (with_reducible first | exact HB.out | apply below_alloc | apply pw_below_drewN | apply below_drew1) | exact HB.out)⟩⟩
        · rw [if_neg c13] at H
          have c13b0 : (t564 == 0) = false := beq_eq_false_iff_ne.mpr c13
          have c13b1 : (t564 != 0) = true := bne_iff_ne.mpr c13
          (first | rw [c13b0] | (simp only [i64_w, i32_w]; rw [c13b0]) | skip)
          have H' := Aside0.mk H
          clear H
          go_wp2
          go_meet
          case rel => exact ⟨_, (true), (by first | rfl | (simp; done) | (simp [*]; done)), H', ⟨by first | omega | exact Nat.le_refl _⟩, ⟨by (with_reducible repeat (first | apply Kd.R_alloc | apply Kd.R_drewN | apply Kd.R_drew)); exact Kd.R_mono HO562.out (fun _ hk => hk.2)⟩, ⟨by (with_reducible repeat (first | apply Kd.R_alloc | apply Kd.R_drewN | apply Kd.R_drew)); exact Kd.R_mono HO566.out (fun _ hk => hk.2)⟩, ⟨by repeat (first | (with_reducible first | exact HB.out | apply below_alloc | apply pw_below_drewN | apply below_drew1) | exact HB.out)⟩⟩
      case rest =>
        clear HC9
        try clear c1
        try clear c2
        try clear p2
        try clear c4
        try clear c4b0
        try clear c4b1
        try clear c7
        try clear c8
        try clear c8b0
        try clear c8b1
        try clear c13
        try clear c13b0
        try clear c13b1
        try clear c14
        try clear c14b0
        try clear c14b1
        try clear c15
        try clear c17
        try clear c17b0
        try clear c17b1
        obtain ⟨kq, x64_8, rfl, HA, HJ8, HO_6, HO_8, HB⟩ := hcut
        cases kq with
        | zero => exact absurd HA.out (by simp [medlarlaw11_DiffFewer.j0])
        | succ kj8 =>
          have H := HA.out
          clear HA
          simp only [medlarlaw11_DiffFewer.j0] at H
          by_cases c22 : x64_8 = true
          · subst c22
            have H1 : (some false) = some r := by rw [if_pos rfl] at H; exact H
            clear H
            have H := H1
            clear H1
            exact absurd ((Option.some.inj H).trans hT.out) Bool.false_ne_true
          · replace c22 := Bool.eq_false_iff.mpr c22
            subst c22
            have H1 : (medlarlaw11_DiffFewer.l0 kj8 a0 t558 t559 t563 (t563.length : Int) 0) = some r := by rw [if_neg (show ¬ (false = true) by decide)] at H; exact H
            clear H
            have H := H1
            clear H1
            have H' := Aside0.mk H
            clear H
            obtain ⟨Ao23, co23, eo23⟩ := Kd.R_slice HO_8.out
            subst eo23
            go_wp2
            go_loopg [67] kj8 (fun kq v67 w' => ∃ (x67_2 : Int), v67 = .int .i64 x67_2 ∧ Aside0 (medlarlaw11_DiffFewer.l0 kq a0 t558 t559 t563 (t563.length : Int) x67_2 = some r) ∧ Aside0 (kq ≤ kj8) ∧ Aside0 (Kd.R k34 34 w' w.heap.size (fun k_ => some k_ ≠ ((.slice Ao23 t563.length co23) : Value).ownBlock) v561 t559) ∧ Aside0 (Kd.R k34 34 w' w.heap.size (fun k_ => some k_ ≠ (v561 : Value).ownBlock) (.slice Ao23 t563.length co23) t563) ∧ Aside0 (Below w.heap.size w w'))
            case atStart => exact ⟨(0), (by first | rfl | (simp; done) | (simp [*]; done)), H', ⟨Nat.le_refl _⟩, ⟨by (with_reducible repeat (first | apply Kd.R_alloc | apply Kd.R_drewN | apply Kd.R_drew)); exact HO_6.out⟩, ⟨by (with_reducible repeat (first | apply Kd.R_alloc | apply Kd.R_drewN | apply Kd.R_drew)); exact HO_8.out⟩, ⟨by repeat (first | (with_reducible first | exact HB.out | apply below_alloc | apply pw_below_drewN | apply below_drew1) | exact HB.out)⟩⟩
            case round =>
              clear H'
              try clear c1
              try clear c2
              try clear p2
              try clear c4
              try clear c4b0
              try clear c4b1
              try clear c7
              try clear c8
              try clear c8b0
              try clear c8b1
              try clear c13
              try clear c13b0
              try clear c13b1
              try clear c14
              try clear c14b0
              try clear c14b1
              try clear c15
              try clear c17
              try clear c17b0
              try clear c17b1
              try clear c22
              try clear p2
              obtain ⟨x67_2, rfl, HA, HK2, HO_6, HO_65, HB⟩ := hrel
              cases gk with
              | zero => exact absurd HA.out (by simp [medlarlaw11_DiffFewer.l0])
              | succ k2 =>
                have H := HA.out
                clear HA
                simp only [medlarlaw11_DiffFewer.l0] at H
                by_cases c24 : x67_2 < (t563.length : Int)
                · rw [if_pos c24] at H
                  have c24b0 : decide (x67_2 < (t563.length : Int)) = true := decide_eq_true c24
                  clear c24
                  by_cases c25 : 0 ≤ x67_2
                  · rw [if_pos c25] at H
                    have c25b0 : decide (0 ≤ x67_2) = true := decide_eq_true c25
                    clear c25
                    by_cases c26 : x67_2 < (t563.length : Int)
                    · rw [if_pos c26] at H
                      have c26b0 : decide (x67_2 < (t563.length : Int)) = true := decide_eq_true c26
                      clear c26
                      replace H := Option.bind_eq_some_iff.mp H
                      obtain ⟨⟨t569, t572⟩, A270, H⟩ := H
                      replace H : (if t572 = 0 then (medlarlaw11_DiffFewer.j2 k2 a0 t558 t559 t569 t563 (t563.length : Int) x67_2 ((t569.length : Int) != 1)) else (medlarlaw11_DiffFewer.j2 k2 a0 t558 t559 t569 t563 (t563.length : Int) x67_2 true)) = some r := H
                      have A27 := Aside0.mk A270
                      clear A270
                      have HC28 := Aside0.mk H
                      clear H
                      have p567 : 0 ≤ (x67_2 : Int) := of_decide_eq_true (by first | (with_reducible assumption) | assumption)
                      have q567 : x67_2 < (t563.length : Int) := of_decide_eq_true (by first | (with_reducible assumption) | assumption)
                      obtain ⟨ad567, e567, hx567_0, hx567_1⟩ := at_T34 (Kd.R_reads' HO_65.out).2.2 x67_2 p567 q567
                      cases e567
                      replace p567 := eq_true p567
                      replace q567 := eq_true q567
                      go_upto_region 14 with (first | ((with_reducible refine gate_dst (N := 11) rfl ?_); (try (refine gate_guard (by rfl) ?_; dsimp only)); refine box_event ?hg (N := 11) ?hd (cs := #[.int .u64 0, .int .u64 0]) (t := 34) ?hr ?_; (case hd => rfl); (case hg => rfl); (case hr => first | (go_simp; done) | (go_simp; rfl)); intro gb568 hg w29 hbox hb; have n0_ := Aside0.mk (Kd.R_below (Kd.R_elderB (by (with_reducible repeat (first | apply Kd.R_alloc | apply Kd.R_drewN | apply Kd.R_drew)); exact HO_6.out) gb568 (Nat.le_of_eq hg.symm)) hb); have n1_ := Aside0.mk (Kd.R_below (Kd.R_elderB (by (with_reducible repeat (first | apply Kd.R_alloc | apply Kd.R_drewN | apply Kd.R_drew)); exact HO_65.out) gb568 (Nat.le_of_eq hg.symm)) hb); have n2_ := Aside0.mk (below_step (by repeat (first | (with_reducible first | exact HB.out | apply below_alloc | apply pw_below_drewN | apply below_drew1) | exact HB.out)) hb); have n3_ := Aside0.mk (hbox); have n4_ := Aside0.mk ((by rw [hg]; exact (below_size (by repeat (first | (with_reducible first | exact HB.out | apply below_alloc | apply pw_below_drewN | apply below_drew1) | exact HB.out))) : w.heap.size ≤ gb568)); have n5_ := Aside0.mk ((by rw [hg]; exact (below_size (by repeat (first | (with_reducible first | exact HB.out | apply below_alloc | apply pw_below_drewN | apply below_drew1) | exact HB.out))) : w.heap.size ≤ gb568)); clear HO_6; clear HO_65; clear HB; have HO_6 := n0_; have HO_65 := n1_; have HB := n2_; have BK568 := n3_; have GW568 := n4_; have GE568 := n5_; clear n0_ n1_ n2_ n3_ n4_ n5_; clear hb hbox hg; have hcz30_0 : w29.cell? ⟨gb568, 0, none⟩ = some (.int .u64 0) := (blk_cell BK568.out 0).trans rfl; have hcz30_1 : w29.cell? ⟨gb568, 1, none⟩ = some (.int .u64 0) := (blk_cell BK568.out 1).trans rfl; have hfz30_0 := blk_frozen BK568.out 0; have hfz30_1 := blk_frozen BK568.out 1) | ((with_reducible refine gate_callee (f := 26) rfl ?_); refine goesL_ (some 74) rfl rfl Try.func26 (by kernel_rfl) rfl #[.int .i64 a0, .agg #[.int .u64 ((rd_T34 t563 x67_2).f0), .int .u64 ((rd_T34 t563 x67_2).f1)]] rfl (by (try simp only [List.map_toArray, List.map_cons, List.map_nil]); first | done | rfl | (simp only [List.length_drop, List.length_take]; rfl)) ?_; (with_reducible refine (sub_Leaves.calls k2 a0 ((rd_T34 t563 x67_2).f0) ((rd_T34 t563 x67_2).f1) t569 t572 _ A27.out).mono ?_); rintro e w31 ⟨v570, rfl, ho0, hb⟩; refine ⟨_, rfl, ?_⟩; have n0_ := Aside0.mk (Kd.R_below (by (with_reducible repeat (first | apply Kd.R_alloc | apply Kd.R_drewN | apply Kd.R_drew)); exact (Kd.R_mono (Kd.R_far (p := ⟨gb568, 1, none⟩) (Kd.R_far (p := ⟨gb568, 0, none⟩) (Kd.R_mono HO_6.out (fun k_ hk => (⟨hk, hk.2⟩ : _ ∧ k_ ≠ gb568))) (fun _ hk => hk.2) (.int .u64 ((rd_T34 t563 x67_2).f0))) (fun _ hk => hk.2) (.int .u64 ((rd_T34 t563 x67_2).f1))) (fun _ h_ => h_.1))) hb); have n1_ := Aside0.mk (Kd.R_below (by (with_reducible repeat (first | apply Kd.R_alloc | apply Kd.R_drewN | apply Kd.R_drew)); exact (Kd.R_mono (Kd.R_far (p := ⟨gb568, 1, none⟩) (Kd.R_far (p := ⟨gb568, 0, none⟩) (Kd.R_mono HO_65.out (fun k_ hk => (⟨hk, hk.2⟩ : _ ∧ k_ ≠ gb568))) (fun _ hk => hk.2) (.int .u64 ((rd_T34 t563 x67_2).f0))) (fun _ hk => hk.2) (.int .u64 ((rd_T34 t563 x67_2).f1))) (fun _ h_ => h_.1))) hb); have n2_ := Aside0.mk (Kd.R_lower ho0 (below_size (by repeat (first | (with_reducible first | exact HB.out | apply below_alloc | apply pw_below_drewN | apply below_drew1 | refine below_set ?_ GE568.out) | exact HB.out)))); have n3_ := Aside0.mk (blk_below (g := gb568) (o := .cells #[.int .u64 ((rd_T34 t563 x67_2).f0), .int .u64 ((rd_T34 t563 x67_2).f1)] 34 (0, 0)) (by (with_reducible repeat (first | refine blk_drewN ?_ _ | refine blk_drew ?_ | refine blk_alloc ?_ _)); refine blk_put (cs := #[.int .u64 ((rd_T34 t563 x67_2).f0), .int .u64 0]) ?_ 1 _ rfl; (with_reducible repeat (first | refine blk_drewN ?_ _ | refine blk_drew ?_ | refine blk_alloc ?_ _)); refine blk_put (cs := #[.int .u64 0, .int .u64 0]) ?_ 0 _ rfl; (with_reducible repeat (first | refine blk_drewN ?_ _ | refine blk_drew ?_ | refine blk_alloc ?_ _)); exact BK568.out) hb); have n4_ := Aside0.mk (below_step (by repeat (first | (with_reducible first | exact HB.out | apply below_alloc | apply pw_below_drewN | apply below_drew1 | refine below_set ?_ GE568.out) | exact HB.out)) hb); clear HO_6; clear HO_65; clear BK568; clear HB; have HO_6 := n0_; have HO_65 := n1_; have HO571 := n2_; have BK568 := n3_; have HB := n4_; clear n0_ n1_ n2_ n3_ n4_; (try clear hb); (try clear hb2); (try clear hk); (try clear hi); (try clear ho0)))
                      (try simp only [Act.put, List.setIfInBounds_toArray, List.set_cons_zero, List.set_cons_succ])
                      go_cut [83] (fun v83 wc => ∃ (kq : Nat) (x83_27 : Bool), v83 = .bool x83_27 ∧ Aside0 (medlarlaw11_DiffFewer.j2 kq a0 t558 t559 t569 t563 (t563.length : Int) x67_2 x83_27 = some r) ∧ Aside0 (kq ≤ k2) ∧ Aside0 (Kd.R k34 34 wc w.heap.size (fun k_ => some k_ ≠ ((.slice (some ad567) t563.length co23) : Value).ownBlock ∧ k_ ≠ gb568) v561 t559) ∧ Aside0 (Kd.R k52 52 wc w.heap.size (fun _ => True) v570 t569) ∧ Aside0 (Kd.R k34 34 wc w.heap.size (fun k_ => some k_ ≠ (v561 : Value).ownBlock ∧ k_ ≠ gb568) (.slice (some ad567) t563.length co23) t563) ∧ Aside0 (wc.heap[gb568]? = some (.cells #[.int .u64 ((rd_T34 t563 x67_2).f0), .int .u64 ((rd_T34 t563 x67_2).f1)] 34 (0, 0))) ∧ Aside0 (Below w.heap.size w wc))
                      case first =>
                        have H := HC28.out
                        clear HC28
                        by_cases c32 : t572 = 0
                        · rw [if_pos c32] at H
                          have c32b0 : (t572 == 0) = true := beq_iff_eq.mpr c32
                          have c32b1 : (t572 != 0) = false := bne_eq_false_iff_eq.mpr c32
                          clear c32
                          (first | rw [c32b0] | (simp only [i64_w, i32_w]; rw [c32b0]) | skip)
                          have H' := Aside0.mk H
                          clear H
                          obtain ⟨Ao33, co33, eo33⟩ := Kd.R_slice HO571.out
                          subst eo33
                          go_wp2
                          go_meet
                          case rel => exact ⟨_, (((t569.length : Int) != 1)), (by first | rfl | (simp; done) | (simp [*]; done)), H', ⟨by have := HJ8.out; have := HK2.out; first | omega | exact Nat.le_refl _⟩, ⟨by (with_reducible repeat (first | apply Kd.R_alloc | apply Kd.R_drewN | apply Kd.R_drew)); exact HO_6.out⟩, ⟨by (with_reducible repeat (first | apply Kd.R_alloc | apply Kd.R_drewN | apply Kd.R_drew)); exact HO571.out⟩, ⟨by (with_reducible repeat (first | apply Kd.R_alloc | apply Kd.R_drewN | apply Kd.R_drew)); exact HO_65.out⟩, ⟨by (with_reducible repeat (first | refine blk_drewN ?_ _ | refine blk_drew ?_ | refine blk_alloc ?_ _)); exact BK568.out⟩, ⟨by repeat (first | (with_reducible first | exact HB.out | apply below_alloc | apply pw_below_drewN | apply below_drew1 | refine below_set ?_ GE568.out) | exact HB.out)⟩⟩
                        · rw [if_neg c32] at H
                          have c32b0 : (t572 == 0) = false := beq_eq_false_iff_ne.mpr c32
                          have c32b1 : (t572 != 0) = true := bne_iff_ne.mpr c32
                          (first | rw [c32b0] | (simp only [i64_w, i32_w]; rw [c32b0]) | skip)
                          have H' := Aside0.mk H
                          clear H
                          go_wp2
                          go_meet
                          case rel => exact ⟨_, (true), (by first | rfl | (simp; done) | (simp [*]; done)), H', ⟨by have := HJ8.out; have := HK2.out; first | omega | exact Nat.le_refl _⟩, ⟨by (with_reducible repeat (first | apply Kd.R_alloc | apply Kd.R_drewN | apply Kd.R_drew)); exact HO_6.out⟩, ⟨by (with_reducible repeat (first | apply Kd.R_alloc | apply Kd.R_drewN | apply Kd.R_drew)); exact HO571.out⟩, ⟨by (with_reducible repeat (first | apply Kd.R_alloc | apply Kd.R_drewN | apply Kd.R_drew)); exact HO_65.out⟩, ⟨by (with_reducible repeat (first | refine blk_drewN ?_ _ | refine blk_drew ?_ | refine blk_alloc ?_ _)); exact BK568.out⟩, ⟨by repeat (first | (with_reducible first | exact HB.out | apply below_alloc | apply pw_below_drewN | apply below_drew1 | refine below_set ?_ GE568.out) | exact HB.out)⟩⟩
                      case rest =>
                        clear HC28
                        try clear c1
                        try clear c2
                        try clear p2
                        try clear c3
                        try clear c4
                        try clear c4b0
                        try clear c4b1
                        try clear p5
                        try clear q5
                        try clear hx5
                        try clear c7
                        try clear c8
                        try clear c8b0
                        try clear c8b1
                        try clear c13
                        try clear c13b0
                        try clear c13b1
                        try clear c14
                        try clear c14b0
                        try clear c14b1
                        try clear c15
                        try clear c17
                        try clear c17b0
                        try clear c17b1
                        try clear c22
                        try clear c24
                        try clear c24b0
                        try clear c25
                        try clear c25b0
                        try clear c26
                        try clear c26b0
                        try clear c29
                        try clear c32
                        try clear c32b0
                        try clear c32b1
                        try clear hcz30_0
                        try clear hcz30_1
                        try clear hfz30_0
                        try clear hfz30_1
                        try clear hx567_0
                        try clear hx567_1
                        try clear p2
                        try clear p567
                        try clear q567
                        obtain ⟨kq, x83_27, rfl, HA, HJ27, HO_6, HO_12, HO_65, BK568, HB⟩ := hcut
                        cases kq with
                        | zero => exact absurd HA.out (by simp [medlarlaw11_DiffFewer.j2])
                        | succ kj27 =>
                          have H := HA.out
                          clear HA
                          simp only [medlarlaw11_DiffFewer.j2] at H
                          by_cases c34 : x83_27 = true
                          · subst c34
                            have H1 : (some false) = some r := by rw [if_pos rfl] at H; exact H
                            clear H
                            have H := H1
                            clear H1
                            exact absurd ((Option.some.inj H).trans hT.out) Bool.false_ne_true
                          · replace c34 := Bool.eq_false_iff.mpr c34
                            subst c34
                            have H1 : (medlarlaw11_DiffFewer.l1 kj27 a0 t558 t559 t569 0 t563 (t563.length : Int) x67_2 t559 (t559.length : Int) 0) = some r := by rw [if_neg (show ¬ (false = true) by decide)] at H; exact H
                            clear H
                            have H := H1
                            clear H1
                            have H' := Aside0.mk H
                            clear H
                            obtain ⟨Ao35, co35, eo35⟩ := Kd.R_slice HO_6.out
                            subst eo35
                            go_wp2
                            go_loopg [14, 86] kj27 (fun kq v14 v86 w' => ∃ (x14_4 : Int) (x86_4 : Int), v14 = .int .i64 x14_4 ∧ v86 = .int .i64 x86_4 ∧ Aside0 (medlarlaw11_DiffFewer.l1 kq a0 t558 t559 t569 x14_4 t563 (t563.length : Int) x67_2 t559 (t559.length : Int) x86_4 = some r) ∧ Aside0 (kq ≤ kj27) ∧ Aside0 (Kd.R k34 34 w' w.heap.size (fun k_ => some k_ ≠ ((.slice (some ad567) t563.length co23) : Value).ownBlock ∧ k_ ≠ gb568) (.slice Ao35 t559.length co35) t559) ∧ Aside0 (Kd.R k52 52 w' w.heap.size (fun _ => True) v570 t569) ∧ Aside0 (Kd.R k34 34 w' w.heap.size (fun k_ => some k_ ≠ ((.slice Ao35 t559.length co35) : Value).ownBlock ∧ some k_ ≠ ((.slice Ao35 t559.length co35) : Value).ownBlock ∧ k_ ≠ gb568) (.slice (some ad567) t563.length co23) t563) ∧ Aside0 (Kd.R k34 34 w' w.heap.size (fun k_ => some k_ ≠ ((.slice (some ad567) t563.length co23) : Value).ownBlock ∧ k_ ≠ gb568) (.slice Ao35 t559.length co35) t559) ∧ Aside0 (w'.heap[gb568]? = some (.cells #[.int .u64 ((rd_T34 t563 x67_2).f0), .int .u64 ((rd_T34 t563 x67_2).f1)] 34 (0, 0))) ∧ Aside0 (Below w.heap.size w w'))
                            case atStart => exact ⟨(0), (0), (by first | rfl | (simp; done) | (simp [*]; done)), (by first | rfl | (simp; done) | (simp [*]; done)), H', ⟨Nat.le_refl _⟩, ⟨by (with_reducible repeat (first | apply Kd.R_alloc | apply Kd.R_drewN | apply Kd.R_drew)); exact HO_6.out⟩, ⟨by (with_reducible repeat (first | apply Kd.R_alloc | apply Kd.R_drewN | apply Kd.R_drew)); exact HO_12.out⟩, ⟨by (with_reducible repeat (first | apply Kd.R_alloc | apply Kd.R_drewN | apply Kd.R_drew)); exact Kd.R_mono HO_65.out (fun _ hk => ⟨hk.1, ⟨hk.1, hk.2⟩⟩)⟩, ⟨by (with_reducible repeat (first | apply Kd.R_alloc | apply Kd.R_drewN | apply Kd.R_drew)); exact HO_6.out⟩, ⟨by (with_reducible repeat (first | refine blk_drewN ?_ _ | refine blk_drew ?_ | refine blk_alloc ?_ _)); exact BK568.out⟩, ⟨by repeat (first | (with_reducible first | exact HB.out | apply below_alloc | apply pw_below_drewN | apply below_drew1 | refine below_set ?_ GE568.out) | exact HB.out)⟩⟩
                            case round =>
                              clear H'
                              try clear c1
                              try clear c2
                              try clear p2
                              try clear c3
                              try clear c4
                              try clear c4b0
                              try clear c4b1
                              try clear p5
                              try clear q5
                              try clear hx5
                              try clear c7
                              try clear c8
                              try clear c8b0
                              try clear c8b1
                              try clear c13
                              try clear c13b0
                              try clear c13b1
                              try clear c14
                              try clear c14b0
                              try clear c14b1
                              try clear c15
                              try clear c17
                              try clear c17b0
                              try clear c17b1
                              try clear c22
                              try clear c24
                              try clear c24b0
                              try clear c25
                              try clear c25b0
                              try clear c26
                              try clear c26b0
                              try clear c29
                              try clear c32
                              try clear c32b0
                              try clear c32b1
                              try clear c34
                              try clear hcz30_0
                              try clear hcz30_1
                              try clear hfz30_0
                              try clear hfz30_1
                              try clear hx567_0
                              try clear hx567_1
                              try clear p2
                              try clear p5
                              try clear p567
                              try clear q5
                              try clear q567
                              obtain ⟨x14_4, x86_4, rfl, rfl, HA, HK4, HO_6, HO_12, HO_65, HO_84, BK568, HB⟩ := hrel
                              cases gk with
                              | zero => exact absurd HA.out (by simp [medlarlaw11_DiffFewer.l1])
                              | succ k4 =>
                                have H := HA.out
                                clear HA
                                simp only [medlarlaw11_DiffFewer.l1] at H
                                by_cases c36 : x86_4 < (t559.length : Int)
                                · rw [if_pos c36] at H
                                  have c36b0 : decide (x86_4 < (t559.length : Int)) = true := decide_eq_true c36
                                  clear c36
                                  by_cases c37 : 0 ≤ x86_4
                                  · rw [if_pos c37] at H
                                    have c37b0 : decide (0 ≤ x86_4) = true := decide_eq_true c37
                                    clear c37
                                    by_cases c38 : x86_4 < (t559.length : Int)
                                    · rw [if_pos c38] at H
                                      have c38b0 : decide (x86_4 < (t559.length : Int)) = true := decide_eq_true c38
                                      clear c38
                                      by_cases c39 : 0 < (t569.length : Int)
                                      · rw [if_pos c39] at H
                                        have c39b0 : decide (0 < (t569.length : Int)) = true := decide_eq_true c39
                                        have c39b1 : decide (0 < t569.length) = true := decide_eq_true (by omega)
                                        clear c39
                                        replace H := Option.bind_eq_some_iff.mp H
                                        obtain ⟨⟨t576, t577⟩, A400, H⟩ := H
                                        replace H : ((sub_Has.f k4 a0 ((rd_T34 t559 x86_4).f0) ((rd_T34 t559 x86_4).f1) ((rd_T52 t569 0).f1)).bind fun bt579 => (if t577 = 0 then (if bt579.2 = 0 then (medlarlaw11_DiffFewer.j4 k4 a0 t558 t559 t569 x14_4 t576 t563 (t563.length : Int) x67_2 t559 (t559.length : Int) x86_4 (t576 != bt579.1)) else (medlarlaw11_DiffFewer.j4 k4 a0 t558 t559 t569 x14_4 t576 t563 (t563.length : Int) x67_2 t559 (t559.length : Int) x86_4 true)) else (medlarlaw11_DiffFewer.j4 k4 a0 t558 t559 t569 x14_4 t576 t563 (t563.length : Int) x67_2 t559 (t559.length : Int) x86_4 true))) = some r := H
                                        have A40 := Aside0.mk A400
                                        clear A400
                                        replace H := Option.bind_eq_some_iff.mp H
                                        obtain ⟨⟨t579, t580⟩, A410, H⟩ := H
                                        replace H : (if t577 = 0 then (if t580 = 0 then (medlarlaw11_DiffFewer.j4 k4 a0 t558 t559 t569 x14_4 t576 t563 (t563.length : Int) x67_2 t559 (t559.length : Int) x86_4 (t576 != t579)) else (medlarlaw11_DiffFewer.j4 k4 a0 t558 t559 t569 x14_4 t576 t563 (t563.length : Int) x67_2 t559 (t559.length : Int) x86_4 true)) else (medlarlaw11_DiffFewer.j4 k4 a0 t558 t559 t569 x14_4 t576 t563 (t563.length : Int) x67_2 t559 (t559.length : Int) x86_4 true)) = some r := H
                                        have A41 := Aside0.mk A410
                                        clear A410
                                        have HC42 := Aside0.mk H
                                        clear H
                                        have p573 : 0 ≤ (x86_4 : Int) := of_decide_eq_true (by first | (with_reducible assumption) | assumption)
                                        have q573 : x86_4 < (t559.length : Int) := of_decide_eq_true (by first | (with_reducible assumption) | assumption)
                                        obtain ⟨ad573, e573, hx573_0, hx573_1⟩ := at_T34 (Kd.R_reads' HO_84.out).2.2 x86_4 p573 q573
                                        cases e573
                                        replace p573 := eq_true p573
                                        replace q573 := eq_true q573
                                        try go_wp2_with (first | ((with_reducible refine gate_dst (N := 16) rfl ?_); (try (refine gate_guard (by rfl) ?_; dsimp only)); refine box_event ?hg (N := 16) ?hd (cs := #[.int .u64 0, .int .u64 0]) (t := 34) ?hr ?_; (case hd => rfl); (case hg => rfl); (case hr => first | (go_simp; done) | (go_simp; rfl)); intro gb574 hg w43 hbox hb; have n0_ := Aside0.mk (Kd.R_below (Kd.R_elderB (by (with_reducible repeat (first | apply Kd.R_alloc | apply Kd.R_drewN | apply Kd.R_drew)); exact HO_6.out) gb574 (Nat.le_of_eq hg.symm)) hb); have n1_ := Aside0.mk (Kd.R_below (by (with_reducible repeat (first | apply Kd.R_alloc | apply Kd.R_drewN | apply Kd.R_drew)); exact HO_12.out) hb); have n2_ := Aside0.mk (Kd.R_below (Kd.R_elderB (by (with_reducible repeat (first | apply Kd.R_alloc | apply Kd.R_drewN | apply Kd.R_drew)); exact HO_65.out) gb574 (Nat.le_of_eq hg.symm)) hb); have n3_ := Aside0.mk (Kd.R_below (Kd.R_elderB (by (with_reducible repeat (first | apply Kd.R_alloc | apply Kd.R_drewN | apply Kd.R_drew)); exact HO_84.out) gb574 (Nat.le_of_eq hg.symm)) hb); have n4_ := Aside0.mk (blk_below (g := gb568) (o := .cells #[.int .u64 ((rd_T34 t563 x67_2).f0), .int .u64 ((rd_T34 t563 x67_2).f1)] 34 (0, 0)) (by (with_reducible repeat (first | refine blk_drewN ?_ _ | refine blk_drew ?_ | refine blk_alloc ?_ _)); exact BK568.out) hb); have n5_ := Aside0.mk (below_step (by repeat (first | (with_reducible first | exact HB.out | apply below_alloc | apply pw_below_drewN | apply below_drew1 | refine below_set ?_ GE568.out) | exact HB.out)) hb); have n6_ := Aside0.mk (hbox); have n7_ := Aside0.mk ((by rw [hg]; exact (below_size (by repeat (first | (with_reducible first | exact HB.out | apply below_alloc | apply pw_below_drewN | apply below_drew1 | refine below_set ?_ GE568.out) | exact HB.out))) : w.heap.size ≤ gb574)); have n8_ := Aside0.mk ((by rw [hg]; exact (below_size (by repeat (first | (with_reducible first | exact HB.out | apply below_alloc | apply pw_below_drewN | apply below_drew1 | refine below_set ?_ GE568.out) | exact HB.out))) : w.heap.size ≤ gb574)); have n9_ := Aside0.mk ((by rw [hg]; exact Nat.ne_of_lt (blk_lt (g := gb568) (o := .cells #[.int .u64 ((rd_T34 t563 x67_2).f0), .int .u64 ((rd_T34 t563 x67_2).f1)] 34 (0, 0)) (by (with_reducible repeat (first | refine blk_drewN ?_ _ | refine blk_drew ?_ | refine blk_alloc ?_ _)); exact BK568.out)) : gb568 ≠ gb574)); have n10_ := Aside0.mk ((by rw [hg]; exact Nat.ne_of_gt (blk_lt (g := gb568) (o := .cells #[.int .u64 ((rd_T34 t563 x67_2).f0), .int .u64 ((rd_T34 t563 x67_2).f1)] 34 (0, 0)) (by (with_reducible repeat (first | refine blk_drewN ?_ _ | refine blk_drew ?_ | refine blk_alloc ?_ _)); exact BK568.out)) : gb574 ≠ gb568)); clear HO_6; clear HO_12; clear HO_65; clear HO_84; clear BK568; clear HB; have HO_6 := n0_; have HO_12 := n1_; have HO_65 := n2_; have HO_84 := n3_; have BK568 := n4_; have HB := n5_; have BK574 := n6_; have GW574 := n7_; have GE574 := n8_; have NB568_574 := n9_; have NB574_568 := n10_; clear n0_ n1_ n2_ n3_ n4_ n5_ n6_ n7_ n8_ n9_ n10_; clear hb hbox hg; have hnb44 := NB574_568.out; have hnc44 := NB568_574.out; have hcz45_0 : w43.cell? ⟨gb574, 0, none⟩ = some (.int .u64 0) := (blk_cell BK574.out 0).trans rfl; have hcz45_1 : w43.cell? ⟨gb574, 1, none⟩ = some (.int .u64 0) := (blk_cell BK574.out 1).trans rfl; have hfz45_0 := blk_frozen BK574.out 0; have hfz45_1 := blk_frozen BK574.out 1))
                                        have n0_ : Aside0 (Kd.R k34 34 ((w43.setCell ⟨gb574, 0, none⟩ (.int .u64 ((rd_T34 t559 x86_4).f0))).setCell ⟨gb574, 1, none⟩ (.int .u64 ((rd_T34 t559 x86_4).f1))) w.heap.size (fun k_ => some k_ ≠ (.slice (some ad567) t563.length co23 : Value).ownBlock ∧ k_ ≠ gb568 ∧ k_ ≠ gb574) (.slice (some ad573) t559.length co35) t559) := ⟨by (with_reducible repeat (first | apply Kd.R_alloc | apply Kd.R_drewN | apply Kd.R_drew)); exact Kd.R_mono (Kd.R_far (p := ⟨gb574, 1, none⟩) (Kd.R_far (p := ⟨gb574, 0, none⟩) (Kd.R_mono HO_6.out (fun k_ hk => (⟨hk, hk.2⟩ : _ ∧ k_ ≠ gb574))) (fun _ hk => hk.2) (.int .u64 ((rd_T34 t559 x86_4).f0))) (fun _ hk => hk.2) (.int .u64 ((rd_T34 t559 x86_4).f1))) (fun _ hk => ⟨hk.1.1.1, ⟨hk.1.1.2, hk.1.2⟩⟩)⟩
                                        have n1_ : Aside0 (Kd.R k52 52 ((w43.setCell ⟨gb574, 0, none⟩ (.int .u64 ((rd_T34 t559 x86_4).f0))).setCell ⟨gb574, 1, none⟩ (.int .u64 ((rd_T34 t559 x86_4).f1))) w.heap.size (fun _ => True) v570 t569) := ⟨by (with_reducible repeat (first | apply Kd.R_alloc | apply Kd.R_drewN | apply Kd.R_drew)); exact Kd.R_mono (Kd.R_far (p := ⟨gb574, 1, none⟩) (Kd.R_far (p := ⟨gb574, 0, none⟩) (Kd.R_types HO_12.out BK574.out (by decide)) (fun _ hk => hk.2) (.int .u64 ((rd_T34 t559 x86_4).f0))) (fun _ hk => hk.2) (.int .u64 ((rd_T34 t559 x86_4).f1))) (fun _ hk => trivial)⟩
                                        have n2_ : Aside0 (Kd.R k34 34 ((w43.setCell ⟨gb574, 0, none⟩ (.int .u64 ((rd_T34 t559 x86_4).f0))).setCell ⟨gb574, 1, none⟩ (.int .u64 ((rd_T34 t559 x86_4).f1))) w.heap.size (fun k_ => some k_ ≠ (.slice (some ad573) t559.length co35 : Value).ownBlock ∧ some k_ ≠ (.slice (some ad573) t559.length co35 : Value).ownBlock ∧ k_ ≠ gb568 ∧ k_ ≠ gb574) (.slice (some ad567) t563.length co23) t563) := ⟨by (with_reducible repeat (first | apply Kd.R_alloc | apply Kd.R_drewN | apply Kd.R_drew)); exact Kd.R_mono (Kd.R_far (p := ⟨gb574, 1, none⟩) (Kd.R_far (p := ⟨gb574, 0, none⟩) (Kd.R_mono HO_65.out (fun k_ hk => (⟨hk, hk.2⟩ : _ ∧ k_ ≠ gb574))) (fun _ hk => hk.2) (.int .u64 ((rd_T34 t559 x86_4).f0))) (fun _ hk => hk.2) (.int .u64 ((rd_T34 t559 x86_4).f1))) (fun _ hk => ⟨hk.1.1.1, ⟨hk.1.1.2.1, ⟨hk.1.1.2.2, hk.1.2⟩⟩⟩)⟩
                                        have n3_ : Aside0 (Kd.R k34 34 ((w43.setCell ⟨gb574, 0, none⟩ (.int .u64 ((rd_T34 t559 x86_4).f0))).setCell ⟨gb574, 1, none⟩ (.int .u64 ((rd_T34 t559 x86_4).f1))) w.heap.size (fun k_ => some k_ ≠ (.slice (some ad567) t563.length co23 : Value).ownBlock ∧ k_ ≠ gb568 ∧ k_ ≠ gb574) (.slice (some ad573) t559.length co35) t559) := ⟨by (with_reducible repeat (first | apply Kd.R_alloc | apply Kd.R_drewN | apply Kd.R_drew)); exact Kd.R_mono (Kd.R_far (p := ⟨gb574, 1, none⟩) (Kd.R_far (p := ⟨gb574, 0, none⟩) (Kd.R_mono HO_84.out (fun k_ hk => (⟨hk, hk.2⟩ : _ ∧ k_ ≠ gb574))) (fun _ hk => hk.2) (.int .u64 ((rd_T34 t559 x86_4).f0))) (fun _ hk => hk.2) (.int .u64 ((rd_T34 t559 x86_4).f1))) (fun _ hk => ⟨hk.1.1.1, ⟨hk.1.1.2, hk.1.2⟩⟩)⟩
                                        have n4_ : Aside0 (((w43.setCell ⟨gb574, 0, none⟩ (.int .u64 ((rd_T34 t559 x86_4).f0))).setCell ⟨gb574, 1, none⟩ (.int .u64 ((rd_T34 t559 x86_4).f1))).heap[gb568]? = some (.cells #[.int .u64 ((rd_T34 t563 x67_2).f0), .int .u64 ((rd_T34 t563 x67_2).f1)] 34 (0, 0))) := ⟨by (with_reducible repeat (first | refine blk_drewN ?_ _ | refine blk_drew ?_ | refine blk_alloc ?_ _)); refine blk_far ?_ NB568_574.out _; (with_reducible repeat (first | refine blk_drewN ?_ _ | refine blk_drew ?_ | refine blk_alloc ?_ _)); refine blk_far ?_ NB568_574.out _; (with_reducible repeat (first | refine blk_drewN ?_ _ | refine blk_drew ?_ | refine blk_alloc ?_ _)); exact BK568.out⟩
                                        have n5_ : Aside0 (((w43.setCell ⟨gb574, 0, none⟩ (.int .u64 ((rd_T34 t559 x86_4).f0))).setCell ⟨gb574, 1, none⟩ (.int .u64 ((rd_T34 t559 x86_4).f1))).heap[gb574]? = some (.cells #[.int .u64 ((rd_T34 t559 x86_4).f0), .int .u64 ((rd_T34 t559 x86_4).f1)] 34 (0, 0))) := ⟨by (with_reducible repeat (first | refine blk_drewN ?_ _ | refine blk_drew ?_ | refine blk_alloc ?_ _)); refine blk_put (cs := #[.int .u64 ((rd_T34 t559 x86_4).f0), .int .u64 0]) ?_ 1 _ rfl; (with_reducible repeat (first | refine blk_drewN ?_ _ | refine blk_drew ?_ | refine blk_alloc ?_ _)); refine blk_put (cs := #[.int .u64 0, .int .u64 0]) ?_ 0 _ rfl; (with_reducible repeat (first | refine blk_drewN ?_ _ | refine blk_drew ?_ | refine blk_alloc ?_ _)); exact BK574.out⟩
                                        have n6_ : Aside0 (Below w.heap.size w ((w43.setCell ⟨gb574, 0, none⟩ (.int .u64 ((rd_T34 t559 x86_4).f0))).setCell ⟨gb574, 1, none⟩ (.int .u64 ((rd_T34 t559 x86_4).f1)))) := ⟨by repeat (first | (with_reducible first | exact HB.out | apply below_alloc | apply pw_below_drewN | apply below_drew1 | refine below_set ?_ GE568.out | refine below_set ?_ GE574.out) | exact HB.out)⟩
                                        (try clear HO_6)
                                        (try clear HO_12)
                                        (try clear HO_65)
                                        (try clear HO_84)
                                        (try clear BK568)
                                        (try clear BK574)
                                        (try clear HB)
                                        generalize ((w43.setCell ⟨gb574, 0, none⟩ (.int .u64 ((rd_T34 t559 x86_4).f0))).setCell ⟨gb574, 1, none⟩ (.int .u64 ((rd_T34 t559 x86_4).f1))) = w46 at n0_ n1_ n2_ n3_ n4_ n5_ n6_ ⊢
                                        have HO_6 := n0_
                                        have HO_12 := n1_
                                        have HO_65 := n2_
                                        have HO_84 := n3_
                                        have BK568 := n4_
                                        have BK574 := n5_
                                        have HB := n6_
                                        clear n0_ n1_ n2_ n3_ n4_ n5_ n6_
                                        have n0_ := Aside0.mk (Kd.R_drew HO_6.out)
                                        have n1_ := Aside0.mk (Kd.R_drew HO_12.out)
                                        have n2_ := Aside0.mk (Kd.R_drew HO_65.out)
                                        have n3_ := Aside0.mk (Kd.R_drew HO_84.out)
                                        have n4_ := Aside0.mk (blk_drew BK568.out)
                                        have n5_ := Aside0.mk (blk_drew BK574.out)
                                        have n6_ := Aside0.mk (below_drew1 HB.out)
                                        clear HO_6
                                        clear HO_12
                                        clear HO_65
                                        clear HO_84
                                        clear BK568
                                        clear BK574
                                        clear HB
                                        have HO_6 := n0_
                                        have HO_12 := n1_
                                        have HO_65 := n2_
                                        have HO_84 := n3_
                                        have BK568 := n4_
                                        have BK574 := n5_
                                        have HB := n6_
                                        clear n0_ n1_ n2_ n3_ n4_ n5_ n6_
                                        obtain ⟨Ao48, co48, eo48⟩ := Kd.R_slice HO_12.out
                                        (first | subst eo48 | (injection eo48 with f1_ f2_ f3_; have f4_ := f1_.symm; have f5_ := f3_.symm; clear f1_ f2_ f3_; subst f4_; subst f5_))
                                        have p575 : 0 ≤ (0 : Int) := (by omega)
                                        have q575 : 0 < (t569.length : Int) := of_decide_eq_true (by first | (with_reducible assumption) | assumption)
                                        obtain ⟨ad575, e575, hx575_0, hx575_1⟩ := at_T52 (Kd.R_reads' HO_12.out).2.2 0 p575 q575
                                        cases e575
                                        have qi575 : (0 < t569.length) = True := eq_true (by omega)
                                        (try rw [show ((0 : Int)).toNat = 0 from rfl] at hx575_0)
                                        (try rw [show 0 * 2 = 0 from rfl] at hx575_0)
                                        (try rw [Addr.add_zero'] at hx575_0)
                                        (try rw [show ((0 : Int)).toNat = 0 from rfl] at hx575_1)
                                        (try rw [show 0 * 2 = 0 from rfl] at hx575_1)
                                        (try rw [Addr.add_zero'] at hx575_1)
                                        replace p575 := eq_true p575
                                        replace q575 := eq_true q575
                                        refine start_ (n := 12) (S := fun w' => w'.cell? ⟨gb574, 0, none⟩ = some (.int .u64 ((rd_T34 t559 x86_4).f0)) ∧ w'.cell? ⟨gb574, 1, none⟩ = some (.int .u64 ((rd_T34 t559 x86_4).f1)) ∧ w'.cell? ad575 = some (.int .u64 ((rd_T52 t569 0).f0)) ∧ w'.cell? ⟨ad575.block, ad575.off + 1, none⟩ = some (.int .u64 ((rd_T52 t569 0).f1))) (ds := []) #[false, false, false, false, false, false, false, false, false, false, false, false] (by kernel_rfl) rfl rfl ⟨(blk_cell BK574.out 0).trans rfl, (blk_cell BK574.out 1).trans rfl, hx575_0, hx575_1⟩ (fun hHeld => ?_); refine with_tabW medlarlaw11_DiffFewer.tab20 medlarlaw11_DiffFewer.bits20 (fun HT_ HW_ => ?_)
                                        generalize w46.drew = w47 at HO_6 HO_12 HO_65 HO_84 BK568 BK574 HB hx575_0 hx575_1 hHeld ⊢
                                        refine pure_ (i := 0) (N := some 91) (v := ?_) (a' := ?_) #[true, false, false, false, false, false, false, false, false, false, false, false] rfl rfl (any_of HT_.out (by kernel_rfl)) (fun _ _ _ h => h) (Or.inl ⟨by rfl, ?_⟩) ?_ ?_
                                        rotate_left
                                        · intro w'
                                          go_simp
                                          with_reducible rfl
                                        rotate_left
                                        · simp only [Act.put, List.setIfInBounds_toArray, List.set_cons_zero, List.set_cons_succ, i64_w, i32_w]
                                          rfl
                                        refine pure_ (i := 2) (N := some 93) (v := ?_) (a' := ?_) #[true, false, true, false, false, false, false, false, false, false, false, false] rfl rfl (any_of HT_.out (by kernel_rfl)) (fun _ _ _ h => h) (Or.inl ⟨by rfl, ?_⟩) ?_ ?_
                                        rotate_left
                                        · intro w'
                                          go_simp
                                          with_reducible rfl
                                        rotate_left
                                        · simp only [Act.put, List.setIfInBounds_toArray, List.set_cons_zero, List.set_cons_succ, i64_w, i32_w]
                                          rfl
                                        refine pure_ (i := 3) (N := some 94) (v := ?_) (a' := ?_) #[true, false, true, true, false, false, false, false, false, false, false, false] rfl rfl (any_of HT_.out (by kernel_rfl)) (fun _ _ _ h => h) (Or.inl ⟨by rfl, ?_⟩) ?_ ?_
                                        rotate_left
                                        · intro w'
                                          go_simp
                                          with_reducible rfl
                                        rotate_left
                                        · simp only [Act.put, List.setIfInBounds_toArray, List.set_cons_zero, List.set_cons_succ, i64_w, i32_w]
                                          rfl
                                        refine pure_ (i := 4) (N := some 95) (v := ?_) (a' := ?_) #[true, false, true, true, true, false, false, false, false, false, false, false] rfl rfl (any_of HT_.out (by kernel_rfl)) (fun _ _ _ h => h) (Or.inl ⟨by rfl, ?_⟩) ?_ ?_
                                        rotate_left
                                        · intro w'
                                          go_simp
                                          with_reducible rfl
                                        rotate_left
                                        · simp only [Act.put, List.setIfInBounds_toArray, List.set_cons_zero, List.set_cons_succ, i64_w, i32_w]
                                          rfl
                                        refine take_ (i := 1) (N := some 92) (v := ?_) (a' := ?_) #[true, true, true, true, true, false, false, false, false, false, false, false] rfl rfl (take_ofW HT_.out HW_.out (by kernel_rfl)) (fun _ _ _ h => h) (Or.inl ⟨by rfl, ?_⟩) hHeld ?_ ?_
                                        rotate_left
                                        · rintro w' ⟨s0, s1, s2, s3⟩
                                          go_simp
                                          with_reducible rfl
                                        rotate_left
                                        · simp only [Act.put, List.setIfInBounds_toArray, List.set_cons_zero, List.set_cons_succ, i64_w, i32_w]
                                          rfl
                                        refine take_ (i := 5) (N := some 96) (v := ?_) (a' := ?_) #[true, true, true, true, true, true, false, false, false, false, false, false] rfl rfl (take_ofW HT_.out HW_.out (by kernel_rfl)) (fun _ _ _ h => h) (Or.inl ⟨by rfl, ?_⟩) hHeld ?_ ?_
                                        rotate_left
                                        · rintro w' ⟨s0, s1, s2, s3⟩
                                          go_simp
                                          with_reducible rfl
                                        rotate_left
                                        · simp only [Act.put, List.setIfInBounds_toArray, List.set_cons_zero, List.set_cons_succ, i64_w, i32_w]
                                          rfl
                                        refine one_ (i := 6) (N := some 97) #[true, true, true, true, true, true, true, false, false, false, false, false] rfl rfl (one_of HT_.out (by kernel_rfl)) (by decide) (fun K hK => ?_)
                                        refine goes_ Try.func20 (by kernel_rfl) rfl #[.int .i64 a0, .agg #[.int .u64 ((rd_T34 t559 x86_4).f0), .int .u64 ((rd_T34 t559 x86_4).f1)], .int .u64 ((rd_T52 t569 0).f0)] (by rfl) rfl rfl (by (try simp only [List.map_toArray, List.map_cons, List.map_nil]); first | done | rfl | (simp only [List.length_drop, List.length_take]; rfl)) ?_
                                        with_reducible refine (sub_Has.calls k4 a0 ((rd_T34 t559 x86_4).f0) ((rd_T34 t559 x86_4).f1) ((rd_T52 t569 0).f0) t576 t577 _ A40.out).mono ?_
                                        rintro e w49 ⟨rfl, hb⟩
                                        have HS2_ := (hb.cell (World.block_lt_of_cell? _ _ (hHeld.2.2.1))).trans (hHeld.2.2.1)
                                        have HS3_ := (hb.cell (World.block_lt_of_cell? _ _ (hHeld.2.2.2))).trans (hHeld.2.2.2)
                                        refine ⟨_, rfl, ?_⟩
                                        have n0_ := Aside0.mk (Kd.R_below (by (with_reducible repeat (first | apply Kd.R_alloc | apply Kd.R_drewN | apply Kd.R_drew)); exact HO_6.out) hb)
                                        have n1_ := Aside0.mk (Kd.R_below (by (with_reducible repeat (first | apply Kd.R_alloc | apply Kd.R_drewN | apply Kd.R_drew)); exact HO_12.out) hb)
                                        have n2_ := Aside0.mk (Kd.R_below (by (with_reducible repeat (first | apply Kd.R_alloc | apply Kd.R_drewN | apply Kd.R_drew)); exact HO_65.out) hb)
                                        have n3_ := Aside0.mk (Kd.R_below (by (with_reducible repeat (first | apply Kd.R_alloc | apply Kd.R_drewN | apply Kd.R_drew)); exact HO_84.out) hb)
                                        have n4_ := Aside0.mk (blk_below (g := gb568) (o := .cells #[.int .u64 ((rd_T34 t563 x67_2).f0), .int .u64 ((rd_T34 t563 x67_2).f1)] 34 (0, 0)) (by (with_reducible repeat (first | refine blk_drewN ?_ _ | refine blk_drew ?_ | refine blk_alloc ?_ _)); exact BK568.out) hb)
                                        have n5_ := Aside0.mk (blk_below (g := gb574) (o := .cells #[.int .u64 ((rd_T34 t559 x86_4).f0), .int .u64 ((rd_T34 t559 x86_4).f1)] 34 (0, 0)) (by (with_reducible repeat (first | refine blk_drewN ?_ _ | refine blk_drew ?_ | refine blk_alloc ?_ _)); exact BK574.out) hb)
                                        have n6_ := Aside0.mk (below_step (by repeat (first | (with_reducible first | exact HB.out | apply below_alloc | apply pw_below_drewN | apply below_drew1 | refine below_set ?_ GE568.out | refine below_set ?_ GE574.out) | exact HB.out)) hb)
                                        clear HO_6
                                        clear HO_12
                                        clear HO_65
                                        clear HO_84
                                        clear BK568
                                        clear BK574
                                        clear HB
                                        have HO_6 := n0_
                                        have HO_12 := n1_
                                        have HO_65 := n2_
                                        have HO_84 := n3_
                                        have BK568 := n4_
                                        have BK574 := n5_
                                        have HB := n6_
                                        clear n0_ n1_ n2_ n3_ n4_ n5_ n6_
                                        (try clear hb)
                                        (try clear hb2)
                                        (try clear hk)
                                        (try clear hi)
                                        refine hK.out _ _ ⟨(blk_cell BK574.out 0).trans rfl, (blk_cell BK574.out 1).trans rfl, HS2_, HS3_⟩ (fun hHeld => ?_)
                                        clear hK K
                                        refine norm_ (a' := ?_) ?_ ?_
                                        rotate_left
                                        · show Act.put _ (some 97) _ = _
                                          simp only [Act.put, List.setIfInBounds_toArray, List.set_cons_zero, List.set_cons_succ, i64_w, i32_w]
                                          rfl
                                        refine pure_ (i := 7) (N := some 90) (v := ?_) (a' := ?_) #[true, true, true, true, true, true, true, true, false, false, false, false] rfl rfl (any_of HT_.out (by kernel_rfl)) (fun _ _ _ h => h) (Or.inl ⟨by rfl, ?_⟩) ?_ ?_
                                        rotate_left
                                        · intro w'
                                          go_simp
                                          with_reducible rfl
                                        rotate_left
                                        · simp only [Act.put, List.setIfInBounds_toArray, List.set_cons_zero, List.set_cons_succ, i64_w, i32_w]
                                          rfl
                                        refine pure_ (i := 8) (N := some 98) (v := ?_) (a' := ?_) #[true, true, true, true, true, true, true, true, true, false, false, false] rfl rfl (any_of HT_.out (by kernel_rfl)) (fun _ _ _ h => h) (Or.inl ⟨by rfl, ?_⟩) ?_ ?_
                                        rotate_left
                                        · intro w'
                                          go_simp
                                          with_reducible rfl
                                        rotate_left
                                        · simp only [Act.put, List.setIfInBounds_toArray, List.set_cons_zero, List.set_cons_succ, i64_w, i32_w]
                                          rfl
                                        refine pure_ (i := 9) (N := some 99) (v := ?_) (a' := ?_) #[true, true, true, true, true, true, true, true, true, true, false, false] rfl rfl (any_of HT_.out (by kernel_rfl)) (fun _ _ _ h => h) (Or.inl ⟨by rfl, ?_⟩) ?_ ?_
                                        rotate_left
                                        · intro w'
                                          go_simp
                                          with_reducible rfl
                                        rotate_left
                                        · simp only [Act.put, List.setIfInBounds_toArray, List.set_cons_zero, List.set_cons_succ, i64_w, i32_w]
                                          rfl
                                        refine pure_ (i := 10) (N := some 17) (v := ?_) (a' := ?_) #[true, true, true, true, true, true, true, true, true, true, true, false] rfl rfl (any_of HT_.out (by kernel_rfl)) (fun _ _ _ h => h) (Or.inl ⟨by rfl, ?_⟩) ?_ ?_
                                        rotate_left
                                        · intro w'
                                          go_simp
                                          with_reducible rfl
                                        rotate_left
                                        · simp only [Act.put, List.setIfInBounds_toArray, List.set_cons_zero, List.set_cons_succ, i64_w, i32_w]
                                          rfl
                                        refine pure_ (i := 11) (N := some 18) (v := ?_) (a' := ?_) #[true, true, true, true, true, true, true, true, true, true, true, true] rfl rfl (any_of HT_.out (by kernel_rfl)) (fun _ _ _ h => h) (Or.inl ⟨by rfl, ?_⟩) ?_ ?_
                                        rotate_left
                                        · intro w'
                                          go_simp
                                          with_reducible rfl
                                        rotate_left
                                        · simp only [Act.put, List.setIfInBounds_toArray, List.set_cons_zero, List.set_cons_succ, i64_w, i32_w]
                                          rfl
                                        refine done_ (done_of HT_.out (by kernel_rfl)) ?_
                                        try go_wp2
                                        have n0_ := Aside0.mk (Kd.R_drew HO_6.out)
                                        have n1_ := Aside0.mk (Kd.R_drew HO_12.out)
                                        have n2_ := Aside0.mk (Kd.R_drew HO_65.out)
                                        have n3_ := Aside0.mk (Kd.R_drew HO_84.out)
                                        have n4_ := Aside0.mk (blk_drew BK568.out)
                                        have n5_ := Aside0.mk (blk_drew BK574.out)
                                        have n6_ := Aside0.mk (below_drew1 HB.out)
                                        clear HO_6
                                        clear HO_12
                                        clear HO_65
                                        clear HO_84
                                        clear BK568
                                        clear BK574
                                        clear HB
                                        have HO_6 := n0_
                                        have HO_12 := n1_
                                        have HO_65 := n2_
                                        have HO_84 := n3_
                                        have BK568 := n4_
                                        have BK574 := n5_
                                        have HB := n6_
                                        clear n0_ n1_ n2_ n3_ n4_ n5_ n6_
                                        have p578 : 0 ≤ (0 : Int) := (by omega)
                                        have q578 : 0 < (t569.length : Int) := of_decide_eq_true (by first | (with_reducible assumption) | assumption)
                                        obtain ⟨ad578, e578, hx578_0, hx578_1⟩ := at_T52 (Kd.R_reads' HO_12.out).2.2 0 p578 q578
                                        obtain rfl : ad575 = ad578 := (by injection e578)
                                        have qi578 : (0 < t569.length) = True := eq_true (by omega)
                                        (try rw [show ((0 : Int)).toNat = 0 from rfl] at hx578_0)
                                        (try rw [show 0 * 2 = 0 from rfl] at hx578_0)
                                        (try rw [Addr.add_zero'] at hx578_0)
                                        (try rw [show ((0 : Int)).toNat = 0 from rfl] at hx578_1)
                                        (try rw [show 0 * 2 = 0 from rfl] at hx578_1)
                                        (try rw [Addr.add_zero'] at hx578_1)
                                        replace p578 := eq_true p578
                                        replace q578 := eq_true q578
                                        refine start_ (n := 12) (S := fun w' => w'.cell? ⟨gb574, 0, none⟩ = some (.int .u64 ((rd_T34 t559 x86_4).f0)) ∧ w'.cell? ⟨gb574, 1, none⟩ = some (.int .u64 ((rd_T34 t559 x86_4).f1)) ∧ w'.cell? ad575 = some (.int .u64 ((rd_T52 t569 0).f0)) ∧ w'.cell? ⟨ad575.block, ad575.off + 1, none⟩ = some (.int .u64 ((rd_T52 t569 0).f1))) (ds := []) #[false, false, false, false, false, false, false, false, false, false, false, false] (by kernel_rfl) rfl rfl ⟨(blk_cell BK574.out 0).trans rfl, (blk_cell BK574.out 1).trans rfl, hx578_0, hx578_1⟩ (fun hHeld => ?_); refine with_tabW medlarlaw11_DiffFewer.tab21 medlarlaw11_DiffFewer.bits21 (fun HT_ HW_ => ?_)
                                        generalize w49.drew = w50 at HO_6 HO_12 HO_65 HO_84 BK568 BK574 HB hx578_0 hx578_1 hHeld ⊢
                                        refine pure_ (i := 0) (N := some 101) (v := ?_) (a' := ?_) #[true, false, false, false, false, false, false, false, false, false, false, false] rfl rfl (any_of HT_.out (by kernel_rfl)) (fun _ _ _ h => h) (Or.inl ⟨by rfl, ?_⟩) ?_ ?_
                                        rotate_left
                                        · intro w'
                                          go_simp
                                          with_reducible rfl
                                        rotate_left
                                        · simp only [Act.put, List.setIfInBounds_toArray, List.set_cons_zero, List.set_cons_succ, i64_w, i32_w]
                                          rfl
                                        refine pure_ (i := 2) (N := some 103) (v := ?_) (a' := ?_) #[true, false, true, false, false, false, false, false, false, false, false, false] rfl rfl (any_of HT_.out (by kernel_rfl)) (fun _ _ _ h => h) (Or.inl ⟨by rfl, ?_⟩) ?_ ?_
                                        rotate_left
                                        · intro w'
                                          go_simp
                                          with_reducible rfl
                                        rotate_left
                                        · simp only [Act.put, List.setIfInBounds_toArray, List.set_cons_zero, List.set_cons_succ, i64_w, i32_w]
                                          rfl
                                        refine pure_ (i := 3) (N := some 104) (v := ?_) (a' := ?_) #[true, false, true, true, false, false, false, false, false, false, false, false] rfl rfl (any_of HT_.out (by kernel_rfl)) (fun _ _ _ h => h) (Or.inl ⟨by rfl, ?_⟩) ?_ ?_
                                        rotate_left
                                        · intro w'
                                          go_simp
                                          with_reducible rfl
                                        rotate_left
                                        · simp only [Act.put, List.setIfInBounds_toArray, List.set_cons_zero, List.set_cons_succ, i64_w, i32_w]
                                          rfl
                                        refine pure_ (i := 4) (N := some 105) (v := ?_) (a' := ?_) #[true, false, true, true, true, false, false, false, false, false, false, false] rfl rfl (any_of HT_.out (by kernel_rfl)) (fun _ _ _ h => h) (Or.inl ⟨by rfl, ?_⟩) ?_ ?_
                                        rotate_left
                                        · intro w'
                                          go_simp
                                          with_reducible rfl
                                        rotate_left
                                        · simp only [Act.put, List.setIfInBounds_toArray, List.set_cons_zero, List.set_cons_succ, i64_w, i32_w]
                                          rfl
                                        refine take_ (i := 1) (N := some 102) (v := ?_) (a' := ?_) #[true, true, true, true, true, false, false, false, false, false, false, false] rfl rfl (take_ofW HT_.out HW_.out (by kernel_rfl)) (fun _ _ _ h => h) (Or.inl ⟨by rfl, ?_⟩) hHeld ?_ ?_
                                        rotate_left
                                        · rintro w' ⟨s0, s1, s2, s3⟩
                                          go_simp
                                          with_reducible rfl
                                        rotate_left
                                        · simp only [Act.put, List.setIfInBounds_toArray, List.set_cons_zero, List.set_cons_succ, i64_w, i32_w]
                                          rfl
                                        refine take_ (i := 5) (N := some 106) (v := ?_) (a' := ?_) #[true, true, true, true, true, true, false, false, false, false, false, false] rfl rfl (take_ofW HT_.out HW_.out (by kernel_rfl)) (fun _ _ _ h => h) (Or.inl ⟨by rfl, ?_⟩) hHeld ?_ ?_
                                        rotate_left
                                        · rintro w' ⟨s0, s1, s2, s3⟩
                                          go_simp
                                          with_reducible rfl
                                        rotate_left
                                        · simp only [Act.put, List.setIfInBounds_toArray, List.set_cons_zero, List.set_cons_succ, i64_w, i32_w]
                                          rfl
                                        refine one_ (i := 6) (N := some 107) #[true, true, true, true, true, true, true, false, false, false, false, false] rfl rfl (one_of HT_.out (by kernel_rfl)) (by decide) (fun K hK => ?_)
                                        refine goes_ Try.func20 (by kernel_rfl) rfl #[.int .i64 a0, .agg #[.int .u64 ((rd_T34 t559 x86_4).f0), .int .u64 ((rd_T34 t559 x86_4).f1)], .int .u64 ((rd_T52 t569 0).f1)] (by rfl) rfl rfl (by (try simp only [List.map_toArray, List.map_cons, List.map_nil]); first | done | rfl | (simp only [List.length_drop, List.length_take]; rfl)) ?_
                                        with_reducible refine (sub_Has.calls k4 a0 ((rd_T34 t559 x86_4).f0) ((rd_T34 t559 x86_4).f1) ((rd_T52 t569 0).f1) t579 t580 _ A41.out).mono ?_
                                        rintro e w51 ⟨rfl, hb⟩
                                        have HS2_ := (hb.cell (World.block_lt_of_cell? _ _ (hHeld.2.2.1))).trans (hHeld.2.2.1)
                                        have HS3_ := (hb.cell (World.block_lt_of_cell? _ _ (hHeld.2.2.2))).trans (hHeld.2.2.2)
                                        refine ⟨_, rfl, ?_⟩
                                        have n0_ := Aside0.mk (Kd.R_below (by (with_reducible repeat (first | apply Kd.R_alloc | apply Kd.R_drewN | apply Kd.R_drew)); exact HO_6.out) hb)
                                        have n1_ := Aside0.mk (Kd.R_below (by (with_reducible repeat (first | apply Kd.R_alloc | apply Kd.R_drewN | apply Kd.R_drew)); exact HO_12.out) hb)
                                        have n2_ := Aside0.mk (Kd.R_below (by (with_reducible repeat (first | apply Kd.R_alloc | apply Kd.R_drewN | apply Kd.R_drew)); exact HO_65.out) hb)
                                        have n3_ := Aside0.mk (Kd.R_below (by (with_reducible repeat (first | apply Kd.R_alloc | apply Kd.R_drewN | apply Kd.R_drew)); exact HO_84.out) hb)
                                        have n4_ := Aside0.mk (blk_below (g := gb568) (o := .cells #[.int .u64 ((rd_T34 t563 x67_2).f0), .int .u64 ((rd_T34 t563 x67_2).f1)] 34 (0, 0)) (by (with_reducible repeat (first | refine blk_drewN ?_ _ | refine blk_drew ?_ | refine blk_alloc ?_ _)); exact BK568.out) hb)
                                        have n5_ := Aside0.mk (blk_below (g := gb574) (o := .cells #[.int .u64 ((rd_T34 t559 x86_4).f0), .int .u64 ((rd_T34 t559 x86_4).f1)] 34 (0, 0)) (by (with_reducible repeat (first | refine blk_drewN ?_ _ | refine blk_drew ?_ | refine blk_alloc ?_ _)); exact BK574.out) hb)
                                        have n6_ := Aside0.mk (below_step (by repeat (first | (with_reducible first | exact HB.out | apply below_alloc | apply pw_below_drewN | apply below_drew1 | refine below_set ?_ GE568.out | refine below_set ?_ GE574.out) | exact HB.out)) hb)
                                        clear HO_6
                                        clear HO_12
                                        clear HO_65
                                        clear HO_84
                                        clear BK568
                                        clear BK574
                                        clear HB
                                        have HO_6 := n0_
                                        have HO_12 := n1_
                                        have HO_65 := n2_
                                        have HO_84 := n3_
                                        have BK568 := n4_
                                        have BK574 := n5_
                                        have HB := n6_
                                        clear n0_ n1_ n2_ n3_ n4_ n5_ n6_
                                        (try clear hb)
                                        (try clear hb2)
                                        (try clear hk)
                                        (try clear hi)
                                        refine hK.out _ _ ⟨(blk_cell BK574.out 0).trans rfl, (blk_cell BK574.out 1).trans rfl, HS2_, HS3_⟩ (fun hHeld => ?_)
                                        clear hK K
                                        refine norm_ (a' := ?_) ?_ ?_
                                        rotate_left
                                        · show Act.put _ (some 107) _ = _
                                          simp only [Act.put, List.setIfInBounds_toArray, List.set_cons_zero, List.set_cons_succ, i64_w, i32_w]
                                          rfl
                                        refine pure_ (i := 7) (N := some 100) (v := ?_) (a' := ?_) #[true, true, true, true, true, true, true, true, false, false, false, false] rfl rfl (any_of HT_.out (by kernel_rfl)) (fun _ _ _ h => h) (Or.inl ⟨by rfl, ?_⟩) ?_ ?_
                                        rotate_left
                                        · intro w'
                                          go_simp
                                          with_reducible rfl
                                        rotate_left
                                        · simp only [Act.put, List.setIfInBounds_toArray, List.set_cons_zero, List.set_cons_succ, i64_w, i32_w]
                                          rfl
                                        refine pure_ (i := 8) (N := some 108) (v := ?_) (a' := ?_) #[true, true, true, true, true, true, true, true, true, false, false, false] rfl rfl (any_of HT_.out (by kernel_rfl)) (fun _ _ _ h => h) (Or.inl ⟨by rfl, ?_⟩) ?_ ?_
                                        rotate_left
                                        · intro w'
                                          go_simp
                                          with_reducible rfl
                                        rotate_left
                                        · simp only [Act.put, List.setIfInBounds_toArray, List.set_cons_zero, List.set_cons_succ, i64_w, i32_w]
                                          rfl
                                        refine pure_ (i := 9) (N := some 109) (v := ?_) (a' := ?_) #[true, true, true, true, true, true, true, true, true, true, false, false] rfl rfl (any_of HT_.out (by kernel_rfl)) (fun _ _ _ h => h) (Or.inl ⟨by rfl, ?_⟩) ?_ ?_
                                        rotate_left
                                        · intro w'
                                          go_simp
                                          with_reducible rfl
                                        rotate_left
                                        · simp only [Act.put, List.setIfInBounds_toArray, List.set_cons_zero, List.set_cons_succ, i64_w, i32_w]
                                          rfl
                                        refine pure_ (i := 10) (N := some 19) (v := ?_) (a' := ?_) #[true, true, true, true, true, true, true, true, true, true, true, false] rfl rfl (any_of HT_.out (by kernel_rfl)) (fun _ _ _ h => h) (Or.inl ⟨by rfl, ?_⟩) ?_ ?_
                                        rotate_left
                                        · intro w'
                                          go_simp
                                          with_reducible rfl
                                        rotate_left
                                        · simp only [Act.put, List.setIfInBounds_toArray, List.set_cons_zero, List.set_cons_succ, i64_w, i32_w]
                                          rfl
                                        refine pure_ (i := 11) (N := some 20) (v := ?_) (a' := ?_) #[true, true, true, true, true, true, true, true, true, true, true, true] rfl rfl (any_of HT_.out (by kernel_rfl)) (fun _ _ _ h => h) (Or.inl ⟨by rfl, ?_⟩) ?_ ?_
                                        rotate_left
                                        · intro w'
                                          go_simp
                                          with_reducible rfl
                                        rotate_left
                                        · simp only [Act.put, List.setIfInBounds_toArray, List.set_cons_zero, List.set_cons_succ, i64_w, i32_w]
                                          rfl
                                        refine done_ (done_of HT_.out (by kernel_rfl)) ?_
                                        go_upto_region 22 with (fail)
                                        go_cut [120] (fun v120 wc => ∃ (kq : Nat) (x120_41 : Bool), v120 = .bool x120_41 ∧ Aside0 (medlarlaw11_DiffFewer.j4 kq a0 t558 t559 t569 x14_4 t576 t563 (t563.length : Int) x67_2 t559 (t559.length : Int) x86_4 x120_41 = some r) ∧ Aside0 (kq ≤ k4) ∧ Aside0 (Kd.R k34 34 wc w.heap.size (fun k_ => some k_ ≠ ((.slice (some ad567) t563.length co23) : Value).ownBlock ∧ k_ ≠ gb568 ∧ k_ ≠ gb574) (.slice (some ad573) t559.length co35) t559) ∧ Aside0 (Kd.R k52 52 wc w.heap.size (fun _ => True) (.slice (some ad575) t569.length co48) t569) ∧ Aside0 (Kd.R k34 34 wc w.heap.size (fun k_ => some k_ ≠ ((.slice (some ad573) t559.length co35) : Value).ownBlock ∧ some k_ ≠ ((.slice (some ad573) t559.length co35) : Value).ownBlock ∧ k_ ≠ gb568 ∧ k_ ≠ gb574) (.slice (some ad567) t563.length co23) t563) ∧ Aside0 (Kd.R k34 34 wc w.heap.size (fun k_ => some k_ ≠ ((.slice (some ad567) t563.length co23) : Value).ownBlock ∧ k_ ≠ gb568 ∧ k_ ≠ gb574) (.slice (some ad573) t559.length co35) t559) ∧ Aside0 (wc.heap[gb568]? = some (.cells #[.int .u64 ((rd_T34 t563 x67_2).f0), .int .u64 ((rd_T34 t563 x67_2).f1)] 34 (0, 0))) ∧ Aside0 (wc.heap[gb574]? = some (.cells #[.int .u64 ((rd_T34 t559 x86_4).f0), .int .u64 ((rd_T34 t559 x86_4).f1)] 34 (0, 0))) ∧ Aside0 (Below w.heap.size w wc))
                                        case first =>
                                          have H := HC42.out
                                          clear HC42
                                          by_cases c52 : t577 = 0
                                          · rw [if_pos c52] at H
                                            have c52b0 : (t577 == 0) = true := beq_iff_eq.mpr c52
                                            have c52b1 : (t577 != 0) = false := bne_eq_false_iff_eq.mpr c52
                                            clear c52
                                            (first | rw [c52b0] | (simp only [i64_w, i32_w]; rw [c52b0]) | skip)
                                            by_cases c53 : t580 = 0
                                            · rw [if_pos c53] at H
                                              have c53b0 : (t580 == 0) = true := beq_iff_eq.mpr c53
                                              have c53b1 : (t580 != 0) = false := bne_eq_false_iff_eq.mpr c53
                                              clear c53
                                              have H' := Aside0.mk H
                                              clear H
                                              go_wp2
                                              go_meet
                                              case rel => exact ⟨_, ((t576 != t579)), (by first | rfl | (simp; done) | (simp [*]; done)), H', ⟨by have := HJ8.out; have := HK2.out; have := HJ27.out; have := HK4.out; first | omega | exact Nat.le_refl _⟩, ⟨by (with_reducible repeat (first | apply Kd.R_alloc | apply Kd.R_drewN | apply Kd.R_drew)); exact HO_6.out⟩, ⟨by (with_reducible repeat (first | apply Kd.R_alloc | apply Kd.R_drewN | apply Kd.R_drew)); exact HO_12.out⟩, ⟨by (with_reducible repeat (first | apply Kd.R_alloc | apply Kd.R_drewN | apply Kd.R_drew)); exact HO_65.out⟩, ⟨by (with_reducible repeat (first | apply Kd.R_alloc | apply Kd.R_drewN | apply Kd.R_drew)); exact HO_84.out⟩, ⟨by (with_reducible repeat (first | refine blk_drewN ?_ _ | refine blk_drew ?_ | refine blk_alloc ?_ _)); exact BK568.out⟩, ⟨by (with_reducible repeat (first | refine blk_drewN ?_ _ | refine blk_drew ?_ | refine blk_alloc ?_ _)); exact BK574.out⟩, ⟨by repeat (first | (with_reducible first | exact HB.out | apply below_alloc | apply pw_below_drewN | apply below_drew1 | refine below_set ?_ GE568.out | refine below_set ?_ GE574.out) | exact HB.out)⟩⟩
                                            · rw [if_neg c53] at H
                                              have c53b0 : (t580 == 0) = false := beq_eq_false_iff_ne.mpr c53
                                              have c53b1 : (t580 != 0) = true := bne_iff_ne.mpr c53
                                              have H' := Aside0.mk H
                                              clear H
                                              go_wp2
                                              go_meet
                                              case rel => exact ⟨_, (true), (by first | rfl | (simp; done) | (simp [*]; done)), H', ⟨by have := HJ8.out; have := HK2.out; have := HJ27.out; have := HK4.out; first | omega | exact Nat.le_refl _⟩, ⟨by (with_reducible repeat (first | apply Kd.R_alloc | apply Kd.R_drewN | apply Kd.R_drew)); exact HO_6.out⟩, ⟨by (with_reducible repeat (first | apply Kd.R_alloc | apply Kd.R_drewN | apply Kd.R_drew)); exact HO_12.out⟩, ⟨by (with_reducible repeat (first | apply Kd.R_alloc | apply Kd.R_drewN | apply Kd.R_drew)); exact HO_65.out⟩, ⟨by (with_reducible repeat (first | apply Kd.R_alloc | apply Kd.R_drewN | apply Kd.R_drew)); exact HO_84.out⟩, ⟨by (with_reducible repeat (first | refine blk_drewN ?_ _ | refine blk_drew ?_ | refine blk_alloc ?_ _)); exact BK568.out⟩, ⟨by (with_reducible repeat (first | refine blk_drewN ?_ _ | refine blk_drew ?_ | refine blk_alloc ?_ _)); exact BK574.out⟩, ⟨by repeat (first | (with_reducible first | exact HB.out | apply below_alloc | apply pw_below_drewN | apply below_drew1 | refine below_set ?_ GE568.out | refine below_set ?_ GE574.out) | exact HB.out)⟩⟩
                                          · rw [if_neg c52] at H
                                            have c52b0 : (t577 == 0) = false := beq_eq_false_iff_ne.mpr c52
                                            have c52b1 : (t577 != 0) = true := bne_iff_ne.mpr c52
                                            (first | rw [c52b0] | (simp only [i64_w, i32_w]; rw [c52b0]) | skip)
                                            have H' := Aside0.mk H
                                            clear H
                                            go_wp2
                                            go_meet
                                            case rel => exact ⟨_, (true), (by first | rfl | (simp; done) | (simp [*]; done)), H', ⟨by have := HJ8.out; have := HK2.out; have := HJ27.out; have := HK4.out; first | omega | exact Nat.le_refl _⟩, ⟨by (with_reducible repeat (first | apply Kd.R_alloc | apply Kd.R_drewN | apply Kd.R_drew)); exact HO_6.out⟩, ⟨by (with_reducible repeat (first | apply Kd.R_alloc | apply Kd.R_drewN | apply Kd.R_drew)); exact HO_12.out⟩, ⟨by (with_reducible repeat (first | apply Kd.R_alloc | apply Kd.R_drewN | apply Kd.R_drew)); exact HO_65.out⟩, ⟨by (with_reducible repeat (first | apply Kd.R_alloc | apply Kd.R_drewN | apply Kd.R_drew)); exact HO_84.out⟩, ⟨by (with_reducible repeat (first | refine blk_drewN ?_ _ | refine blk_drew ?_ | refine blk_alloc ?_ _)); exact BK568.out⟩, ⟨by (with_reducible repeat (first | refine blk_drewN ?_ _ | refine blk_drew ?_ | refine blk_alloc ?_ _)); exact BK574.out⟩, ⟨by repeat (first | (with_reducible first | exact HB.out | apply below_alloc | apply pw_below_drewN | apply below_drew1 | refine below_set ?_ GE568.out | refine below_set ?_ GE574.out) | exact HB.out)⟩⟩
                                        case rest =>
                                          clear HC42
                                          try clear c1
                                          try clear c2
                                          try clear p2
                                          try clear c3
                                          try clear c4
                                          try clear c4b0
                                          try clear c4b1
                                          try clear c5
                                          try clear p5
                                          try clear q5
                                          try clear hx5
                                          try clear qi5
                                          try clear c7
                                          try clear c8
                                          try clear c8b0
                                          try clear c8b1
                                          try clear c13
                                          try clear c13b0
                                          try clear c13b1
                                          try clear c14
                                          try clear c14b0
                                          try clear c14b1
                                          try clear c15
                                          try clear c17
                                          try clear c17b0
                                          try clear c17b1
                                          try clear c20
                                          try clear c22
                                          try clear c24
                                          try clear c24b0
                                          try clear c25
                                          try clear c25b0
                                          try clear c26
                                          try clear c26b0
                                          try clear c29
                                          try clear c32
                                          try clear c32b0
                                          try clear c32b1
                                          try clear c34
                                          try clear c36
                                          try clear c36b0
                                          try clear c37
                                          try clear c37b0
                                          try clear c38
                                          try clear c38b0
                                          try clear c39
                                          try clear c39b0
                                          try clear c39b1
                                          try clear c44
                                          try clear c52
                                          try clear c52b0
                                          try clear c52b1
                                          try clear c53
                                          try clear c53b0
                                          try clear c53b1
                                          try clear hcz30_0
                                          try clear hcz30_1
                                          try clear hcz45_0
                                          try clear hcz45_1
                                          try clear hfz30_0
                                          try clear hfz30_1
                                          try clear hfz45_0
                                          try clear hfz45_1
                                          try clear hx567_0
                                          try clear hx567_1
                                          try clear hx573_0
                                          try clear hx573_1
                                          try clear hx575_0
                                          try clear hx575_1
                                          try clear hx578_0
                                          try clear hx578_1
                                          try clear p2
                                          try clear p5
                                          try clear p567
                                          try clear p573
                                          try clear p575
                                          try clear p578
                                          try clear q5
                                          try clear q567
                                          try clear q573
                                          try clear q575
                                          try clear q578
                                          obtain ⟨kq, x120_41, rfl, HA, HJ41, HO_6, HO_12, HO_65, HO_84, BK568, BK574, HB⟩ := hcut
                                          cases kq with
                                          | zero => exact absurd HA.out (by simp [medlarlaw11_DiffFewer.j4])
                                          | succ kj41 =>
                                            have H := HA.out
                                            clear HA
                                            simp only [medlarlaw11_DiffFewer.j4] at H
                                            by_cases c54 : x120_41 = true
                                            · subst c54
                                              have H1 : (some false) = some r := by rw [if_pos rfl] at H; exact H
                                              clear H
                                              have H := H1
                                              clear H1
                                              exact absurd ((Option.some.inj H).trans hT.out) Bool.false_ne_true
                                            · replace c54 := Bool.eq_false_iff.mpr c54
                                              subst c54
                                              have H1 : (if t576 = true then (medlarlaw11_DiffFewer.l1 kj41 a0 t558 t559 t569 (wrap64 (x14_4 + 1)) t563 (t563.length : Int) x67_2 t559 (t559.length : Int) (wrap64 (x86_4 + 1))) else (medlarlaw11_DiffFewer.l1 kj41 a0 t558 t559 t569 x14_4 t563 (t563.length : Int) x67_2 t559 (t559.length : Int) (wrap64 (x86_4 + 1)))) = some r := by rw [if_neg (show ¬ (false = true) by decide)] at H; exact H
                                              clear H
                                              have H := H1
                                              clear H1
                                              by_cases c55 : t576 = true
                                              · subst c55
                                                have H1 : (medlarlaw11_DiffFewer.l1 kj41 a0 t558 t559 t569 (wrap64 (x14_4 + 1)) t563 (t563.length : Int) x67_2 t559 (t559.length : Int) (wrap64 (x86_4 + 1))) = some r := by rw [if_pos rfl] at H; exact H
                                                clear H
                                                have H := H1
                                                clear H1
                                                have H' := Aside0.mk H
                                                clear H
                                                go_wp2
                                                go_roundg kj41
                                                case measure => have := HJ8.out; have := HK2.out; have := HJ27.out; have := HK4.out; have := HJ41.out; omega
                                                case rel => exact ⟨(wrap64 (x14_4 + 1)), (wrap64 (x86_4 + 1)), (by first | rfl | (simp; done) | (simp [*]; done)), (by first | rfl | (simp; done) | (simp [*]; done)), H', ⟨by have := HJ8.out; have := HK2.out; have := HJ27.out; have := HK4.out; have := HJ41.out; omega⟩, ⟨by (with_reducible repeat (first | apply Kd.R_alloc | apply Kd.R_drewN | apply Kd.R_drew)); exact Kd.R_mono HO_6.out (fun _ hk => ⟨hk.1, hk.2.1⟩)⟩, ⟨by (with_reducible repeat (first | apply Kd.R_alloc | apply Kd.R_drewN | apply Kd.R_drew)); exact HO_12.out⟩, ⟨by (with_reducible repeat (first | apply Kd.R_alloc | apply Kd.R_drewN | apply Kd.R_drew)); exact Kd.R_mono HO_65.out (fun _ hk => ⟨hk.1, ⟨hk.2.1, hk.2.2.1⟩⟩)⟩, ⟨by (with_reducible repeat (first | apply Kd.R_alloc | apply Kd.R_drewN | apply Kd.R_drew)); exact Kd.R_mono HO_84.out (fun _ hk => ⟨hk.1, hk.2.1⟩)⟩, ⟨by (with_reducible repeat (first | refine blk_drewN ?_ _ | refine blk_drew ?_ | refine blk_alloc ?_ _)); exact BK568.out⟩, ⟨by repeat (first | (with_reducible first | exact HB.out | apply below_alloc | apply pw_below_drewN | apply below_drew1 | refine below_set ?_ GE568.out | refine below_set ?_ GE574.out) | exact HB.out)⟩⟩
                                              · replace c55 := Bool.eq_false_iff.mpr c55
                                                subst c55
                                                have H1 : (medlarlaw11_DiffFewer.l1 kj41 a0 t558 t559 t569 x14_4 t563 (t563.length : Int) x67_2 t559 (t559.length : Int) (wrap64 (x86_4 + 1))) = some r := by rw [if_neg (show ¬ (false = true) by decide)] at H; exact H
                                                clear H
                                                have H := H1
                                                clear H1
                                                have H' := Aside0.mk H
                                                clear H
                                                go_wp2
                                                go_roundg kj41
                                                case measure => have := HJ8.out; have := HK2.out; have := HJ27.out; have := HK4.out; have := HJ41.out; omega
                                                case rel => exact ⟨(x14_4), (wrap64 (x86_4 + 1)), (by first | rfl | (simp; done) | (simp [*]; done)), (by first | rfl | (simp; done) | (simp [*]; done)), H', ⟨by have := HJ8.out; have := HK2.out; have := HJ27.out; have := HK4.out; have := HJ41.out; omega⟩, ⟨by (with_reducible repeat (first | apply Kd.R_alloc | apply Kd.R_drewN | apply Kd.R_drew)); exact Kd.R_mono HO_6.out (fun _ hk => ⟨hk.1, hk.2.1⟩)⟩, ⟨by (with_reducible repeat (first | apply Kd.R_alloc | apply Kd.R_drewN | apply Kd.R_drew)); exact HO_12.out⟩, ⟨by (with_reducible repeat (first | apply Kd.R_alloc | apply Kd.R_drewN | apply Kd.R_drew)); exact Kd.R_mono HO_65.out (fun _ hk => ⟨hk.1, ⟨hk.2.1, hk.2.2.1⟩⟩)⟩, ⟨by (with_reducible repeat (first | apply Kd.R_alloc | apply Kd.R_drewN | apply Kd.R_drew)); exact Kd.R_mono HO_84.out (fun _ hk => ⟨hk.1, hk.2.1⟩)⟩, ⟨by (with_reducible repeat (first | refine blk_drewN ?_ _ | refine blk_drew ?_ | refine blk_alloc ?_ _)); exact BK568.out⟩, ⟨by repeat (first | (with_reducible first | exact HB.out | apply below_alloc | apply pw_below_drewN | apply below_drew1 | refine below_set ?_ GE568.out | refine below_set ?_ GE574.out) | exact HB.out)⟩⟩
                                      · rw [if_neg c39] at H
                                        exact absurd H (by simp)
                                    · rw [if_neg c38] at H
                                      exact absurd H (by simp)
                                  · rw [if_neg c37] at H
                                    exact absurd H (by simp)
                                · rw [if_neg c36] at H
                                  have c36b0 : decide (x86_4 < (t559.length : Int)) = false := decide_eq_false c36
                                  clear c36
                                  by_cases c56 : x14_4 = 1
                                  · rw [if_pos c56] at H
                                    have c56b0 : (x14_4 == 1) = true := beq_iff_eq.mpr c56
                                    have c56b1 : (x14_4 != 1) = false := bne_eq_false_iff_eq.mpr c56
                                    clear c56
                                    have H' := Aside0.mk H
                                    clear H
                                    go_wp2
                                    go_roundg k4
                                    case measure => have := HJ8.out; have := HK2.out; have := HJ27.out; have := HK4.out; omega
                                    case rel => exact ⟨(wrap64 (x67_2 + 1)), (by first | rfl | (simp; done) | (simp [*]; done)), H', ⟨by have := HJ8.out; have := HK2.out; have := HJ27.out; have := HK4.out; omega⟩, ⟨by (with_reducible repeat (first | apply Kd.R_alloc | apply Kd.R_drewN | apply Kd.R_drew)); exact Kd.R_mono HO_6.out (fun _ hk => hk.1)⟩, ⟨by (with_reducible repeat (first | apply Kd.R_alloc | apply Kd.R_drewN | apply Kd.R_drew)); exact Kd.R_mono HO_65.out (fun _ hk => hk.1)⟩, ⟨by repeat (first | (with_reducible first | exact HB.out | apply below_alloc | apply pw_below_drewN | apply below_drew1 | refine below_set ?_ GE568.out) | exact HB.out)⟩⟩
                                  · rw [if_neg c56] at H
                                    have c56b0 : (x14_4 == 1) = false := beq_eq_false_iff_ne.mpr c56
                                    have c56b1 : (x14_4 != 1) = true := bne_iff_ne.mpr c56
                                    exact absurd ((Option.some.inj H).trans hT.out) Bool.false_ne_true
                    · rw [if_neg c26] at H
                      exact absurd H (by simp)
                  · rw [if_neg c25] at H
                    exact absurd H (by simp)
                · rw [if_neg c24] at H
                  have c24b0 : decide (x67_2 < (t563.length : Int)) = false := decide_eq_false c24
                  clear c24
                  obtain rfl := Option.some.inj H
                  go_wp2
                  go_ret
                  exact ⟨by first | rfl | (simp [errW_none, errW_some] <;> rfl) | (simp [*, errW_none, errW_some] <;> rfl), by repeat (first | (with_reducible first | exact HB.out | apply below_alloc | apply pw_below_drewN | apply below_drew1) | exact HB.out)⟩
    · rw [if_neg c8] at H
      have c8b0 : (t560 == 0) = false := beq_eq_false_iff_ne.mpr c8
      have c8b1 : (t560 != 0) = true := bne_iff_ne.mpr c8
      by_cases c57 : t558 = true
      · subst c57
        have H1 : (some (t560 == t564)) = some r := by rw [if_pos rfl] at H; exact H
        clear H
        have H := H1
        clear H1
        obtain rfl := Option.some.inj H
        go_enter Try.func7, Try.ntmps7
        go_wp2_with (first | ((with_reducible refine gate_callee (f := 14) rfl ?_); refine goesL_ (some 21) rfl rfl Try.func14 (by kernel_rfl) rfl #[] rfl (by (try simp only [List.map_toArray, List.map_cons, List.map_nil]); first | done | rfl | (simp only [List.length_drop, List.length_take]; rfl)) ?_; (with_reducible refine (medlarlaw11_live.calls k  true _ A3.out).mono ?_); rintro e w58 ⟨rfl, hb⟩; refine ⟨_, rfl, ?_⟩; have n0_ := Aside0.mk (below_step (by repeat (first | (with_reducible first | exact HB.out | apply below_alloc | apply pw_below_drewN | apply below_drew1) | exact HB.out)) hb); clear HB; have HB := n0_; clear n0_; (try clear hb); (try clear hb2); (try clear hk); (try clear hi)) | ((with_reducible refine gate_callee (f := 15) rfl ?_); refine goesL_ (some 29) rfl rfl Try.func15 (by kernel_rfl) rfl #[.int .i64 a0, .slice A1 l1.length c1] rfl (by (try simp only [List.map_toArray, List.map_cons, List.map_nil]); first | done | rfl | (simp only [List.length_drop, List.length_take]; rfl)) ?_; (with_reducible refine (diff_Cover.calls k a0 _ _ l1 t559 t560 _ ?side1 ?side2 A6.out).mono ?_); (case side1 => repeat (first | exact (Kd.C_below HR1.out HB.out) | (with_reducible refine Kd.C_alloc ?_ _) | (with_reducible refine Kd.C_drewN ?_ _) | (with_reducible refine Kd.C_drew ?_))); (case side2 => exact HC1.out); rintro e w59 ⟨v561, rfl, ho0, hb⟩; refine ⟨_, rfl, ?_⟩; have n0_ := Aside0.mk (Kd.R_lower ho0 (below_size (by repeat (first | (with_reducible first | exact HB.out | apply below_alloc | apply pw_below_drewN | apply below_drew1) | exact HB.out)))); have n1_ := Aside0.mk (below_step (by repeat (first | (with_reducible first | exact HB.out | apply below_alloc | apply pw_below_drewN | apply below_drew1) | exact HB.out)) hb); clear HB; have HO562 := n0_; have HB := n1_; clear n0_ n1_; (try clear hb); (try clear hb2); (try clear hk); (try clear hi); (try clear ho0)) | ((with_reducible refine gate_callee (f := 29) rfl ?_); refine goesL_ (some 35) rfl rfl Try.func29 (by kernel_rfl) rfl #[.int .i64 a0, .slice A1 l1.length c1] rfl (by (try simp only [List.map_toArray, List.map_cons, List.map_nil]); first | done | rfl | (simp only [List.length_drop, List.length_take]; rfl)) ?_; (with_reducible refine (whole_Cover.calls k a0 _ _ l1 t563 t564 _ ?side1 ?side2 A7.out).mono ?_); (case side1 => repeat (first | exact (Kd.C_below HR1.out HB.out) | (with_reducible refine Kd.C_alloc ?_ _) | (with_reducible refine Kd.C_drewN ?_ _) | (with_reducible refine Kd.C_drew ?_))); (case side2 => exact HC1.out); rintro e w60 ⟨v565, rfl, ho0, hb⟩; refine ⟨_, rfl, ?_⟩; have n0_ := Aside0.mk (Kd.R_elder' (by (with_reducible repeat (first | apply Kd.R_alloc | apply Kd.R_drewN | apply Kd.R_drew)); exact HO562.out) (Kd.R_base ho0) hb); have n1_ := Aside0.mk (Kd.R_lower (Kd.R_new' ho0 (Kd.R_lt (by (with_reducible repeat (first | apply Kd.R_alloc | apply Kd.R_drewN | apply Kd.R_drew)); exact HO562.out))) (below_size (by repeat (first | (with_reducible first | exact HB.out | apply below_alloc | apply pw_below_drewN | apply below_drew1) | exact HB.out)))); have n2_ := Aside0.mk (below_step (by repeat (first | (with_reducible first | exact HB.out | apply below_alloc | apply pw_below_drewN | apply below_drew1) | exact HB.out)) hb); clear HO562; clear HB; have HO562 := n0_; have HO566 := n1_; have HB := n2_; clear n0_ n1_ n2_; (try clear hb); (try clear hb2); (try clear hk); (try clear hi); (try clear ho0)))
        go_ret
        exact ⟨by first | rfl | (simp [errW_none, errW_some] <;> rfl) | (simp [*, errW_none, errW_some] <;> rfl), by repeat (first | (with_reducible first | exact HB.out | apply below_alloc | apply pw_below_drewN | apply below_drew1) | exact HB.out)⟩
      · replace c57 := Bool.eq_false_iff.mpr c57
        subst c57
        have H1 : (some false) = some r := by rw [if_neg (show ¬ (false = true) by decide)] at H; exact H
        clear H
        have H := H1
        clear H1
        exact absurd ((Option.some.inj H).trans hT.out) Bool.false_ne_true

/-- THE ONE PURE STATEMENT of medlarlaw11_DiffFewer: yours. -/
def medlarlaw11_DiffFewer.Pure : Prop := ∀ (a0 : Int) (l1 : List Int), (Lit.int .i64 a0).wf = true → l1.length ≤ maxLen → l1.length * 8 ≤ 140737488351232 → (∀ x ∈ l1, (Lit.int .u64 x).wf = true) → ∃ k, medlarlaw11_DiffFewer.f k a0 l1 = some true
theorem medlarlaw11_DiffFewer.walk (P : medlarlaw11_DiffFewer.Pure) (a0 : Int) (a1 : Option Addr) (len1 cap1 : Nat) (z1 : List Int) (w : World) (w0 : (Lit.int .i64 a0).wf = true) (w1 : (a1 = none ∧ len1 = 0 ∧ cap1 = 0 ∧ z1 = []) ∨ ∃ x, a1 = some x ∧ len1 ≤ cap1 ∧ cap1 ≤ maxLen ∧ z1.length = cap1 ∧ (∀ i, i < z1.length → w.cell? (x.add i) = some (.int .u64 (z1.getD i 0))) ∧ ∀ n ∈ z1, (Lit.int .u64 n).wf = true) (y1 : len1 * 8 ≤ 140737488351232) :
    Calls Try.prog 7 #[.int .i64 a0, .slice a1 len1 cap1] w fun e w' => e = .returned (.bool true) ∧ Below w.heap.size w w' := by
  obtain ⟨l1, rfl, hr1, hm1, hw1, hc1⟩ := ReadsInt.ofRowC w1
  obtain ⟨k, h⟩ := P a0 l1 w0 hm1 y1 hw1
  refine (medlarlaw11_DiffFewer.calls k a0 _ _ l1 true w (Kd.C_of_reads (d := (0 : Int)) (h1 := fun _ => rfl) hr1) hc1 h ⟨rfl⟩).mono ?_
  rintro e w' ⟨rfl, hd⟩
  exact ⟨rfl, hd⟩

end Go.Proofs.Ytmffkfakcbopcaa.MP
