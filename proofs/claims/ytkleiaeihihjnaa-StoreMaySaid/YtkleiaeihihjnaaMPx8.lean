-- written by a program of this session (wip/tools/mprint.sh) for this seat
import Derived.Test.YtkleiaeihihjnaaMPx0
import Derived.Test.YtkleiaeihihjnaaMPx1
import Derived.Test.YtkleiaeihihjnaaMPx2
import Derived.Test.YtkleiaeihihjnaaMPx6
import Derived.Test.YtkleiaeihihjnaaMPx7
namespace Go.Proofs.Ytkleiaeihihjnaa.MP
open Go.RowKit Go.Proofs.YtkleiaeihihjnaaW.PrintWords Go.Proofs.YtkleiaeihihjnaaW.PrintLast Go.Proofs.YtkleiaeihihjnaaW.PrintMore
open Option (bind_eq_some_iff some.injEq)
open _root_.Go.Proofs.Try
open List (setIfInBounds_toArray set_cons_zero set_cons_succ map_toArray map_cons map_nil length_drop length_take)
attribute [local go_sem] max2_int min2_int max_two min_two max_three min_three max_four min_four
set_option linter.unusedVariables false
set_option linter.unusedSimpArgs false
attribute [local go_sem high] eqA34 eqA48
mutual
def medlarlaw14_StoreMay.j0 : Nat → Bool → List (S50) → List (S50) → Bool → Option (Bool)
  | 0, _, _, _, _ => none
  | k + 1, x9, x11, x14, x106 => if x106 = true then (some false) else (medlarlaw14_StoreMay.l0 k x9 x11 x14 (x11.length : Int) 0)
def medlarlaw14_StoreMay.l0 : Nat → Bool → List (S50) → List (S50) → Int → Int → Option (Bool)
  | 0, _, _, _, _, _ => none
  | k + 1, x9, x11, x14, x108, x109 => if x109 < x108 then (if 0 ≤ x109 then (if x109 < (x11.length : Int) then (if x109 < (x14.length : Int) then (if (!(((rd_T50 x11 x109).f0.f0) == ((rd_T50 x14 x109).f0.f0)) || (!(((rd_T50 x11 x109).f0.f1) == ((rd_T50 x14 x109).f0.f1)))) = true then (some false) else (if x109 ≤ (x11.length : Int) then ((some (x11.take (x109 : Int).toNat : List (S50))).bind fun y356 => (medlarlaw14_StoreMay.l1 k x9 x11 x14 x109 x108 x109 y356 (y356.length : Int) 0)) else (none))) else (none)) else (none)) else (none)) else (some x9)
def medlarlaw14_StoreMay.l1 : Nat → Bool → List (S50) → List (S50) → Int → Int → Int → List (S50) → Int → Int → Option (Bool)
  | 0, _, _, _, _, _, _, _, _, _ => none
  | k + 1, x9, x11, x14, x19, x108, x109, x125, x126, x127 => if x127 < x126 then (if 0 ≤ x127 then (if x127 < (x125.length : Int) then (if 0 ≤ x19 then (if x19 < (x11.length : Int) then (if (((rd_T50 x125 x127).f1.f0) == ((rd_T50 x11 x19).f1.f0) && (((rd_T50 x125 x127).f1.f1) == ((rd_T50 x11 x19).f1.f1) && ((((rd_T50 x125 x127).f1.f2.f0) == ((rd_T50 x11 x19).f1.f2.f0) && (((rd_T50 x125 x127).f1.f2.f1) == ((rd_T50 x11 x19).f1.f2.f1))) && (((((rd_T50 x125 x127).f1.f3.f0.f0) == ((rd_T50 x11 x19).f1.f3.f0.f0) && (((rd_T50 x125 x127).f1.f3.f0.f1) == ((rd_T50 x11 x19).f1.f3.f0.f1))) && ((((rd_T50 x125 x127).f1.f3.f1.f0) == ((rd_T50 x11 x19).f1.f3.f1.f0) && (((rd_T50 x125 x127).f1.f3.f1.f1) == ((rd_T50 x11 x19).f1.f3.f1.f1))))) && (((rd_T50 x125 x127).f1.f4) == ((rd_T50 x11 x19).f1.f4)))))) = true then (some false) else (medlarlaw14_StoreMay.l1 k x9 x11 x14 x19 x108 x109 x125 x126 (wrap64 (x127 + 1)))) else (none)) else (none)) else (none)) else (none)) else (medlarlaw14_StoreMay.l0 k x9 x11 x14 x108 (wrap64 (x109 + 1)))
end
def medlarlaw14_StoreMay.f (k : Nat) (a0_0 : Int) (a0_1 : Int) (a1 : Int) (a2 : Int) (a3 : Int) : Option (Bool) := (medlarlaw14_live.f k).bind fun t332 => (if a1 > 8 then (some t332) else ((store_Make.f k (([(⟨1, 0, 0⟩ : S45)] : List (S45))) a1 a2 true false 0 0 0 0 0 0 0 a3).bind fun bt336 => ((store_Make.f k ([] : List (S45)) a1 a2 false false a0_0 a0_1 0 0 0 0 0 a3).bind fun bt343 => (if bt336.2.2 = 0 then ((store_Many.f k a1 a2).bind fun bt350 => (if bt343.2.2 = 0 then (if bt350.2 = 0 then (if (bt336.1.length : Int) = bt350.1 then (if (bt343.1.length : Int) = bt350.1 then (if (bt343.2.1.length : Int) = 0 then ((store_Check.f k bt336.2.1 a1 a2 a3 bt336.1).bind fun t352 => (if t352 = 0 then ((store_Check.f k ([] : List (S45)) a1 a2 a3 bt343.1).bind fun t353 => (medlarlaw14_StoreMay.j0 k t332 bt336.1 bt343.1 (t353 != 0))) else (medlarlaw14_StoreMay.j0 k t332 bt336.1 bt343.1 true))) else (medlarlaw14_StoreMay.j0 k t332 bt336.1 bt343.1 true)) else (medlarlaw14_StoreMay.j0 k t332 bt336.1 bt343.1 true)) else (medlarlaw14_StoreMay.j0 k t332 bt336.1 bt343.1 true)) else (medlarlaw14_StoreMay.j0 k t332 bt336.1 bt343.1 true)) else (medlarlaw14_StoreMay.j0 k t332 bt336.1 bt343.1 true))) else (if t332 = true then (if bt336.2.2 = bt343.2.2 then (some ((bt336.1.length : Int) == 0)) else (some false)) else (some false))))))
theorem medlarlaw14_StoreMay.mono_l : ∀ k, (∀ y0 y1 y2 y3, LeO (medlarlaw14_StoreMay.j0 k y0 y1 y2 y3) (medlarlaw14_StoreMay.j0 (k + 1) y0 y1 y2 y3)) ∧ (∀ y0 y1 y2 y3 y4, LeO (medlarlaw14_StoreMay.l0 k y0 y1 y2 y3 y4) (medlarlaw14_StoreMay.l0 (k + 1) y0 y1 y2 y3 y4)) ∧ (∀ y0 y1 y2 y3 y4 y5 y6 y7 y8, LeO (medlarlaw14_StoreMay.l1 k y0 y1 y2 y3 y4 y5 y6 y7 y8) (medlarlaw14_StoreMay.l1 (k + 1) y0 y1 y2 y3 y4 y5 y6 y7 y8))
  | 0 => ⟨fun _ _ _ _ r h => by simp [medlarlaw14_StoreMay.j0] at h, fun _ _ _ _ _ r h => by simp [medlarlaw14_StoreMay.l0] at h, fun _ _ _ _ _ _ _ _ _ r h => by simp [medlarlaw14_StoreMay.l1] at h⟩
  | k + 1 => by
   obtain ⟨ih0, ih1, ih2⟩ := medlarlaw14_StoreMay.mono_l k
   refine ⟨?_, ?_, ?_⟩
   all_goals intros
   all_goals first | unfold medlarlaw14_StoreMay.j0 | unfold medlarlaw14_StoreMay.l0 | unfold medlarlaw14_StoreMay.l1
   all_goals repeat' first | (with_reducible first | exact ih0 .. | exact ih1 .. | exact ih2 .. | exact medlarlaw14_live.mono .. | exact store_Check.mono .. | exact store_Make.mono .. | exact store_Many.mono .. | exact LeO.refl _ | exact LeO.none _ | refine LeO.ite ?_ ?_ | refine LeO.bind ?_ (fun _ => ?_)) | exact ih0 .. | exact ih1 .. | exact ih2 .. | exact medlarlaw14_live.mono .. | exact store_Check.mono .. | exact store_Make.mono .. | exact store_Many.mono .. | refine LeO.ite ?_ ?_ | refine LeO.bind ?_ (fun _ => ?_)
theorem medlarlaw14_StoreMay.mono : ∀ a0 a1 a2 a3 a4 k, LeO (medlarlaw14_StoreMay.f k a0 a1 a2 a3 a4) (medlarlaw14_StoreMay.f (k + 1) a0 a1 a2 a3 a4) := by
  intro a0 a1 a2 a3 a4 k
  obtain ⟨ih0, ih1, ih2⟩ := medlarlaw14_StoreMay.mono_l k
  unfold medlarlaw14_StoreMay.f
  repeat' first | (with_reducible first | exact ih0 .. | exact ih1 .. | exact ih2 .. | exact medlarlaw14_live.mono .. | exact store_Check.mono .. | exact store_Make.mono .. | exact store_Many.mono .. | exact LeO.refl _ | exact LeO.none _ | refine LeO.ite ?_ ?_ | refine LeO.bind ?_ (fun _ => ?_)) | exact ih0 .. | exact ih1 .. | exact ih2 .. | exact medlarlaw14_live.mono .. | exact store_Check.mono .. | exact store_Make.mono .. | exact store_Many.mono .. | refine LeO.ite ?_ ?_ | refine LeO.bind ?_ (fun _ => ?_)
set_option maxHeartbeats 8000000 in
set_option maxRecDepth 100000 in
theorem medlarlaw14_StoreMay.calls (k : Nat) (a0_0 : Int) (a0_1 : Int) (a1 : Int) (a2 : Int) (a3 : Int) (r : Bool) (w : World) (h : medlarlaw14_StoreMay.f k a0_0 a0_1 a1 a2 a3 = some r) (hT : Aside0 (r = true)) :
   Calls Try.prog 4 #[.agg #[.int .u64 a0_0, .int .u64 a0_1], .int .i64 a1, .int .i64 a2, .int .u64 a3] w fun e w' => e = .returned (.bool r) ∧ Below w.heap.size w w' := by
  have hu24 := underlying24
  have hu45 := underlying45
  have hu34 := underlying34
  have hu48 := underlying48
  have hu50 := underlying50
  have HB := ak_ (Below.refl w.heap.size w)
  have H : ((medlarlaw14_live.f k).bind fun t332 => (if a1 > 8 then (some t332) else ((store_Make.f k (([(⟨1, 0, 0⟩ : S45)] : List (S45))) a1 a2 true false 0 0 0 0 0 0 0 a3).bind fun bt336 => ((store_Make.f k ([] : List (S45)) a1 a2 false false a0_0 a0_1 0 0 0 0 0 a3).bind fun bt343 => (if bt336.2.2 = 0 then ((store_Many.f k a1 a2).bind fun bt350 => (if bt343.2.2 = 0 then (if bt350.2 = 0 then (if (bt336.1.length : Int) = bt350.1 then (if (bt343.1.length : Int) = bt350.1 then (if (bt343.2.1.length : Int) = 0 then ((store_Check.f k bt336.2.1 a1 a2 a3 bt336.1).bind fun t352 => (if t352 = 0 then ((store_Check.f k ([] : List (S45)) a1 a2 a3 bt343.1).bind fun t353 => (medlarlaw14_StoreMay.j0 k t332 bt336.1 bt343.1 (t353 != 0))) else (medlarlaw14_StoreMay.j0 k t332 bt336.1 bt343.1 true))) else (medlarlaw14_StoreMay.j0 k t332 bt336.1 bt343.1 true)) else (medlarlaw14_StoreMay.j0 k t332 bt336.1 bt343.1 true)) else (medlarlaw14_StoreMay.j0 k t332 bt336.1 bt343.1 true)) else (medlarlaw14_StoreMay.j0 k t332 bt336.1 bt343.1 true)) else (medlarlaw14_StoreMay.j0 k t332 bt336.1 bt343.1 true))) else (if t332 = true then (if bt336.2.2 = bt343.2.2 then (some ((bt336.1.length : Int) == 0)) else (some false)) else (some false))))))) = some r := h
  clear h
  replace H := bind_eq_some_iff.mp H
  obtain ⟨t332, A50, H⟩ := H
  replace H : (if a1 > 8 then (some t332) else ((store_Make.f k (([(⟨1, 0, 0⟩ : S45)] : List (S45))) a1 a2 true false 0 0 0 0 0 0 0 a3).bind fun bt336 => ((store_Make.f k ([] : List (S45)) a1 a2 false false a0_0 a0_1 0 0 0 0 0 a3).bind fun bt343 => (if bt336.2.2 = 0 then ((store_Many.f k a1 a2).bind fun bt350 => (if bt343.2.2 = 0 then (if bt350.2 = 0 then (if (bt336.1.length : Int) = bt350.1 then (if (bt343.1.length : Int) = bt350.1 then (if (bt343.2.1.length : Int) = 0 then ((store_Check.f k bt336.2.1 a1 a2 a3 bt336.1).bind fun t352 => (if t352 = 0 then ((store_Check.f k ([] : List (S45)) a1 a2 a3 bt343.1).bind fun t353 => (medlarlaw14_StoreMay.j0 k t332 bt336.1 bt343.1 (t353 != 0))) else (medlarlaw14_StoreMay.j0 k t332 bt336.1 bt343.1 true))) else (medlarlaw14_StoreMay.j0 k t332 bt336.1 bt343.1 true)) else (medlarlaw14_StoreMay.j0 k t332 bt336.1 bt343.1 true)) else (medlarlaw14_StoreMay.j0 k t332 bt336.1 bt343.1 true)) else (medlarlaw14_StoreMay.j0 k t332 bt336.1 bt343.1 true)) else (medlarlaw14_StoreMay.j0 k t332 bt336.1 bt343.1 true))) else (if t332 = true then (if bt336.2.2 = bt343.2.2 then (some ((bt336.1.length : Int) == 0)) else (some false)) else (some false)))))) = some r := H
  have A5 := ak_ A50
  clear A50
  by_cases c6 : a1 > 8
  ·rw [if_pos c6] at H
   have c6b0 : decide (8 < a1) = true := decide_eq_true c6
   clear c6
   obtain rfl := Option.some.inj H
   go_enter func4, ntmps4
   go_wp2_with (first | ((with_reducible refine gate_dst (N := 4) rfl ?_); (try (refine gate_guard (by rfl) ?_; dsimp only)); refine bx_ 4 #[.int .u64 a0_0, .int .u64 a0_1] 24 ?_; intro gb331 hg w7 hbox hb; have BK331 := ak_ hbox; have GW331 := ak_ (gs_ hg HB); have GE331 := ak_ (gs_ hg HB); replace HB := ak_ (bt_ (bl_ HB) hb); clear hb hbox hg) | (go_at_call 12; (with_reducible refine (medlarlaw14_live.calls k  t332 _ A5.out).mono ?_); rintro e w8 ⟨rfl, hb⟩; replace BK331 := ak_ (kb_ (kl_ BK331) hb); replace HB := ak_ (bt_ (bw1_ HB GE331) hb); (try clear hb); (try clear hk)))
   repeat (go_quiet (first | ((with_reducible refine gate_dst (N := 4) rfl ?_); (try (refine gate_guard (by rfl) ?_; dsimp only)); refine bx_ 4 #[.int .u64 a0_0, .int .u64 a0_1] 24 ?_; intro gb331 hg w7 hbox hb; have BK331 := ak_ hbox; have GW331 := ak_ (gs_ hg HB); have GE331 := ak_ (gs_ hg HB); replace HB := ak_ (bt_ (bl_ HB) hb); clear hb hbox hg) | (go_at_call 12; (with_reducible refine (medlarlaw14_live.calls k  t332 _ A5.out).mono ?_); rintro e w8 ⟨rfl, hb⟩; replace BK331 := ak_ (kb_ (kl_ BK331) hb); replace HB := ak_ (bt_ (bw1_ HB GE331) hb); (try clear hb); (try clear hk))); try go_wp2_with (first | ((with_reducible refine gate_dst (N := 4) rfl ?_); (try (refine gate_guard (by rfl) ?_; dsimp only)); refine bx_ 4 #[.int .u64 a0_0, .int .u64 a0_1] 24 ?_; intro gb331 hg w7 hbox hb; have BK331 := ak_ hbox; have GW331 := ak_ (gs_ hg HB); have GE331 := ak_ (gs_ hg HB); replace HB := ak_ (bt_ (bl_ HB) hb); clear hb hbox hg) | (go_at_call 12; (with_reducible refine (medlarlaw14_live.calls k  t332 _ A5.out).mono ?_); rintro e w8 ⟨rfl, hb⟩; replace BK331 := ak_ (kb_ (kl_ BK331) hb); replace HB := ak_ (bt_ (bw1_ HB GE331) hb); (try clear hb); (try clear hk))))
   go_ret
   exact ea_ (bw1_ HB GE331)
  ·rw [if_neg c6] at H
   have c6b0 : decide (8 < a1) = false := decide_eq_false c6
   clear c6
   obtain ⟨y333, hy333⟩ : ∃ y_ : List (S45), y_ = (([(⟨1, 0, 0⟩ : S45)] : List (S45))) := ⟨_, rfl⟩
   replace H : ((store_Make.f k y333 a1 a2 true false 0 0 0 0 0 0 0 a3).bind fun bt336 => ((store_Make.f k ([] : List (S45)) a1 a2 false false a0_0 a0_1 0 0 0 0 0 a3).bind fun bt343 => (if bt336.2.2 = 0 then ((store_Many.f k a1 a2).bind fun bt350 => (if bt343.2.2 = 0 then (if bt350.2 = 0 then (if (bt336.1.length : Int) = bt350.1 then (if (bt343.1.length : Int) = bt350.1 then (if (bt343.2.1.length : Int) = 0 then ((store_Check.f k bt336.2.1 a1 a2 a3 bt336.1).bind fun t352 => (if t352 = 0 then ((store_Check.f k ([] : List (S45)) a1 a2 a3 bt343.1).bind fun t353 => (medlarlaw14_StoreMay.j0 k t332 bt336.1 bt343.1 (t353 != 0))) else (medlarlaw14_StoreMay.j0 k t332 bt336.1 bt343.1 true))) else (medlarlaw14_StoreMay.j0 k t332 bt336.1 bt343.1 true)) else (medlarlaw14_StoreMay.j0 k t332 bt336.1 bt343.1 true)) else (medlarlaw14_StoreMay.j0 k t332 bt336.1 bt343.1 true)) else (medlarlaw14_StoreMay.j0 k t332 bt336.1 bt343.1 true)) else (medlarlaw14_StoreMay.j0 k t332 bt336.1 bt343.1 true))) else (if t332 = true then (if bt336.2.2 = bt343.2.2 then (some ((bt336.1.length : Int) == 0)) else (some false)) else (some false))))) = some r := by first | (rw [hy333]; with_reducible exact H) | (have H2_ := (Option.bind_some _ _).symm.trans H; rw [hy333]; with_reducible exact H2_) | (have H2_ := (Option.bind_some _ _).symm.trans H; with_reducible exact H2_) | with_reducible exact H | (rw [hy333]; exact H) | exact H
   have Ny333 := ak_ hy333
   clear hy333
   replace H := bind_eq_some_iff.mp H
   obtain ⟨⟨t336, t339, t342⟩, A90, H⟩ := H
   replace H : ((store_Make.f k ([] : List (S45)) a1 a2 false false a0_0 a0_1 0 0 0 0 0 a3).bind fun bt343 => (if t342 = 0 then ((store_Many.f k a1 a2).bind fun bt350 => (if bt343.2.2 = 0 then (if bt350.2 = 0 then (if (t336.length : Int) = bt350.1 then (if (bt343.1.length : Int) = bt350.1 then (if (bt343.2.1.length : Int) = 0 then ((store_Check.f k t339 a1 a2 a3 t336).bind fun t352 => (if t352 = 0 then ((store_Check.f k ([] : List (S45)) a1 a2 a3 bt343.1).bind fun t353 => (medlarlaw14_StoreMay.j0 k t332 t336 bt343.1 (t353 != 0))) else (medlarlaw14_StoreMay.j0 k t332 t336 bt343.1 true))) else (medlarlaw14_StoreMay.j0 k t332 t336 bt343.1 true)) else (medlarlaw14_StoreMay.j0 k t332 t336 bt343.1 true)) else (medlarlaw14_StoreMay.j0 k t332 t336 bt343.1 true)) else (medlarlaw14_StoreMay.j0 k t332 t336 bt343.1 true)) else (medlarlaw14_StoreMay.j0 k t332 t336 bt343.1 true))) else (if t332 = true then (if t342 = bt343.2.2 then (some ((t336.length : Int) == 0)) else (some false)) else (some false)))) = some r := H
   have A9 := ak_ A90
   clear A90
   replace H := bind_eq_some_iff.mp H
   obtain ⟨⟨t343, t346, t349⟩, A100, H⟩ := H
   replace H : (if t342 = 0 then ((store_Many.f k a1 a2).bind fun bt350 => (if t349 = 0 then (if bt350.2 = 0 then (if (t336.length : Int) = bt350.1 then (if (t343.length : Int) = bt350.1 then (if (t346.length : Int) = 0 then ((store_Check.f k t339 a1 a2 a3 t336).bind fun t352 => (if t352 = 0 then ((store_Check.f k ([] : List (S45)) a1 a2 a3 t343).bind fun t353 => (medlarlaw14_StoreMay.j0 k t332 t336 t343 (t353 != 0))) else (medlarlaw14_StoreMay.j0 k t332 t336 t343 true))) else (medlarlaw14_StoreMay.j0 k t332 t336 t343 true)) else (medlarlaw14_StoreMay.j0 k t332 t336 t343 true)) else (medlarlaw14_StoreMay.j0 k t332 t336 t343 true)) else (medlarlaw14_StoreMay.j0 k t332 t336 t343 true)) else (medlarlaw14_StoreMay.j0 k t332 t336 t343 true))) else (if t332 = true then (if t342 = t349 then (some ((t336.length : Int) == 0)) else (some false)) else (some false))) = some r := H
   have A10 := ak_ A100
   clear A100
   by_cases c11 : t342 = 0
   ·rw [if_pos c11] at H
    have c11b0 : (t342 == 0) = true := beq_iff_eq.mpr c11
    have c11b1 : (t342 != 0) = false := bne_eq_false_iff_eq.mpr c11
    clear c11
    replace H := bind_eq_some_iff.mp H
    obtain ⟨⟨t350, t351⟩, A120, H⟩ := H
    replace H : (if t349 = 0 then (if t351 = 0 then (if (t336.length : Int) = t350 then (if (t343.length : Int) = t350 then (if (t346.length : Int) = 0 then ((store_Check.f k t339 a1 a2 a3 t336).bind fun t352 => (if t352 = 0 then ((store_Check.f k ([] : List (S45)) a1 a2 a3 t343).bind fun t353 => (medlarlaw14_StoreMay.j0 k t332 t336 t343 (t353 != 0))) else (medlarlaw14_StoreMay.j0 k t332 t336 t343 true))) else (medlarlaw14_StoreMay.j0 k t332 t336 t343 true)) else (medlarlaw14_StoreMay.j0 k t332 t336 t343 true)) else (medlarlaw14_StoreMay.j0 k t332 t336 t343 true)) else (medlarlaw14_StoreMay.j0 k t332 t336 t343 true)) else (medlarlaw14_StoreMay.j0 k t332 t336 t343 true)) = some r := H
    have A12 := ak_ A120
    clear A120
    have HC13 := ak_ H
    clear H
    go_enter func4, ntmps4
    go_upto_region 10 with (first | ((with_reducible refine gate_dst (N := 4) rfl ?_); (try (refine gate_guard (by rfl) ?_; dsimp only)); refine bx_ 4 #[.int .u64 a0_0, .int .u64 a0_1] 24 ?_; intro gb331 hg w14 hbox hb; have BK331 := ak_ hbox; have GW331 := ak_ (gs_ hg HB); have GE331 := ak_ (gs_ hg HB); replace HB := ak_ (bt_ (bl_ HB) hb); clear hb hbox hg) | (go_at_call 12; (with_reducible refine (medlarlaw14_live.calls k  t332 _ A5.out).mono ?_); rintro e w15 ⟨rfl, hb⟩; replace BK331 := ak_ (kb_ (kl_ BK331) hb); replace HB := ak_ (bt_ (bw1_ HB GE331) hb); (try clear hb); (try clear hk)) | ((with_reducible refine gate_dst (N := 27) rfl ?_); (try (refine gate_guard (by rfl) ?_; dsimp only)); refine Kd.R_lit k45 _ 45 ?hg (N := 27) ?hd (xs := ([(⟨1, 0, 0⟩ : S45)] : List (S45))) (inner := [.int .i64 1, .int .i64 0, .int .i64 0]) (ok := fun _ => True) (okp := fun _ => True) ?hr ?hp (fun _ hk => hk) trivial (Below.refl _ _) (Nat.le_refl _) (by simp) ?_; (case hd => rfl); (case hg => rfl); (case hr => first | (go_simp; done) | (go_simp; rfl)); (case hp => exact (Reps.c3 (show Kd.M k45 _ _ _ (⟨1, 0, 0⟩ : S45) [.int .i64 1, .int .i64 0, .int .i64 0] from (k45_mkM _ _ _ (⟨1, 0, 0⟩ : S45) )) (Reps.none _ _))); intro v334 w16 ho17 hb hg_ hnew_; clear hg_ hnew_; (first | rw [← Ny333.out] at ho17 | (simp only [Int.reduceToNat] at ho17; rw [← Ny333.out] at ho17)); have HO335 := ak_ (Kd.R_lower ho17 (bz_ (bw1_ HB GE331))); replace BK331 := ak_ (kb_ (kl_ BK331) hb); replace HB := ak_ (bt_ (bw1_ HB GE331) hb); clear hb ho17; obtain ⟨Ao18, co18, eo18⟩ := Kd.R_slice HO335.out; subst eo18) | (go_at_call 7; (with_reducible refine (store_Make.calls k _ _ y333 a1 a2 true false 0 0 0 0 0 0 0 a3 t336 t339 t342 _ ?side1 ?side2 A9.out).mono ?_); (case side1 => repeat (first | exact (Kd.R_reads' HO335.out).2.2 | (with_reducible refine Kd.C_alloc ?_ _) | (with_reducible refine Kd.C_drewN ?_ _) | (with_reducible refine Kd.C_drew ?_))); (case side2 => exact (Kd.R_reads' HO335.out).2.1); rintro e w19 ⟨v337, v340, rfl, ho0, ho1, hb⟩; have HO338 := ak_ (Kd.R_lower ho0 (bz_ (bw1_ HB GE331))); have HO341 := ak_ (Kd.R_lower (Kd.R_new' ho1 (Kd.R_lt (rl_ HO335))) (bz_ (bw1_ HB GE331))); replace HO335 := ak_ (Kd.R_elder' (rl_ HO335) (Kd.R_base ho1) hb); replace BK331 := ak_ (kb_ (kl_ BK331) hb); replace HB := ak_ (bt_ (bw1_ HB GE331) hb); (try clear hb); (try clear hk); (try clear ho0); (try clear ho1); obtain ⟨hcz20_0, hcz20_1, hfz20_0, hfz20_1⟩ := kc2_ BK331.out) | (go_at_call 7; (refine (store_Make.calls k _ _ ([] : List (S45)) a1 a2 false false a0_0 a0_1 0 0 0 0 0 a3 t343 t346 t349 _ ?side1 ?side2 A10.out).mono ?_); (case side1 => exact Kd.C_nil _ _); (case side2 => exact Nat.le_refl _); rintro e w21 ⟨v344, v347, rfl, ho0, ho1, hb⟩; have HO345 := ak_ (Kd.R_lower (Kd.R_new' ho0 (Kd.R_lt (rl_ HO338))) (bz_ (bw1_ HB GE331))); replace HO338 := ak_ (Kd.R_elder' (rl_ HO338) (Kd.R_base ho0) hb); have HO348 := ak_ (Kd.R_lower (Kd.R_new' (Kd.R_new' ho1 (Kd.R_lt (rl_ HO335))) (Kd.R_lt (rl_ HO341))) (bz_ (bw1_ HB GE331))); replace HO335 := ak_ (Kd.R_elder' (rl_ HO335) (Kd.R_base ho1) hb); replace HO341 := ak_ (Kd.R_elder' (rl_ HO341) (Kd.R_base ho1) hb); replace BK331 := ak_ (kb_ (kl_ BK331) hb); replace HB := ak_ (bt_ (bw1_ HB GE331) hb); (try clear hb); (try clear hk); (try clear ho0); (try clear ho1)) | (go_at_call 8; (with_reducible refine (store_Many.calls k a1 a2 t350 t351 _ A12.out).mono ?_); rintro e w22 ⟨rfl, hb⟩; replace HO335 := ak_ (Kd.R_below (rl_ HO335) hb); replace HO338 := ak_ (Kd.R_below (rl_ HO338) hb); replace HO341 := ak_ (Kd.R_below (rl_ HO341) hb); replace HO345 := ak_ (Kd.R_below (rl_ HO345) hb); replace HO348 := ak_ (Kd.R_below (rl_ HO348) hb); replace BK331 := ak_ (kb_ (kl_ BK331) hb); replace HB := ak_ (bt_ (bw1_ HB GE331) hb); (try clear hb); (try clear hk)))
    repeat (go_quiet (first | ((with_reducible refine gate_dst (N := 4) rfl ?_); (try (refine gate_guard (by rfl) ?_; dsimp only)); refine bx_ 4 #[.int .u64 a0_0, .int .u64 a0_1] 24 ?_; intro gb331 hg w14 hbox hb; have BK331 := ak_ hbox; have GW331 := ak_ (gs_ hg HB); have GE331 := ak_ (gs_ hg HB); replace HB := ak_ (bt_ (bl_ HB) hb); clear hb hbox hg) | (go_at_call 12; (with_reducible refine (medlarlaw14_live.calls k  t332 _ A5.out).mono ?_); rintro e w15 ⟨rfl, hb⟩; replace BK331 := ak_ (kb_ (kl_ BK331) hb); replace HB := ak_ (bt_ (bw1_ HB GE331) hb); (try clear hb); (try clear hk)) | ((with_reducible refine gate_dst (N := 27) rfl ?_); (try (refine gate_guard (by rfl) ?_; dsimp only)); refine Kd.R_lit k45 _ 45 ?hg (N := 27) ?hd (xs := ([(⟨1, 0, 0⟩ : S45)] : List (S45))) (inner := [.int .i64 1, .int .i64 0, .int .i64 0]) (ok := fun _ => True) (okp := fun _ => True) ?hr ?hp (fun _ hk => hk) trivial (Below.refl _ _) (Nat.le_refl _) (by simp) ?_; (case hd => rfl); (case hg => rfl); (case hr => first | (go_simp; done) | (go_simp; rfl)); (case hp => exact (Reps.c3 (show Kd.M k45 _ _ _ (⟨1, 0, 0⟩ : S45) [.int .i64 1, .int .i64 0, .int .i64 0] from (k45_mkM _ _ _ (⟨1, 0, 0⟩ : S45) )) (Reps.none _ _))); intro v334 w16 ho17 hb hg_ hnew_; clear hg_ hnew_; (first | rw [← Ny333.out] at ho17 | (simp only [Int.reduceToNat] at ho17; rw [← Ny333.out] at ho17)); have HO335 := ak_ (Kd.R_lower ho17 (bz_ (bw1_ HB GE331))); replace BK331 := ak_ (kb_ (kl_ BK331) hb); replace HB := ak_ (bt_ (bw1_ HB GE331) hb); clear hb ho17; obtain ⟨Ao18, co18, eo18⟩ := Kd.R_slice HO335.out; subst eo18) | (go_at_call 7; (with_reducible refine (store_Make.calls k _ _ y333 a1 a2 true false 0 0 0 0 0 0 0 a3 t336 t339 t342 _ ?side1 ?side2 A9.out).mono ?_); (case side1 => repeat (first | exact (Kd.R_reads' HO335.out).2.2 | (with_reducible refine Kd.C_alloc ?_ _) | (with_reducible refine Kd.C_drewN ?_ _) | (with_reducible refine Kd.C_drew ?_))); (case side2 => exact (Kd.R_reads' HO335.out).2.1); rintro e w19 ⟨v337, v340, rfl, ho0, ho1, hb⟩; have HO338 := ak_ (Kd.R_lower ho0 (bz_ (bw1_ HB GE331))); have HO341 := ak_ (Kd.R_lower (Kd.R_new' ho1 (Kd.R_lt (rl_ HO335))) (bz_ (bw1_ HB GE331))); replace HO335 := ak_ (Kd.R_elder' (rl_ HO335) (Kd.R_base ho1) hb); replace BK331 := ak_ (kb_ (kl_ BK331) hb); replace HB := ak_ (bt_ (bw1_ HB GE331) hb); (try clear hb); (try clear hk); (try clear ho0); (try clear ho1); obtain ⟨hcz20_0, hcz20_1, hfz20_0, hfz20_1⟩ := kc2_ BK331.out) | (go_at_call 7; (refine (store_Make.calls k _ _ ([] : List (S45)) a1 a2 false false a0_0 a0_1 0 0 0 0 0 a3 t343 t346 t349 _ ?side1 ?side2 A10.out).mono ?_); (case side1 => exact Kd.C_nil _ _); (case side2 => exact Nat.le_refl _); rintro e w21 ⟨v344, v347, rfl, ho0, ho1, hb⟩; have HO345 := ak_ (Kd.R_lower (Kd.R_new' ho0 (Kd.R_lt (rl_ HO338))) (bz_ (bw1_ HB GE331))); replace HO338 := ak_ (Kd.R_elder' (rl_ HO338) (Kd.R_base ho0) hb); have HO348 := ak_ (Kd.R_lower (Kd.R_new' (Kd.R_new' ho1 (Kd.R_lt (rl_ HO335))) (Kd.R_lt (rl_ HO341))) (bz_ (bw1_ HB GE331))); replace HO335 := ak_ (Kd.R_elder' (rl_ HO335) (Kd.R_base ho1) hb); replace HO341 := ak_ (Kd.R_elder' (rl_ HO341) (Kd.R_base ho1) hb); replace BK331 := ak_ (kb_ (kl_ BK331) hb); replace HB := ak_ (bt_ (bw1_ HB GE331) hb); (try clear hb); (try clear hk); (try clear ho0); (try clear ho1)) | (go_at_call 8; (with_reducible refine (store_Many.calls k a1 a2 t350 t351 _ A12.out).mono ?_); rintro e w22 ⟨rfl, hb⟩; replace HO335 := ak_ (Kd.R_below (rl_ HO335) hb); replace HO338 := ak_ (Kd.R_below (rl_ HO338) hb); replace HO341 := ak_ (Kd.R_below (rl_ HO341) hb); replace HO345 := ak_ (Kd.R_below (rl_ HO345) hb); replace HO348 := ak_ (Kd.R_below (rl_ HO348) hb); replace BK331 := ak_ (kb_ (kl_ BK331) hb); replace HB := ak_ (bt_ (bw1_ HB GE331) hb); (try clear hb); (try clear hk))); go_upto_region 10 with (first | ((with_reducible refine gate_dst (N := 4) rfl ?_); (try (refine gate_guard (by rfl) ?_; dsimp only)); refine bx_ 4 #[.int .u64 a0_0, .int .u64 a0_1] 24 ?_; intro gb331 hg w14 hbox hb; have BK331 := ak_ hbox; have GW331 := ak_ (gs_ hg HB); have GE331 := ak_ (gs_ hg HB); replace HB := ak_ (bt_ (bl_ HB) hb); clear hb hbox hg) | (go_at_call 12; (with_reducible refine (medlarlaw14_live.calls k  t332 _ A5.out).mono ?_); rintro e w15 ⟨rfl, hb⟩; replace BK331 := ak_ (kb_ (kl_ BK331) hb); replace HB := ak_ (bt_ (bw1_ HB GE331) hb); (try clear hb); (try clear hk)) | ((with_reducible refine gate_dst (N := 27) rfl ?_); (try (refine gate_guard (by rfl) ?_; dsimp only)); refine Kd.R_lit k45 _ 45 ?hg (N := 27) ?hd (xs := ([(⟨1, 0, 0⟩ : S45)] : List (S45))) (inner := [.int .i64 1, .int .i64 0, .int .i64 0]) (ok := fun _ => True) (okp := fun _ => True) ?hr ?hp (fun _ hk => hk) trivial (Below.refl _ _) (Nat.le_refl _) (by simp) ?_; (case hd => rfl); (case hg => rfl); (case hr => first | (go_simp; done) | (go_simp; rfl)); (case hp => exact (Reps.c3 (show Kd.M k45 _ _ _ (⟨1, 0, 0⟩ : S45) [.int .i64 1, .int .i64 0, .int .i64 0] from (k45_mkM _ _ _ (⟨1, 0, 0⟩ : S45) )) (Reps.none _ _))); intro v334 w16 ho17 hb hg_ hnew_; clear hg_ hnew_; (first | rw [← Ny333.out] at ho17 | (simp only [Int.reduceToNat] at ho17; rw [← Ny333.out] at ho17)); have HO335 := ak_ (Kd.R_lower ho17 (bz_ (bw1_ HB GE331))); replace BK331 := ak_ (kb_ (kl_ BK331) hb); replace HB := ak_ (bt_ (bw1_ HB GE331) hb); clear hb ho17; obtain ⟨Ao18, co18, eo18⟩ := Kd.R_slice HO335.out; subst eo18) | (go_at_call 7; (with_reducible refine (store_Make.calls k _ _ y333 a1 a2 true false 0 0 0 0 0 0 0 a3 t336 t339 t342 _ ?side1 ?side2 A9.out).mono ?_); (case side1 => repeat (first | exact (Kd.R_reads' HO335.out).2.2 | (with_reducible refine Kd.C_alloc ?_ _) | (with_reducible refine Kd.C_drewN ?_ _) | (with_reducible refine Kd.C_drew ?_))); (case side2 => exact (Kd.R_reads' HO335.out).2.1); rintro e w19 ⟨v337, v340, rfl, ho0, ho1, hb⟩; have HO338 := ak_ (Kd.R_lower ho0 (bz_ (bw1_ HB GE331))); have HO341 := ak_ (Kd.R_lower (Kd.R_new' ho1 (Kd.R_lt (rl_ HO335))) (bz_ (bw1_ HB GE331))); replace HO335 := ak_ (Kd.R_elder' (rl_ HO335) (Kd.R_base ho1) hb); replace BK331 := ak_ (kb_ (kl_ BK331) hb); replace HB := ak_ (bt_ (bw1_ HB GE331) hb); (try clear hb); (try clear hk); (try clear ho0); (try clear ho1); obtain ⟨hcz20_0, hcz20_1, hfz20_0, hfz20_1⟩ := kc2_ BK331.out) | (go_at_call 7; (refine (store_Make.calls k _ _ ([] : List (S45)) a1 a2 false false a0_0 a0_1 0 0 0 0 0 a3 t343 t346 t349 _ ?side1 ?side2 A10.out).mono ?_); (case side1 => exact Kd.C_nil _ _); (case side2 => exact Nat.le_refl _); rintro e w21 ⟨v344, v347, rfl, ho0, ho1, hb⟩; have HO345 := ak_ (Kd.R_lower (Kd.R_new' ho0 (Kd.R_lt (rl_ HO338))) (bz_ (bw1_ HB GE331))); replace HO338 := ak_ (Kd.R_elder' (rl_ HO338) (Kd.R_base ho0) hb); have HO348 := ak_ (Kd.R_lower (Kd.R_new' (Kd.R_new' ho1 (Kd.R_lt (rl_ HO335))) (Kd.R_lt (rl_ HO341))) (bz_ (bw1_ HB GE331))); replace HO335 := ak_ (Kd.R_elder' (rl_ HO335) (Kd.R_base ho1) hb); replace HO341 := ak_ (Kd.R_elder' (rl_ HO341) (Kd.R_base ho1) hb); replace BK331 := ak_ (kb_ (kl_ BK331) hb); replace HB := ak_ (bt_ (bw1_ HB GE331) hb); (try clear hb); (try clear hk); (try clear ho0); (try clear ho1)) | (go_at_call 8; (with_reducible refine (store_Many.calls k a1 a2 t350 t351 _ A12.out).mono ?_); rintro e w22 ⟨rfl, hb⟩; replace HO335 := ak_ (Kd.R_below (rl_ HO335) hb); replace HO338 := ak_ (Kd.R_below (rl_ HO338) hb); replace HO341 := ak_ (Kd.R_below (rl_ HO341) hb); replace HO345 := ak_ (Kd.R_below (rl_ HO345) hb); replace HO348 := ak_ (Kd.R_below (rl_ HO348) hb); replace BK331 := ak_ (kb_ (kl_ BK331) hb); replace HB := ak_ (bt_ (bw1_ HB GE331) hb); (try clear hb); (try clear hk))))
    (try simp only [Act.put, setIfInBounds_toArray, set_cons_zero, set_cons_succ])
    go_cut [106] (fun v106 wc => ∃ (kq : Nat) (x106_12 : Bool), v106 = .bool x106_12 ∧ Aside0 (medlarlaw14_StoreMay.j0 kq t332 t336 t343 x106_12 = some r) ∧ Aside0 (kq ≤ k) ∧ Aside0 (Kd.R k50 50 wc w.heap.size (fun k_ => some k_ ≠ (v344 : Value).ownBlock) v337 t336) ∧ Aside0 (Kd.R k50 50 wc w.heap.size (fun k_ => some k_ ≠ (v337 : Value).ownBlock) v344 t343) ∧ Aside0 (wc.heap[gb331]? = some (.cells #[.int .u64 a0_0, .int .u64 a0_1] 24 (0, 0))) ∧ Aside0 (Below w.heap.size w wc))
    case first =>
     have H := HC13.out
     clear HC13
     by_cases c23 : t349 = 0
     ·rw [if_pos c23] at H
      have c23b0 : (t349 == 0) = true := beq_iff_eq.mpr c23
      have c23b1 : (t349 != 0) = false := bne_eq_false_iff_eq.mpr c23
      clear c23
      (first | rw [c23b0] | (simp only [i64_w, i32_w]; rw [c23b0]) | skip)
      by_cases c24 : t351 = 0
      ·rw [if_pos c24] at H
       have c24b0 : (t351 == 0) = true := beq_iff_eq.mpr c24
       have c24b1 : (t351 != 0) = false := bne_eq_false_iff_eq.mpr c24
       clear c24
       by_cases c25 : (t336.length : Int) = t350
       ·rw [if_pos c25] at H
        have c25b0 : ((t336.length : Int) == t350) = true := beq_iff_eq.mpr c25
        have c25b1 : ((t336.length : Int) != t350) = false := bne_eq_false_iff_eq.mpr c25
        clear c25
        by_cases c26 : (t343.length : Int) = t350
        ·rw [if_pos c26] at H
         have c26b0 : ((t343.length : Int) == t350) = true := beq_iff_eq.mpr c26
         have c26b1 : ((t343.length : Int) != t350) = false := bne_eq_false_iff_eq.mpr c26
         clear c26
         by_cases c27 : (t346.length : Int) = 0
         ·rw [if_pos c27] at H
          have c27b0 : ((t346.length : Int) == 0) = true := beq_iff_eq.mpr c27
          have c27b1 : ((t346.length : Int) != 0) = false := bne_eq_false_iff_eq.mpr c27
          clear c27
          replace H := bind_eq_some_iff.mp H
          obtain ⟨t352, A280, H⟩ := H
          replace H : (if t352 = 0 then ((store_Check.f k ([] : List (S45)) a1 a2 a3 t343).bind fun t353 => (medlarlaw14_StoreMay.j0 k t332 t336 t343 (t353 != 0))) else (medlarlaw14_StoreMay.j0 k t332 t336 t343 true)) = some r := H
          have A28 := ak_ A280
          clear A280
          by_cases c29 : t352 = 0
          ·rw [if_pos c29] at H
           have c29b0 : (t352 == 0) = true := beq_iff_eq.mpr c29
           have c29b1 : (t352 != 0) = false := bne_eq_false_iff_eq.mpr c29
           clear c29
           replace H := bind_eq_some_iff.mp H
           obtain ⟨t353, A300, H⟩ := H
           replace H : (medlarlaw14_StoreMay.j0 k t332 t336 t343 (t353 != 0)) = some r := H
           have A30 := ak_ A300
           clear A300
           have H' := ak_ H
           clear H
           obtain ⟨Ao31, co31, eo31⟩ := Kd.R_slice HO338.out
           subst eo31
           obtain ⟨Ao32, co32, eo32⟩ := Kd.R_slice HO345.out
           subst eo32
           obtain ⟨Ao33, co33, eo33⟩ := Kd.R_slice HO348.out
           subst eo33
           obtain ⟨Ao34, co34, eo34⟩ := Kd.R_slice HO341.out
           subst eo34
           go_wp2_with (first | (go_at_call 13; (with_reducible refine (store_Check.calls k _ _ t339 a1 a2 a3 _ _ t336 t352 _ ?side1 ?side2 ?side3 ?side4 A28.out).mono ?_); (case side1 => repeat (first | exact (Kd.R_reads' HO341.out).2.2 | (with_reducible refine Kd.C_alloc ?_ _) | (with_reducible refine Kd.C_drewN ?_ _) | (with_reducible refine Kd.C_drew ?_))); (case side2 => exact (Kd.R_reads' HO341.out).2.1); (case side3 => repeat (first | exact (Kd.R_reads' HO338.out).2.2 | (with_reducible refine Kd.C_alloc ?_ _) | (with_reducible refine Kd.C_drewN ?_ _) | (with_reducible refine Kd.C_drew ?_))); (case side4 => exact (Kd.R_reads' HO338.out).2.1); rintro e w35 ⟨rfl, hb⟩; replace HO335 := ak_ (Kd.R_below (rl_ HO335) hb); replace HO338 := ak_ (Kd.R_below (rl_ HO338) hb); replace HO341 := ak_ (Kd.R_below (rl_ HO341) hb); replace HO345 := ak_ (Kd.R_below (rl_ HO345) hb); replace HO348 := ak_ (Kd.R_below (rl_ HO348) hb); replace BK331 := ak_ (kb_ (kl_ BK331) hb); replace HB := ak_ (bt_ (bw1_ HB GE331) hb); (try clear hb); (try clear hk)) | (go_at_call 13; (refine (store_Check.calls k _ _ ([] : List (S45)) a1 a2 a3 _ _ t343 t353 _ ?side1 ?side2 ?side3 ?side4 A30.out).mono ?_); (case side1 => exact Kd.C_nil _ _); (case side2 => exact Nat.le_refl _); (case side3 => repeat (first | exact (Kd.R_reads' HO345.out).2.2 | (with_reducible refine Kd.C_alloc ?_ _) | (with_reducible refine Kd.C_drewN ?_ _) | (with_reducible refine Kd.C_drew ?_))); (case side4 => exact (Kd.R_reads' HO345.out).2.1); rintro e w36 ⟨rfl, hb⟩; replace HO335 := ak_ (Kd.R_below (rl_ HO335) hb); replace HO338 := ak_ (Kd.R_below (rl_ HO338) hb); replace HO341 := ak_ (Kd.R_below (rl_ HO341) hb); replace HO345 := ak_ (Kd.R_below (rl_ HO345) hb); replace HO348 := ak_ (Kd.R_below (rl_ HO348) hb); replace BK331 := ak_ (kb_ (kl_ BK331) hb); replace HB := ak_ (bt_ (bw1_ HB GE331) hb); (try clear hb); (try clear hk)))
           repeat (go_quiet (first | (go_at_call 13; (with_reducible refine (store_Check.calls k _ _ t339 a1 a2 a3 _ _ t336 t352 _ ?side1 ?side2 ?side3 ?side4 A28.out).mono ?_); (case side1 => repeat (first | exact (Kd.R_reads' HO341.out).2.2 | (with_reducible refine Kd.C_alloc ?_ _) | (with_reducible refine Kd.C_drewN ?_ _) | (with_reducible refine Kd.C_drew ?_))); (case side2 => exact (Kd.R_reads' HO341.out).2.1); (case side3 => repeat (first | exact (Kd.R_reads' HO338.out).2.2 | (with_reducible refine Kd.C_alloc ?_ _) | (with_reducible refine Kd.C_drewN ?_ _) | (with_reducible refine Kd.C_drew ?_))); (case side4 => exact (Kd.R_reads' HO338.out).2.1); rintro e w35 ⟨rfl, hb⟩; replace HO335 := ak_ (Kd.R_below (rl_ HO335) hb); replace HO338 := ak_ (Kd.R_below (rl_ HO338) hb); replace HO341 := ak_ (Kd.R_below (rl_ HO341) hb); replace HO345 := ak_ (Kd.R_below (rl_ HO345) hb); replace HO348 := ak_ (Kd.R_below (rl_ HO348) hb); replace BK331 := ak_ (kb_ (kl_ BK331) hb); replace HB := ak_ (bt_ (bw1_ HB GE331) hb); (try clear hb); (try clear hk)) | (go_at_call 13; (refine (store_Check.calls k _ _ ([] : List (S45)) a1 a2 a3 _ _ t343 t353 _ ?side1 ?side2 ?side3 ?side4 A30.out).mono ?_); (case side1 => exact Kd.C_nil _ _); (case side2 => exact Nat.le_refl _); (case side3 => repeat (first | exact (Kd.R_reads' HO345.out).2.2 | (with_reducible refine Kd.C_alloc ?_ _) | (with_reducible refine Kd.C_drewN ?_ _) | (with_reducible refine Kd.C_drew ?_))); (case side4 => exact (Kd.R_reads' HO345.out).2.1); rintro e w36 ⟨rfl, hb⟩; replace HO335 := ak_ (Kd.R_below (rl_ HO335) hb); replace HO338 := ak_ (Kd.R_below (rl_ HO338) hb); replace HO341 := ak_ (Kd.R_below (rl_ HO341) hb); replace HO345 := ak_ (Kd.R_below (rl_ HO345) hb); replace HO348 := ak_ (Kd.R_below (rl_ HO348) hb); replace BK331 := ak_ (kb_ (kl_ BK331) hb); replace HB := ak_ (bt_ (bw1_ HB GE331) hb); (try clear hb); (try clear hk))); try go_wp2_with (first | (go_at_call 13; (with_reducible refine (store_Check.calls k _ _ t339 a1 a2 a3 _ _ t336 t352 _ ?side1 ?side2 ?side3 ?side4 A28.out).mono ?_); (case side1 => repeat (first | exact (Kd.R_reads' HO341.out).2.2 | (with_reducible refine Kd.C_alloc ?_ _) | (with_reducible refine Kd.C_drewN ?_ _) | (with_reducible refine Kd.C_drew ?_))); (case side2 => exact (Kd.R_reads' HO341.out).2.1); (case side3 => repeat (first | exact (Kd.R_reads' HO338.out).2.2 | (with_reducible refine Kd.C_alloc ?_ _) | (with_reducible refine Kd.C_drewN ?_ _) | (with_reducible refine Kd.C_drew ?_))); (case side4 => exact (Kd.R_reads' HO338.out).2.1); rintro e w35 ⟨rfl, hb⟩; replace HO335 := ak_ (Kd.R_below (rl_ HO335) hb); replace HO338 := ak_ (Kd.R_below (rl_ HO338) hb); replace HO341 := ak_ (Kd.R_below (rl_ HO341) hb); replace HO345 := ak_ (Kd.R_below (rl_ HO345) hb); replace HO348 := ak_ (Kd.R_below (rl_ HO348) hb); replace BK331 := ak_ (kb_ (kl_ BK331) hb); replace HB := ak_ (bt_ (bw1_ HB GE331) hb); (try clear hb); (try clear hk)) | (go_at_call 13; (refine (store_Check.calls k _ _ ([] : List (S45)) a1 a2 a3 _ _ t343 t353 _ ?side1 ?side2 ?side3 ?side4 A30.out).mono ?_); (case side1 => exact Kd.C_nil _ _); (case side2 => exact Nat.le_refl _); (case side3 => repeat (first | exact (Kd.R_reads' HO345.out).2.2 | (with_reducible refine Kd.C_alloc ?_ _) | (with_reducible refine Kd.C_drewN ?_ _) | (with_reducible refine Kd.C_drew ?_))); (case side4 => exact (Kd.R_reads' HO345.out).2.1); rintro e w36 ⟨rfl, hb⟩; replace HO335 := ak_ (Kd.R_below (rl_ HO335) hb); replace HO338 := ak_ (Kd.R_below (rl_ HO338) hb); replace HO341 := ak_ (Kd.R_below (rl_ HO341) hb); replace HO345 := ak_ (Kd.R_below (rl_ HO345) hb); replace HO348 := ak_ (Kd.R_below (rl_ HO348) hb); replace BK331 := ak_ (kb_ (kl_ BK331) hb); replace HB := ak_ (bt_ (bw1_ HB GE331) hb); (try clear hb); (try clear hk))))
           go_meet
           case rel => exact ⟨_, ((t353 != 0)), rf_, H', ⟨by first | omega | exact Nat.le_refl _⟩, ⟨by (with_reducible repeat (first | apply Kd.R_alloc | apply Kd.R_drewN | apply Kd.R_drew)); exact Kd.R_mono HO338.out (fun _ hk => hk.2)⟩, ⟨by (with_reducible repeat (first | apply Kd.R_alloc | apply Kd.R_drewN | apply Kd.R_drew)); exact Kd.R_mono HO345.out (fun _ hk => hk.2)⟩, ⟨kl_ BK331⟩, ⟨bw1_ HB GE331⟩⟩
          ·rw [if_neg c29] at H
           have c29b0 : (t352 == 0) = false := beq_eq_false_iff_ne.mpr c29
           have c29b1 : (t352 != 0) = true := bne_iff_ne.mpr c29
           have H' := ak_ H
           clear H
           obtain ⟨Ao37, co37, eo37⟩ := Kd.R_slice HO338.out
           subst eo37
           obtain ⟨Ao38, co38, eo38⟩ := Kd.R_slice HO345.out
           subst eo38
           obtain ⟨Ao39, co39, eo39⟩ := Kd.R_slice HO348.out
           subst eo39
           obtain ⟨Ao40, co40, eo40⟩ := Kd.R_slice HO341.out
           subst eo40
           go_wp2_with (first | (go_at_call 13; (with_reducible refine (store_Check.calls k _ _ t339 a1 a2 a3 _ _ t336 t352 _ ?side1 ?side2 ?side3 ?side4 A28.out).mono ?_); (case side1 => repeat (first | exact (Kd.R_reads' HO341.out).2.2 | (with_reducible refine Kd.C_alloc ?_ _) | (with_reducible refine Kd.C_drewN ?_ _) | (with_reducible refine Kd.C_drew ?_))); (case side2 => exact (Kd.R_reads' HO341.out).2.1); (case side3 => repeat (first | exact (Kd.R_reads' HO338.out).2.2 | (with_reducible refine Kd.C_alloc ?_ _) | (with_reducible refine Kd.C_drewN ?_ _) | (with_reducible refine Kd.C_drew ?_))); (case side4 => exact (Kd.R_reads' HO338.out).2.1); rintro e w41 ⟨rfl, hb⟩; replace HO335 := ak_ (Kd.R_below (rl_ HO335) hb); replace HO338 := ak_ (Kd.R_below (rl_ HO338) hb); replace HO341 := ak_ (Kd.R_below (rl_ HO341) hb); replace HO345 := ak_ (Kd.R_below (rl_ HO345) hb); replace HO348 := ak_ (Kd.R_below (rl_ HO348) hb); replace BK331 := ak_ (kb_ (kl_ BK331) hb); replace HB := ak_ (bt_ (bw1_ HB GE331) hb); (try clear hb); (try clear hk)))
           repeat (go_quiet (first | (go_at_call 13; (with_reducible refine (store_Check.calls k _ _ t339 a1 a2 a3 _ _ t336 t352 _ ?side1 ?side2 ?side3 ?side4 A28.out).mono ?_); (case side1 => repeat (first | exact (Kd.R_reads' HO341.out).2.2 | (with_reducible refine Kd.C_alloc ?_ _) | (with_reducible refine Kd.C_drewN ?_ _) | (with_reducible refine Kd.C_drew ?_))); (case side2 => exact (Kd.R_reads' HO341.out).2.1); (case side3 => repeat (first | exact (Kd.R_reads' HO338.out).2.2 | (with_reducible refine Kd.C_alloc ?_ _) | (with_reducible refine Kd.C_drewN ?_ _) | (with_reducible refine Kd.C_drew ?_))); (case side4 => exact (Kd.R_reads' HO338.out).2.1); rintro e w41 ⟨rfl, hb⟩; replace HO335 := ak_ (Kd.R_below (rl_ HO335) hb); replace HO338 := ak_ (Kd.R_below (rl_ HO338) hb); replace HO341 := ak_ (Kd.R_below (rl_ HO341) hb); replace HO345 := ak_ (Kd.R_below (rl_ HO345) hb); replace HO348 := ak_ (Kd.R_below (rl_ HO348) hb); replace BK331 := ak_ (kb_ (kl_ BK331) hb); replace HB := ak_ (bt_ (bw1_ HB GE331) hb); (try clear hb); (try clear hk))); try go_wp2_with (first | (go_at_call 13; (with_reducible refine (store_Check.calls k _ _ t339 a1 a2 a3 _ _ t336 t352 _ ?side1 ?side2 ?side3 ?side4 A28.out).mono ?_); (case side1 => repeat (first | exact (Kd.R_reads' HO341.out).2.2 | (with_reducible refine Kd.C_alloc ?_ _) | (with_reducible refine Kd.C_drewN ?_ _) | (with_reducible refine Kd.C_drew ?_))); (case side2 => exact (Kd.R_reads' HO341.out).2.1); (case side3 => repeat (first | exact (Kd.R_reads' HO338.out).2.2 | (with_reducible refine Kd.C_alloc ?_ _) | (with_reducible refine Kd.C_drewN ?_ _) | (with_reducible refine Kd.C_drew ?_))); (case side4 => exact (Kd.R_reads' HO338.out).2.1); rintro e w41 ⟨rfl, hb⟩; replace HO335 := ak_ (Kd.R_below (rl_ HO335) hb); replace HO338 := ak_ (Kd.R_below (rl_ HO338) hb); replace HO341 := ak_ (Kd.R_below (rl_ HO341) hb); replace HO345 := ak_ (Kd.R_below (rl_ HO345) hb); replace HO348 := ak_ (Kd.R_below (rl_ HO348) hb); replace BK331 := ak_ (kb_ (kl_ BK331) hb); replace HB := ak_ (bt_ (bw1_ HB GE331) hb); (try clear hb); (try clear hk))))
           go_meet
           case rel => exact ⟨_, (true), rf_, H', ⟨by first | omega | exact Nat.le_refl _⟩, ⟨by (with_reducible repeat (first | apply Kd.R_alloc | apply Kd.R_drewN | apply Kd.R_drew)); exact Kd.R_mono HO338.out (fun _ hk => hk.2)⟩, ⟨by (with_reducible repeat (first | apply Kd.R_alloc | apply Kd.R_drewN | apply Kd.R_drew)); exact Kd.R_mono HO345.out (fun _ hk => hk.2)⟩, ⟨kl_ BK331⟩, ⟨bw1_ HB GE331⟩⟩
         ·rw [if_neg c27] at H
          have c27b0 : ((t346.length : Int) == 0) = false := beq_eq_false_iff_ne.mpr c27
          have c27b1 : ((t346.length : Int) != 0) = true := bne_iff_ne.mpr c27
          have c27b2 : ¬ (t346 = []) := fun h_ => c27 (by rw [h_]; rfl)
          have H' := ak_ H
          clear H
          obtain ⟨Ao42, co42, eo42⟩ := Kd.R_slice HO338.out
          subst eo42
          obtain ⟨Ao43, co43, eo43⟩ := Kd.R_slice HO345.out
          subst eo43
          obtain ⟨Ao44, co44, eo44⟩ := Kd.R_slice HO348.out
          subst eo44
          go_wp2
          repeat (go_quiet (fail); try go_wp2)
          go_meet
          case rel => exact ⟨_, (true), rf_, H', ⟨by first | omega | exact Nat.le_refl _⟩, ⟨by (with_reducible repeat (first | apply Kd.R_alloc | apply Kd.R_drewN | apply Kd.R_drew)); exact Kd.R_mono HO338.out (fun _ hk => hk.2)⟩, ⟨by (with_reducible repeat (first | apply Kd.R_alloc | apply Kd.R_drewN | apply Kd.R_drew)); exact Kd.R_mono HO345.out (fun _ hk => hk.2)⟩, ⟨kl_ BK331⟩, ⟨bw1_ HB GE331⟩⟩
        ·rw [if_neg c26] at H
         have c26b0 : ((t343.length : Int) == t350) = false := beq_eq_false_iff_ne.mpr c26
         have c26b1 : ((t343.length : Int) != t350) = true := bne_iff_ne.mpr c26
         have H' := ak_ H
         clear H
         obtain ⟨Ao45, co45, eo45⟩ := Kd.R_slice HO338.out
         subst eo45
         obtain ⟨Ao46, co46, eo46⟩ := Kd.R_slice HO345.out
         subst eo46
         go_wp2
         repeat (go_quiet (fail); try go_wp2)
         go_meet
         case rel => exact ⟨_, (true), rf_, H', ⟨by first | omega | exact Nat.le_refl _⟩, ⟨by (with_reducible repeat (first | apply Kd.R_alloc | apply Kd.R_drewN | apply Kd.R_drew)); exact Kd.R_mono HO338.out (fun _ hk => hk.2)⟩, ⟨by (with_reducible repeat (first | apply Kd.R_alloc | apply Kd.R_drewN | apply Kd.R_drew)); exact Kd.R_mono HO345.out (fun _ hk => hk.2)⟩, ⟨kl_ BK331⟩, ⟨bw1_ HB GE331⟩⟩
       ·rw [if_neg c25] at H
        have c25b0 : ((t336.length : Int) == t350) = false := beq_eq_false_iff_ne.mpr c25
        have c25b1 : ((t336.length : Int) != t350) = true := bne_iff_ne.mpr c25
        have H' := ak_ H
        clear H
        obtain ⟨Ao47, co47, eo47⟩ := Kd.R_slice HO338.out
        subst eo47
        go_wp2
        repeat (go_quiet (fail); try go_wp2)
        go_meet
        case rel => exact ⟨_, (true), rf_, H', ⟨by first | omega | exact Nat.le_refl _⟩, ⟨by (with_reducible repeat (first | apply Kd.R_alloc | apply Kd.R_drewN | apply Kd.R_drew)); exact Kd.R_mono HO338.out (fun _ hk => hk.2)⟩, ⟨by (with_reducible repeat (first | apply Kd.R_alloc | apply Kd.R_drewN | apply Kd.R_drew)); exact Kd.R_mono HO345.out (fun _ hk => hk.2)⟩, ⟨kl_ BK331⟩, ⟨bw1_ HB GE331⟩⟩
      ·rw [if_neg c24] at H
       have c24b0 : (t351 == 0) = false := beq_eq_false_iff_ne.mpr c24
       have c24b1 : (t351 != 0) = true := bne_iff_ne.mpr c24
       have H' := ak_ H
       clear H
       go_wp2
       repeat (go_quiet (fail); try go_wp2)
       go_meet
       case rel => exact ⟨_, (true), rf_, H', ⟨by first | omega | exact Nat.le_refl _⟩, ⟨by (with_reducible repeat (first | apply Kd.R_alloc | apply Kd.R_drewN | apply Kd.R_drew)); exact Kd.R_mono HO338.out (fun _ hk => hk.2)⟩, ⟨by (with_reducible repeat (first | apply Kd.R_alloc | apply Kd.R_drewN | apply Kd.R_drew)); exact Kd.R_mono HO345.out (fun _ hk => hk.2)⟩, ⟨kl_ BK331⟩, ⟨bw1_ HB GE331⟩⟩
     ·rw [if_neg c23] at H
      have c23b0 : (t349 == 0) = false := beq_eq_false_iff_ne.mpr c23
      have c23b1 : (t349 != 0) = true := bne_iff_ne.mpr c23
      (first | rw [c23b0] | (simp only [i64_w, i32_w]; rw [c23b0]) | skip)
      have H' := ak_ H
      clear H
      go_wp2
      repeat (go_quiet (fail); try go_wp2)
      go_meet
      case rel => exact ⟨_, (true), rf_, H', ⟨by first | omega | exact Nat.le_refl _⟩, ⟨by (with_reducible repeat (first | apply Kd.R_alloc | apply Kd.R_drewN | apply Kd.R_drew)); exact Kd.R_mono HO338.out (fun _ hk => hk.2)⟩, ⟨by (with_reducible repeat (first | apply Kd.R_alloc | apply Kd.R_drewN | apply Kd.R_drew)); exact Kd.R_mono HO345.out (fun _ hk => hk.2)⟩, ⟨kl_ BK331⟩, ⟨bw1_ HB GE331⟩⟩
    case rest =>
     clear HC13
     try clear c1
     try clear c2
     try clear p2
     try clear c3
     try clear c4
     try clear c6
     try clear c6b0
     try clear c11
     try clear c11b0
     try clear c11b1
     try clear c23
     try clear c23b0
     try clear c23b1
     try clear c24
     try clear c24b0
     try clear c24b1
     try clear c25
     try clear c25b0
     try clear c25b1
     try clear c26
     try clear c26b0
     try clear c26b1
     try clear c27
     try clear c27b0
     try clear c27b1
     try clear c27b2
     try clear c29
     try clear c29b0
     try clear c29b1
     try clear hcz20_0 hcz20_1
     try clear hfz20_0 hfz20_1
     obtain ⟨kq, x106_12, rfl, HA, HJ12, HO_11, HO_14, BK331, HB⟩ := hcut
     cases kq with
     | zero => exact absurd HA.out (by simp [medlarlaw14_StoreMay.j0])
     | succ kj12 =>
      have H := HA.out
      clear HA
      simp only [medlarlaw14_StoreMay.j0] at H
      by_cases c48 : x106_12 = true
      ·subst c48
       have H1 : (some false) = some r := by rw [if_pos rfl] at H; exact H
       clear H
       have H := H1
       clear H1
       exact absurd ((Option.some.inj H).trans hT.out) Bool.false_ne_true
      ·replace c48 := Bool.eq_false_iff.mpr c48
       subst c48
       have H1 : (medlarlaw14_StoreMay.l0 kj12 t332 t336 t343 (t336.length : Int) 0) = some r := by rw [if_neg (show ¬ (false = true) by decide)] at H; exact H
       clear H
       have H := H1
       clear H1
       have H' := ak_ H
       clear H
       obtain ⟨Ao49, co49, eo49⟩ := Kd.R_slice HO_11.out
       subst eo49
       go_wp2
       repeat (go_quiet (fail); try go_wp2)
       go_loopg [109] kj12 (fun kq v109 w' => ∃ (x109_2 : Int), v109 = .int .i64 x109_2 ∧ Aside0 (medlarlaw14_StoreMay.l0 kq t332 t336 t343 (t336.length : Int) x109_2 = some r) ∧ Aside0 (kq ≤ kj12) ∧ Aside0 (Kd.R k50 50 w' w.heap.size (fun k_ => some k_ ≠ (v344 : Value).ownBlock) (.slice Ao49 t336.length co49) t336) ∧ Aside0 (Kd.R k50 50 w' w.heap.size (fun k_ => some k_ ≠ ((.slice Ao49 t336.length co49) : Value).ownBlock) v344 t343) ∧ Aside0 (w'.heap[gb331]? = some (.cells #[.int .u64 a0_0, .int .u64 a0_1] 24 (0, 0))) ∧ Aside0 (Below w.heap.size w w'))
       case atStart => exact ⟨(0), rf_, H', ⟨Nat.le_refl _⟩, ⟨rl_ HO_11⟩, ⟨rl_ HO_14⟩, ⟨kl_ BK331⟩, ⟨bw1_ HB GE331⟩⟩
       case round =>
        clear H'
        try clear c1
        try clear c2
        try clear p2
        try clear c3
        try clear c4
        try clear c6
        try clear c6b0
        try clear c11
        try clear c11b0
        try clear c11b1
        try clear c23
        try clear c23b0
        try clear c23b1
        try clear c24
        try clear c24b0
        try clear c24b1
        try clear c25
        try clear c25b0
        try clear c25b1
        try clear c26
        try clear c26b0
        try clear c26b1
        try clear c27
        try clear c27b0
        try clear c27b1
        try clear c27b2
        try clear c29
        try clear c29b0
        try clear c29b1
        try clear c48
        try clear hcz20_0 hcz20_1
        try clear hfz20_0 hfz20_1
        try clear p2
        obtain ⟨x109_2, rfl, HA, HK2, HO_11, HO_14, BK331, HB⟩ := hrel
        cases gk with
        | zero => exact absurd HA.out (by simp [medlarlaw14_StoreMay.l0])
        | succ k2 =>
         have H := HA.out
         clear HA
         simp only [medlarlaw14_StoreMay.l0] at H
         by_cases c50 : x109_2 < (t336.length : Int)
         ·rw [if_pos c50] at H
          have c50b0 := decide_eq_true c50
          clear c50
          by_cases c51 : 0 ≤ x109_2
          ·rw [if_pos c51] at H
           have c51b0 := decide_eq_true c51
           clear c51
           by_cases c52 : x109_2 < (t336.length : Int)
           ·rw [if_pos c52] at H
            have c52b0 := decide_eq_true c52
            clear c52
            by_cases c53 : x109_2 < (t343.length : Int)
            ·rw [if_pos c53] at H
             have c53b0 := decide_eq_true c53
             clear c53
             by_cases c54 : (!(((rd_T50 t336 x109_2).f0.f0) == ((rd_T50 t343 x109_2).f0.f0)) || (!(((rd_T50 t336 x109_2).f0.f1) == ((rd_T50 t343 x109_2).f0.f1)))) = true
             ·rw [if_pos c54] at H
              have c54b0 : (!(((rd_T50 t336 x109_2).f0.f0) == ((rd_T50 t343 x109_2).f0.f0)) || (!(((rd_T50 t336 x109_2).f0.f1) == ((rd_T50 t343 x109_2).f0.f1)))) = true := c54
              clear c54
              exact absurd ((Option.some.inj H).trans hT.out) Bool.false_ne_true
             ·rw [if_neg c54] at H
              have c54b0 : (!(((rd_T50 t336 x109_2).f0.f0) == ((rd_T50 t343 x109_2).f0.f0)) || (!(((rd_T50 t336 x109_2).f0.f1) == ((rd_T50 t343 x109_2).f0.f1)))) = false := by simpa using c54
              clear c54
              have c55b0 := eq_true (od_ (by first | (with_reducible assumption) | assumption) : 0 ≤ x109_2)
              by_cases c56 : x109_2 ≤ (t336.length : Int)
              ·rw [if_pos c56] at H
               have c56b0 := eq_true c56
               have c56b1 := decide_eq_true c56
               clear c56
               obtain ⟨y356, hy356⟩ : ∃ y_ : List (S50), y_ = (t336.take (x109_2 : Int).toNat) := ⟨_, rfl⟩
               replace H : (medlarlaw14_StoreMay.l1 k2 t332 t336 t343 x109_2 (t336.length : Int) x109_2 y356 (y356.length : Int) 0) = some r := by first | (rw [hy356]; with_reducible exact H) | (have H2_ := (Option.bind_some _ _).symm.trans H; rw [hy356]; with_reducible exact H2_) | (have H2_ := (Option.bind_some _ _).symm.trans H; with_reducible exact H2_) | with_reducible exact H | (rw [hy356]; exact H) | exact H
               have Ny356 := ak_ hy356
               clear hy356
               have H' := ak_ H
               clear H
               have p354 : 0 ≤ (x109_2 : Int) := od_ (by first | (with_reducible assumption) | assumption)
               have q354 : x109_2 < (t336.length : Int) := od_ (by first | (with_reducible assumption) | assumption)
               obtain ⟨ad354, e354, hx354_0, hx354_1, hx354_2, hx354_3, hx354_4, hx354_5, hx354_6, hx354_7, hx354_8, hx354_9, hx354_10⟩ := at_T50 (Kd.R_reads' HO_11.out).2.2 x109_2 p354 q354
               cases e354
               replace p354 := eq_true p354
               replace q354 := eq_true q354
               obtain ⟨Ao57, co57, eo57⟩ := Kd.R_slice HO_14.out
               subst eo57
               have p355 : 0 ≤ (x109_2 : Int) := od_ (by first | (with_reducible assumption) | assumption)
               have q355 : x109_2 < (t343.length : Int) := od_ (by first | (with_reducible assumption) | assumption)
               obtain ⟨ad355, e355, hx355_0, hx355_1, hx355_2, hx355_3, hx355_4, hx355_5, hx355_6, hx355_7, hx355_8, hx355_9, hx355_10⟩ := at_T50 (Kd.R_reads' HO_14.out).2.2 x109_2 p355 q355
               cases e355
               replace p355 := eq_true p355
               replace q355 := eq_true q355
               have q58 : (x109_2 : Int) ≤ ((t336.length : Int) : Int) := od_ (by first | (with_reducible assumption) | assumption)
               obtain ⟨i058, hi058, _, hsz58, _⟩ := info_parts info50
               have hroom58 : t336.length ≤ co49 := (Kd.R_reads' HO_11.out).2.1
               have hC58 : Kd.C k50 _ (some ad354) t336.length t336 := (Kd.R_reads' HO_11.out).2.2
               have hcut58 := cut_to (P := Try.prog) 26 50 .i64 underlying26 hi058 (some ad354) t336.length co49 x109_2 (od_ (by first | (with_reducible assumption) | assumption)) q58 hroom58
               have hr58 := Kd.C_take (m := (x109_2 : Int).toNat) hC58 (by omega)
               have hy58 : y356.length = (x109_2 : Int).toNat := (by rw [Ny356.out, List.length_take]; omega)
               rw [← Ny356.out] at hr58
               rw [← hy58] at hcut58
               have HR359 := ak_ hr58
               have HC359 := ak_ (show y356.length ≤ co49 from by omega)
               clear hr58 hC58 hroom58 hi058 hsz58
               have KY58 := ak_ hy58
               clear hy58
               have KL58 := ak_ (show (x109_2 : Int).toNat ≤ t336.length from by omega)
               replace q58 := eq_true q58
               go_wp2
               repeat (go_quiet (fail); try go_wp2)
               go_loopg [127] k2 (fun kq v127 w' => ∃ (x127_3 : Int), v127 = .int .i64 x127_3 ∧ Aside0 (medlarlaw14_StoreMay.l1 kq t332 t336 t343 x109_2 (t336.length : Int) x109_2 y356 (y356.length : Int) x127_3 = some r) ∧ Aside0 (kq ≤ k2) ∧ Aside0 (Kd.R k50 50 w' w.heap.size (fun k_ => some k_ ≠ ((.slice (some ad355) t343.length co57) : Value).ownBlock) (.slice (some ad354) t336.length co49) t336) ∧ Aside0 (Kd.R k50 50 w' w.heap.size (fun k_ => some k_ ≠ ((.slice (some ad354) t336.length co49) : Value).ownBlock) (.slice (some ad355) t343.length co57) t343) ∧ Aside0 (w'.heap[gb331]? = some (.cells #[.int .u64 a0_0, .int .u64 a0_1] 24 (0, 0))) ∧ Aside0 (Kd.C k50 w' (some ad354) y356.length y356) ∧ Aside0 (Below w.heap.size w w'))
               case atStart => exact ⟨(0), rf_, H', ⟨Nat.le_refl _⟩, ⟨rl_ HO_11⟩, ⟨rl_ HO_14⟩, ⟨kl_ BK331⟩, ⟨by repeat (first | (with_reducible exact HR359.out) | (with_reducible refine Kd.C_alloc ?_ _) | (with_reducible refine Kd.C_drewN ?_ _) | (with_reducible refine Kd.C_drew ?_) | exact HR359.out)⟩, ⟨bw1_ HB GE331⟩⟩
               case round =>
                clear H'
                try clear c1
                try clear c2
                try clear p2
                try clear c3
                try clear p3
                try clear q3
                try clear hx3
                try clear c4
                try clear c5
                try clear q5
                try clear c6
                try clear c6b0
                try clear c11
                try clear c11b0
                try clear c11b1
                try clear c23
                try clear c23b0
                try clear c23b1
                try clear c24
                try clear c24b0
                try clear c24b1
                try clear c25
                try clear c25b0
                try clear c25b1
                try clear c26
                try clear c26b0
                try clear c26b1
                try clear c27
                try clear c27b0
                try clear c27b1
                try clear c27b2
                try clear c29
                try clear c29b0
                try clear c29b1
                try clear p35
                try clear q35
                try clear hx35
                try clear c48
                try clear c50
                try clear c50b0
                try clear c51
                try clear c51b0
                try clear c52
                try clear c52b0
                try clear c53
                try clear c53b0
                try clear c54
                try clear c54b0
                try clear c55
                try clear c55b0
                try clear c56
                try clear c56b0
                try clear c56b1
                try clear q58
                try clear hcz20_0 hcz20_1
                try clear hfz20_0 hfz20_1
                try clear hx354_0
                try clear hx354_1
                try clear hx354_10
                try clear hx354_2
                try clear hx354_3
                try clear hx354_4
                try clear hx354_5
                try clear hx354_6
                try clear hx354_7
                try clear hx354_8
                try clear hx354_9
                try clear hx355_0
                try clear hx355_1
                try clear hx355_10
                try clear hx355_2
                try clear hx355_3
                try clear hx355_4
                try clear hx355_5
                try clear hx355_6
                try clear hx355_7
                try clear hx355_8
                try clear hx355_9
                try clear p2
                try clear p354
                try clear p355
                try clear q354
                try clear q355
                try clear q58
                obtain ⟨x127_3, rfl, HA, HK3, HO_11, HO_14, BK331, HR359, HB⟩ := hrel
                cases gk with
                | zero => exact absurd HA.out (by simp [medlarlaw14_StoreMay.l1])
                | succ k3 =>
                 have H := HA.out
                 clear HA
                 simp only [medlarlaw14_StoreMay.l1] at H
                 by_cases c59 : x127_3 < (y356.length : Int)
                 ·rw [if_pos c59] at H
                  have c59b0 := decide_eq_true c59
                  clear c59
                  by_cases c60 : 0 ≤ x127_3
                  ·rw [if_pos c60] at H
                   have c60b0 := decide_eq_true c60
                   clear c60
                   by_cases c61 : x127_3 < (y356.length : Int)
                   ·rw [if_pos c61] at H
                    have c61b0 := decide_eq_true c61
                    clear c61
                    by_cases c62 : 0 ≤ x109_2
                    ·rw [if_pos c62] at H
                     have c62b0 := decide_eq_true c62
                     clear c62
                     by_cases c63 : x109_2 < (t336.length : Int)
                     ·rw [if_pos c63] at H
                      have c63b0 := decide_eq_true c63
                      clear c63
                      by_cases c64 : (((rd_T50 y356 x127_3).f1.f0) == ((rd_T50 t336 x109_2).f1.f0) && (((rd_T50 y356 x127_3).f1.f1) == ((rd_T50 t336 x109_2).f1.f1) && ((((rd_T50 y356 x127_3).f1.f2.f0) == ((rd_T50 t336 x109_2).f1.f2.f0) && (((rd_T50 y356 x127_3).f1.f2.f1) == ((rd_T50 t336 x109_2).f1.f2.f1))) && (((((rd_T50 y356 x127_3).f1.f3.f0.f0) == ((rd_T50 t336 x109_2).f1.f3.f0.f0) && (((rd_T50 y356 x127_3).f1.f3.f0.f1) == ((rd_T50 t336 x109_2).f1.f3.f0.f1))) && ((((rd_T50 y356 x127_3).f1.f3.f1.f0) == ((rd_T50 t336 x109_2).f1.f3.f1.f0) && (((rd_T50 y356 x127_3).f1.f3.f1.f1) == ((rd_T50 t336 x109_2).f1.f3.f1.f1))))) && (((rd_T50 y356 x127_3).f1.f4) == ((rd_T50 t336 x109_2).f1.f4)))))) = true
                      ·rw [if_pos c64] at H
                       have c64b0 : (((rd_T50 y356 x127_3).f1.f0) == ((rd_T50 t336 x109_2).f1.f0) && (((rd_T50 y356 x127_3).f1.f1) == ((rd_T50 t336 x109_2).f1.f1) && ((((rd_T50 y356 x127_3).f1.f2.f0) == ((rd_T50 t336 x109_2).f1.f2.f0) && (((rd_T50 y356 x127_3).f1.f2.f1) == ((rd_T50 t336 x109_2).f1.f2.f1))) && (((((rd_T50 y356 x127_3).f1.f3.f0.f0) == ((rd_T50 t336 x109_2).f1.f3.f0.f0) && (((rd_T50 y356 x127_3).f1.f3.f0.f1) == ((rd_T50 t336 x109_2).f1.f3.f0.f1))) && ((((rd_T50 y356 x127_3).f1.f3.f1.f0) == ((rd_T50 t336 x109_2).f1.f3.f1.f0) && (((rd_T50 y356 x127_3).f1.f3.f1.f1) == ((rd_T50 t336 x109_2).f1.f3.f1.f1))))) && (((rd_T50 y356 x127_3).f1.f4) == ((rd_T50 t336 x109_2).f1.f4)))))) = true := c64
                       (try (have c64b1 : decide (((rd_T50 y356 x127_3).f1.f0) = ((rd_T50 t336 x109_2).f1.f0) && (((rd_T50 y356 x127_3).f1.f1) == ((rd_T50 t336 x109_2).f1.f1) && ((((rd_T50 y356 x127_3).f1.f2.f0) == ((rd_T50 t336 x109_2).f1.f2.f0) && (((rd_T50 y356 x127_3).f1.f2.f1) == ((rd_T50 t336 x109_2).f1.f2.f1))) && (((((rd_T50 y356 x127_3).f1.f3.f0.f0) == ((rd_T50 t336 x109_2).f1.f3.f0.f0) && (((rd_T50 y356 x127_3).f1.f3.f0.f1) == ((rd_T50 t336 x109_2).f1.f3.f0.f1))) && ((((rd_T50 y356 x127_3).f1.f3.f1.f0) == ((rd_T50 t336 x109_2).f1.f3.f1.f0) && (((rd_T50 y356 x127_3).f1.f3.f1.f1) == ((rd_T50 t336 x109_2).f1.f3.f1.f1))))) && (((rd_T50 y356 x127_3).f1.f4) == ((rd_T50 t336 x109_2).f1.f4)))))) = true := by simpa using c64))
                       (try (have c64b2 : (((rd_T50 y356 x127_3).f1.f0) == ((rd_T50 t336 x109_2).f1.f0) && (((rd_T50 y356 x127_3).f1.f1) == ((rd_T50 t336 x109_2).f1.f1) && ((((rd_T50 y356 x127_3).f1.f2.f0) == ((rd_T50 t336 x109_2).f1.f2.f0) && (((rd_T50 y356 x127_3).f1.f2.f1) == ((rd_T50 t336 x109_2).f1.f2.f1))) && (((((rd_T50 y356 x127_3).f1.f3.f0.f0) == ((rd_T50 t336 x109_2).f1.f3.f0.f0) && (((rd_T50 y356 x127_3).f1.f3.f0.f1) == ((rd_T50 t336 x109_2).f1.f3.f0.f1))) && ((((rd_T50 y356 x127_3).f1.f3.f1.f0) == ((rd_T50 t336 x109_2).f1.f3.f1.f0) && (((rd_T50 y356 x127_3).f1.f3.f1.f1) == ((rd_T50 t336 x109_2).f1.f3.f1.f1))))) && (((rd_T50 y356 x127_3).f1.f4) == ((rd_T50 t336 x109_2).f1.f4)))))) = true := by simpa using c64))
                       clear c64
                       exact absurd ((Option.some.inj H).trans hT.out) Bool.false_ne_true
                      ·rw [if_neg c64] at H
                       have c64b0 : (((rd_T50 y356 x127_3).f1.f0) == ((rd_T50 t336 x109_2).f1.f0) && (((rd_T50 y356 x127_3).f1.f1) == ((rd_T50 t336 x109_2).f1.f1) && ((((rd_T50 y356 x127_3).f1.f2.f0) == ((rd_T50 t336 x109_2).f1.f2.f0) && (((rd_T50 y356 x127_3).f1.f2.f1) == ((rd_T50 t336 x109_2).f1.f2.f1))) && (((((rd_T50 y356 x127_3).f1.f3.f0.f0) == ((rd_T50 t336 x109_2).f1.f3.f0.f0) && (((rd_T50 y356 x127_3).f1.f3.f0.f1) == ((rd_T50 t336 x109_2).f1.f3.f0.f1))) && ((((rd_T50 y356 x127_3).f1.f3.f1.f0) == ((rd_T50 t336 x109_2).f1.f3.f1.f0) && (((rd_T50 y356 x127_3).f1.f3.f1.f1) == ((rd_T50 t336 x109_2).f1.f3.f1.f1))))) && (((rd_T50 y356 x127_3).f1.f4) == ((rd_T50 t336 x109_2).f1.f4)))))) = false := by simpa using c64
                       (try (have c64b1 : decide (((rd_T50 y356 x127_3).f1.f0) = ((rd_T50 t336 x109_2).f1.f0) && (((rd_T50 y356 x127_3).f1.f1) == ((rd_T50 t336 x109_2).f1.f1) && ((((rd_T50 y356 x127_3).f1.f2.f0) == ((rd_T50 t336 x109_2).f1.f2.f0) && (((rd_T50 y356 x127_3).f1.f2.f1) == ((rd_T50 t336 x109_2).f1.f2.f1))) && (((((rd_T50 y356 x127_3).f1.f3.f0.f0) == ((rd_T50 t336 x109_2).f1.f3.f0.f0) && (((rd_T50 y356 x127_3).f1.f3.f0.f1) == ((rd_T50 t336 x109_2).f1.f3.f0.f1))) && ((((rd_T50 y356 x127_3).f1.f3.f1.f0) == ((rd_T50 t336 x109_2).f1.f3.f1.f0) && (((rd_T50 y356 x127_3).f1.f3.f1.f1) == ((rd_T50 t336 x109_2).f1.f3.f1.f1))))) && (((rd_T50 y356 x127_3).f1.f4) == ((rd_T50 t336 x109_2).f1.f4)))))) = false := by simpa using c64))
                       (try (have c64b2 : (((rd_T50 y356 x127_3).f1.f0) == ((rd_T50 t336 x109_2).f1.f0) && (((rd_T50 y356 x127_3).f1.f1) == ((rd_T50 t336 x109_2).f1.f1) && ((((rd_T50 y356 x127_3).f1.f2.f0) == ((rd_T50 t336 x109_2).f1.f2.f0) && (((rd_T50 y356 x127_3).f1.f2.f1) == ((rd_T50 t336 x109_2).f1.f2.f1))) && (((((rd_T50 y356 x127_3).f1.f3.f0.f0) == ((rd_T50 t336 x109_2).f1.f3.f0.f0) && (((rd_T50 y356 x127_3).f1.f3.f0.f1) == ((rd_T50 t336 x109_2).f1.f3.f0.f1))) && ((((rd_T50 y356 x127_3).f1.f3.f1.f0) == ((rd_T50 t336 x109_2).f1.f3.f1.f0) && (((rd_T50 y356 x127_3).f1.f3.f1.f1) == ((rd_T50 t336 x109_2).f1.f3.f1.f1))))) && (((rd_T50 y356 x127_3).f1.f4) == ((rd_T50 t336 x109_2).f1.f4)))))) = false := by simpa using c64))
                       (try (have c64b3 : ¬ (((rd_T50 y356 x127_3).f1.f0) = ((rd_T50 t336 x109_2).f1.f0) && (((rd_T50 y356 x127_3).f1.f1) == ((rd_T50 t336 x109_2).f1.f1) && ((((rd_T50 y356 x127_3).f1.f2.f0) == ((rd_T50 t336 x109_2).f1.f2.f0) && (((rd_T50 y356 x127_3).f1.f2.f1) == ((rd_T50 t336 x109_2).f1.f2.f1))) && (((((rd_T50 y356 x127_3).f1.f3.f0.f0) == ((rd_T50 t336 x109_2).f1.f3.f0.f0) && (((rd_T50 y356 x127_3).f1.f3.f0.f1) == ((rd_T50 t336 x109_2).f1.f3.f0.f1))) && ((((rd_T50 y356 x127_3).f1.f3.f1.f0) == ((rd_T50 t336 x109_2).f1.f3.f1.f0) && (((rd_T50 y356 x127_3).f1.f3.f1.f1) == ((rd_T50 t336 x109_2).f1.f3.f1.f1))))) && (((rd_T50 y356 x127_3).f1.f4) == ((rd_T50 t336 x109_2).f1.f4)))))) := by simpa using c64))
                       clear c64
                       have H' := ak_ H
                       clear H
                       have p360 : 0 ≤ (x127_3 : Int) := od_ (by first | (with_reducible assumption) | assumption)
                       have q360 : x127_3 < (y356.length : Int) := od_ (by first | (with_reducible assumption) | assumption)
                       obtain ⟨ad360, e360, hx360_0, hx360_1, hx360_2, hx360_3, hx360_4, hx360_5, hx360_6, hx360_7, hx360_8, hx360_9, hx360_10⟩ := at_T50 HR359.out x127_3 p360 q360
                       obtain rfl : ad354 = ad360 := (by injection e360)
                       replace p360 := eq_true p360
                       replace q360 := eq_true q360
                       go_wp2
                       have n0_ := ak_ (Kd.R_alloc HO_11.out (.cells #[.int .u64 ((rd_T50 y356 x127_3).f0.f0), .int .u64 ((rd_T50 y356 x127_3).f0.f1), .bool ((rd_T50 y356 x127_3).f1.f0), .bool ((rd_T50 y356 x127_3).f1.f1), .int .u64 ((rd_T50 y356 x127_3).f1.f2.f0), .int .u64 ((rd_T50 y356 x127_3).f1.f2.f1), .int .u64 ((rd_T50 y356 x127_3).f1.f3.f0.f0), .int .u64 ((rd_T50 y356 x127_3).f1.f3.f0.f1), .int .u64 ((rd_T50 y356 x127_3).f1.f3.f1.f0), .int .u64 ((rd_T50 y356 x127_3).f1.f3.f1.f1), .int .i64 ((rd_T50 y356 x127_3).f1.f4)] 50 (0, 0)))
                       have n1_ := ak_ (Kd.R_alloc HO_14.out (.cells #[.int .u64 ((rd_T50 y356 x127_3).f0.f0), .int .u64 ((rd_T50 y356 x127_3).f0.f1), .bool ((rd_T50 y356 x127_3).f1.f0), .bool ((rd_T50 y356 x127_3).f1.f1), .int .u64 ((rd_T50 y356 x127_3).f1.f2.f0), .int .u64 ((rd_T50 y356 x127_3).f1.f2.f1), .int .u64 ((rd_T50 y356 x127_3).f1.f3.f0.f0), .int .u64 ((rd_T50 y356 x127_3).f1.f3.f0.f1), .int .u64 ((rd_T50 y356 x127_3).f1.f3.f1.f0), .int .u64 ((rd_T50 y356 x127_3).f1.f3.f1.f1), .int .i64 ((rd_T50 y356 x127_3).f1.f4)] 50 (0, 0)))
                       have n2_ := ak_ (ka_ BK331.out (.cells #[.int .u64 ((rd_T50 y356 x127_3).f0.f0), .int .u64 ((rd_T50 y356 x127_3).f0.f1), .bool ((rd_T50 y356 x127_3).f1.f0), .bool ((rd_T50 y356 x127_3).f1.f1), .int .u64 ((rd_T50 y356 x127_3).f1.f2.f0), .int .u64 ((rd_T50 y356 x127_3).f1.f2.f1), .int .u64 ((rd_T50 y356 x127_3).f1.f3.f0.f0), .int .u64 ((rd_T50 y356 x127_3).f1.f3.f0.f1), .int .u64 ((rd_T50 y356 x127_3).f1.f3.f1.f0), .int .u64 ((rd_T50 y356 x127_3).f1.f3.f1.f1), .int .i64 ((rd_T50 y356 x127_3).f1.f4)] 50 (0, 0)))
                       have n3_ := ak_ (Kd.C_alloc HR359.out (.cells #[.int .u64 ((rd_T50 y356 x127_3).f0.f0), .int .u64 ((rd_T50 y356 x127_3).f0.f1), .bool ((rd_T50 y356 x127_3).f1.f0), .bool ((rd_T50 y356 x127_3).f1.f1), .int .u64 ((rd_T50 y356 x127_3).f1.f2.f0), .int .u64 ((rd_T50 y356 x127_3).f1.f2.f1), .int .u64 ((rd_T50 y356 x127_3).f1.f3.f0.f0), .int .u64 ((rd_T50 y356 x127_3).f1.f3.f0.f1), .int .u64 ((rd_T50 y356 x127_3).f1.f3.f1.f0), .int .u64 ((rd_T50 y356 x127_3).f1.f3.f1.f1), .int .i64 ((rd_T50 y356 x127_3).f1.f4)] 50 (0, 0)))
                       have n4_ := ak_ (ba_ HB.out (.cells #[.int .u64 ((rd_T50 y356 x127_3).f0.f0), .int .u64 ((rd_T50 y356 x127_3).f0.f1), .bool ((rd_T50 y356 x127_3).f1.f0), .bool ((rd_T50 y356 x127_3).f1.f1), .int .u64 ((rd_T50 y356 x127_3).f1.f2.f0), .int .u64 ((rd_T50 y356 x127_3).f1.f2.f1), .int .u64 ((rd_T50 y356 x127_3).f1.f3.f0.f0), .int .u64 ((rd_T50 y356 x127_3).f1.f3.f0.f1), .int .u64 ((rd_T50 y356 x127_3).f1.f3.f1.f0), .int .u64 ((rd_T50 y356 x127_3).f1.f3.f1.f1), .int .i64 ((rd_T50 y356 x127_3).f1.f4)] 50 (0, 0)))
                       have BX_ := blk_new wr (.cells #[.int .u64 ((rd_T50 y356 x127_3).f0.f0), .int .u64 ((rd_T50 y356 x127_3).f0.f1), .bool ((rd_T50 y356 x127_3).f1.f0), .bool ((rd_T50 y356 x127_3).f1.f1), .int .u64 ((rd_T50 y356 x127_3).f1.f2.f0), .int .u64 ((rd_T50 y356 x127_3).f1.f2.f1), .int .u64 ((rd_T50 y356 x127_3).f1.f3.f0.f0), .int .u64 ((rd_T50 y356 x127_3).f1.f3.f0.f1), .int .u64 ((rd_T50 y356 x127_3).f1.f3.f1.f0), .int .u64 ((rd_T50 y356 x127_3).f1.f3.f1.f1), .int .i64 ((rd_T50 y356 x127_3).f1.f4)] 50 (0, 0))
                       clear HO_11 HO_14 BK331 HR359 HB
                       generalize wr.alloc (.cells #[.int .u64 ((rd_T50 y356 x127_3).f0.f0), .int .u64 ((rd_T50 y356 x127_3).f0.f1), .bool ((rd_T50 y356 x127_3).f1.f0), .bool ((rd_T50 y356 x127_3).f1.f1), .int .u64 ((rd_T50 y356 x127_3).f1.f2.f0), .int .u64 ((rd_T50 y356 x127_3).f1.f2.f1), .int .u64 ((rd_T50 y356 x127_3).f1.f3.f0.f0), .int .u64 ((rd_T50 y356 x127_3).f1.f3.f0.f1), .int .u64 ((rd_T50 y356 x127_3).f1.f3.f1.f0), .int .u64 ((rd_T50 y356 x127_3).f1.f3.f1.f1), .int .i64 ((rd_T50 y356 x127_3).f1.f4)] 50 (0, 0)) = wq at n0_ n1_ n2_ n3_ n4_ BX_ ⊢
                       have HO_11 := n0_
                       have HO_14 := n1_
                       have BK331 := n2_
                       have HR359 := n3_
                       have HB := n4_
                       clear n0_ n1_ n2_ n3_ n4_
                       have hb9_0 : wq.cell? ⟨wr.heap.size, 0, none⟩ = some (.int .u64 ((rd_T50 y356 x127_3).f0.f0)) := (kc_ BX_ 0).trans rfl
                       have hb9_1 : wq.cell? ⟨wr.heap.size, 1, none⟩ = some (.int .u64 ((rd_T50 y356 x127_3).f0.f1)) := (kc_ BX_ 1).trans rfl
                       have hb9_2 : wq.cell? ⟨wr.heap.size, 2, none⟩ = some (.bool ((rd_T50 y356 x127_3).f1.f0)) := (kc_ BX_ 2).trans rfl
                       have hb9_3 : wq.cell? ⟨wr.heap.size, 3, none⟩ = some (.bool ((rd_T50 y356 x127_3).f1.f1)) := (kc_ BX_ 3).trans rfl
                       have hb9_4 : wq.cell? ⟨wr.heap.size, 4, none⟩ = some (.int .u64 ((rd_T50 y356 x127_3).f1.f2.f0)) := (kc_ BX_ 4).trans rfl
                       have hb9_5 : wq.cell? ⟨wr.heap.size, 5, none⟩ = some (.int .u64 ((rd_T50 y356 x127_3).f1.f2.f1)) := (kc_ BX_ 5).trans rfl
                       have hb9_6 : wq.cell? ⟨wr.heap.size, 6, none⟩ = some (.int .u64 ((rd_T50 y356 x127_3).f1.f3.f0.f0)) := (kc_ BX_ 6).trans rfl
                       have hb9_7 : wq.cell? ⟨wr.heap.size, 7, none⟩ = some (.int .u64 ((rd_T50 y356 x127_3).f1.f3.f0.f1)) := (kc_ BX_ 7).trans rfl
                       have hb9_8 : wq.cell? ⟨wr.heap.size, 8, none⟩ = some (.int .u64 ((rd_T50 y356 x127_3).f1.f3.f1.f0)) := (kc_ BX_ 8).trans rfl
                       have hb9_9 : wq.cell? ⟨wr.heap.size, 9, none⟩ = some (.int .u64 ((rd_T50 y356 x127_3).f1.f3.f1.f1)) := (kc_ BX_ 9).trans rfl
                       have hb9_10 : wq.cell? ⟨wr.heap.size, 10, none⟩ = some (.int .i64 ((rd_T50 y356 x127_3).f1.f4)) := (kc_ BX_ 10).trans rfl
                       clear BX_
                       have p9_ : 0 ≤ (x109_2 : Int) := (od_ (by first | (with_reducible assumption) | assumption))
                       have q9_ : x109_2 < (t336.length : Int) := (od_ (by first | (with_reducible assumption) | assumption))
                       obtain ⟨ad9_, e9_, hy9_0, hy9_1, hy9_2, hy9_3, hy9_4, hy9_5, hy9_6, hy9_7, hy9_8, hy9_9, hy9_10⟩ := at_T50 (Kd.R_reads' HO_11.out).2.2 x109_2 p9_ q9_
                       obtain rfl : ad354 = ad9_ := (by injection e9_)
                       replace p9_ := eq_true p9_
                       replace q9_ := eq_true q9_
                       repeat (go_quiet (fail))
                       go_wp2
                       go_roundg k3
                       case measure => have := HJ12.out; have := HK2.out; have := HK3.out; omega
                       case rel => exact ⟨(wrap64 (x127_3 + 1)), rf_, H', ⟨by have := HJ12.out; have := HK2.out; have := HK3.out; omega⟩, ⟨rl_ HO_11⟩, ⟨rl_ HO_14⟩, ⟨kl_ BK331⟩, ⟨by repeat (first | (with_reducible exact HR359.out) | (with_reducible refine Kd.C_alloc ?_ _) | (with_reducible refine Kd.C_drewN ?_ _) | (with_reducible refine Kd.C_drew ?_) | exact HR359.out)⟩, ⟨bw1_ HB GE331⟩⟩
                     ·rw [if_neg c63] at H
                      exact absurd H (by simp)
                    ·rw [if_neg c62] at H
                     exact absurd H (by simp)
                   ·rw [if_neg c61] at H
                    exact absurd H (by simp)
                  ·rw [if_neg c60] at H
                   exact absurd H (by simp)
                 ·rw [if_neg c59] at H
                  have c59b0 := decide_eq_false c59
                  clear c59
                  have H' := ak_ H
                  clear H
                  go_wp2
                  repeat (go_quiet (fail); try go_wp2)
                  go_roundg k3
                  case measure => have := HJ12.out; have := HK2.out; have := HK3.out; omega
                  case rel => exact ⟨(wrap64 (x109_2 + 1)), rf_, H', ⟨by have := HJ12.out; have := HK2.out; have := HK3.out; omega⟩, ⟨rl_ HO_11⟩, ⟨rl_ HO_14⟩, ⟨kl_ BK331⟩, ⟨bw1_ HB GE331⟩⟩
              ·rw [if_neg c56] at H
               exact absurd H (by simp)
            ·rw [if_neg c53] at H
             exact absurd H (by simp)
           ·rw [if_neg c52] at H
            exact absurd H (by simp)
          ·rw [if_neg c51] at H
           exact absurd H (by simp)
         ·rw [if_neg c50] at H
          have c50b0 := decide_eq_false c50
          clear c50
          obtain rfl := Option.some.inj H
          go_wp2
          repeat (go_quiet (fail); try go_wp2)
          go_ret
          exact ea_ (bw1_ HB GE331)
   ·rw [if_neg c11] at H
    have c11b0 : (t342 == 0) = false := beq_eq_false_iff_ne.mpr c11
    have c11b1 : (t342 != 0) = true := bne_iff_ne.mpr c11
    by_cases c68 : t332 = true
    ·subst c68
     have H1 : (if t342 = t349 then (some ((t336.length : Int) == 0)) else (some false)) = some r := by rw [if_pos rfl] at H; exact H
     clear H
     have H := H1
     clear H1
     by_cases c69 : t342 = t349
     ·rw [if_pos c69] at H
      have c69b0 : (t342 == t349) = true := beq_iff_eq.mpr c69
      have c69b1 : (t342 != t349) = false := bne_eq_false_iff_eq.mpr c69
      clear c69
      obtain rfl := Option.some.inj H
      go_enter func4, ntmps4
      go_wp2_with (first | ((with_reducible refine gate_dst (N := 4) rfl ?_); (try (refine gate_guard (by rfl) ?_; dsimp only)); refine bx_ 4 #[.int .u64 a0_0, .int .u64 a0_1] 24 ?_; intro gb331 hg w70 hbox hb; have BK331 := ak_ hbox; have GW331 := ak_ (gs_ hg HB); have GE331 := ak_ (gs_ hg HB); replace HB := ak_ (bt_ (bl_ HB) hb); clear hb hbox hg) | (go_at_call 12; (with_reducible refine (medlarlaw14_live.calls k  true _ A5.out).mono ?_); rintro e w71 ⟨rfl, hb⟩; replace BK331 := ak_ (kb_ (kl_ BK331) hb); replace HB := ak_ (bt_ (bw1_ HB GE331) hb); (try clear hb); (try clear hk)) | ((with_reducible refine gate_dst (N := 27) rfl ?_); (try (refine gate_guard (by rfl) ?_; dsimp only)); refine Kd.R_lit k45 _ 45 ?hg (N := 27) ?hd (xs := ([(⟨1, 0, 0⟩ : S45)] : List (S45))) (inner := [.int .i64 1, .int .i64 0, .int .i64 0]) (ok := fun _ => True) (okp := fun _ => True) ?hr ?hp (fun _ hk => hk) trivial (Below.refl _ _) (Nat.le_refl _) (by simp) ?_; (case hd => rfl); (case hg => rfl); (case hr => first | (go_simp; done) | (go_simp; rfl)); (case hp => exact (Reps.c3 (show Kd.M k45 _ _ _ (⟨1, 0, 0⟩ : S45) [.int .i64 1, .int .i64 0, .int .i64 0] from (k45_mkM _ _ _ (⟨1, 0, 0⟩ : S45) )) (Reps.none _ _))); intro v334 w72 ho73 hb hg_ hnew_; clear hg_ hnew_; (first | rw [← Ny333.out] at ho73 | (simp only [Int.reduceToNat] at ho73; rw [← Ny333.out] at ho73)); have HO335 := ak_ (Kd.R_lower ho73 (bz_ (bw1_ HB GE331))); replace BK331 := ak_ (kb_ (kl_ BK331) hb); replace HB := ak_ (bt_ (bw1_ HB GE331) hb); clear hb ho73; obtain ⟨Ao74, co74, eo74⟩ := Kd.R_slice HO335.out; subst eo74) | (go_at_call 7; (with_reducible refine (store_Make.calls k _ _ y333 a1 a2 true false 0 0 0 0 0 0 0 a3 t336 t339 t342 _ ?side1 ?side2 A9.out).mono ?_); (case side1 => repeat (first | exact (Kd.R_reads' HO335.out).2.2 | (with_reducible refine Kd.C_alloc ?_ _) | (with_reducible refine Kd.C_drewN ?_ _) | (with_reducible refine Kd.C_drew ?_))); (case side2 => exact (Kd.R_reads' HO335.out).2.1); rintro e w75 ⟨v337, v340, rfl, ho0, ho1, hb⟩; have HO338 := ak_ (Kd.R_lower ho0 (bz_ (bw1_ HB GE331))); have HO341 := ak_ (Kd.R_lower (Kd.R_new' ho1 (Kd.R_lt (rl_ HO335))) (bz_ (bw1_ HB GE331))); replace HO335 := ak_ (Kd.R_elder' (rl_ HO335) (Kd.R_base ho1) hb); replace BK331 := ak_ (kb_ (kl_ BK331) hb); replace HB := ak_ (bt_ (bw1_ HB GE331) hb); (try clear hb); (try clear hk); (try clear ho0); (try clear ho1); obtain ⟨hcz76_0, hcz76_1, hfz76_0, hfz76_1⟩ := kc2_ BK331.out) | (go_at_call 7; (refine (store_Make.calls k _ _ ([] : List (S45)) a1 a2 false false a0_0 a0_1 0 0 0 0 0 a3 t343 t346 t349 _ ?side1 ?side2 A10.out).mono ?_); (case side1 => exact Kd.C_nil _ _); (case side2 => exact Nat.le_refl _); rintro e w77 ⟨v344, v347, rfl, ho0, ho1, hb⟩; have HO345 := ak_ (Kd.R_lower (Kd.R_new' ho0 (Kd.R_lt (rl_ HO338))) (bz_ (bw1_ HB GE331))); replace HO338 := ak_ (Kd.R_elder' (rl_ HO338) (Kd.R_base ho0) hb); have HO348 := ak_ (Kd.R_lower (Kd.R_new' (Kd.R_new' ho1 (Kd.R_lt (rl_ HO335))) (Kd.R_lt (rl_ HO341))) (bz_ (bw1_ HB GE331))); replace HO335 := ak_ (Kd.R_elder' (rl_ HO335) (Kd.R_base ho1) hb); replace HO341 := ak_ (Kd.R_elder' (rl_ HO341) (Kd.R_base ho1) hb); replace BK331 := ak_ (kb_ (kl_ BK331) hb); replace HB := ak_ (bt_ (bw1_ HB GE331) hb); (try clear hb); (try clear hk); (try clear ho0); (try clear ho1); obtain ⟨Ao78, co78, eo78⟩ := Kd.R_slice HO338.out; subst eo78))
      repeat (go_quiet (first | ((with_reducible refine gate_dst (N := 4) rfl ?_); (try (refine gate_guard (by rfl) ?_; dsimp only)); refine bx_ 4 #[.int .u64 a0_0, .int .u64 a0_1] 24 ?_; intro gb331 hg w70 hbox hb; have BK331 := ak_ hbox; have GW331 := ak_ (gs_ hg HB); have GE331 := ak_ (gs_ hg HB); replace HB := ak_ (bt_ (bl_ HB) hb); clear hb hbox hg) | (go_at_call 12; (with_reducible refine (medlarlaw14_live.calls k  true _ A5.out).mono ?_); rintro e w71 ⟨rfl, hb⟩; replace BK331 := ak_ (kb_ (kl_ BK331) hb); replace HB := ak_ (bt_ (bw1_ HB GE331) hb); (try clear hb); (try clear hk)) | ((with_reducible refine gate_dst (N := 27) rfl ?_); (try (refine gate_guard (by rfl) ?_; dsimp only)); refine Kd.R_lit k45 _ 45 ?hg (N := 27) ?hd (xs := ([(⟨1, 0, 0⟩ : S45)] : List (S45))) (inner := [.int .i64 1, .int .i64 0, .int .i64 0]) (ok := fun _ => True) (okp := fun _ => True) ?hr ?hp (fun _ hk => hk) trivial (Below.refl _ _) (Nat.le_refl _) (by simp) ?_; (case hd => rfl); (case hg => rfl); (case hr => first | (go_simp; done) | (go_simp; rfl)); (case hp => exact (Reps.c3 (show Kd.M k45 _ _ _ (⟨1, 0, 0⟩ : S45) [.int .i64 1, .int .i64 0, .int .i64 0] from (k45_mkM _ _ _ (⟨1, 0, 0⟩ : S45) )) (Reps.none _ _))); intro v334 w72 ho73 hb hg_ hnew_; clear hg_ hnew_; (first | rw [← Ny333.out] at ho73 | (simp only [Int.reduceToNat] at ho73; rw [← Ny333.out] at ho73)); have HO335 := ak_ (Kd.R_lower ho73 (bz_ (bw1_ HB GE331))); replace BK331 := ak_ (kb_ (kl_ BK331) hb); replace HB := ak_ (bt_ (bw1_ HB GE331) hb); clear hb ho73; obtain ⟨Ao74, co74, eo74⟩ := Kd.R_slice HO335.out; subst eo74) | (go_at_call 7; (with_reducible refine (store_Make.calls k _ _ y333 a1 a2 true false 0 0 0 0 0 0 0 a3 t336 t339 t342 _ ?side1 ?side2 A9.out).mono ?_); (case side1 => repeat (first | exact (Kd.R_reads' HO335.out).2.2 | (with_reducible refine Kd.C_alloc ?_ _) | (with_reducible refine Kd.C_drewN ?_ _) | (with_reducible refine Kd.C_drew ?_))); (case side2 => exact (Kd.R_reads' HO335.out).2.1); rintro e w75 ⟨v337, v340, rfl, ho0, ho1, hb⟩; have HO338 := ak_ (Kd.R_lower ho0 (bz_ (bw1_ HB GE331))); have HO341 := ak_ (Kd.R_lower (Kd.R_new' ho1 (Kd.R_lt (rl_ HO335))) (bz_ (bw1_ HB GE331))); replace HO335 := ak_ (Kd.R_elder' (rl_ HO335) (Kd.R_base ho1) hb); replace BK331 := ak_ (kb_ (kl_ BK331) hb); replace HB := ak_ (bt_ (bw1_ HB GE331) hb); (try clear hb); (try clear hk); (try clear ho0); (try clear ho1); obtain ⟨hcz76_0, hcz76_1, hfz76_0, hfz76_1⟩ := kc2_ BK331.out) | (go_at_call 7; (refine (store_Make.calls k _ _ ([] : List (S45)) a1 a2 false false a0_0 a0_1 0 0 0 0 0 a3 t343 t346 t349 _ ?side1 ?side2 A10.out).mono ?_); (case side1 => exact Kd.C_nil _ _); (case side2 => exact Nat.le_refl _); rintro e w77 ⟨v344, v347, rfl, ho0, ho1, hb⟩; have HO345 := ak_ (Kd.R_lower (Kd.R_new' ho0 (Kd.R_lt (rl_ HO338))) (bz_ (bw1_ HB GE331))); replace HO338 := ak_ (Kd.R_elder' (rl_ HO338) (Kd.R_base ho0) hb); have HO348 := ak_ (Kd.R_lower (Kd.R_new' (Kd.R_new' ho1 (Kd.R_lt (rl_ HO335))) (Kd.R_lt (rl_ HO341))) (bz_ (bw1_ HB GE331))); replace HO335 := ak_ (Kd.R_elder' (rl_ HO335) (Kd.R_base ho1) hb); replace HO341 := ak_ (Kd.R_elder' (rl_ HO341) (Kd.R_base ho1) hb); replace BK331 := ak_ (kb_ (kl_ BK331) hb); replace HB := ak_ (bt_ (bw1_ HB GE331) hb); (try clear hb); (try clear hk); (try clear ho0); (try clear ho1); obtain ⟨Ao78, co78, eo78⟩ := Kd.R_slice HO338.out; subst eo78)); try go_wp2_with (first | ((with_reducible refine gate_dst (N := 4) rfl ?_); (try (refine gate_guard (by rfl) ?_; dsimp only)); refine bx_ 4 #[.int .u64 a0_0, .int .u64 a0_1] 24 ?_; intro gb331 hg w70 hbox hb; have BK331 := ak_ hbox; have GW331 := ak_ (gs_ hg HB); have GE331 := ak_ (gs_ hg HB); replace HB := ak_ (bt_ (bl_ HB) hb); clear hb hbox hg) | (go_at_call 12; (with_reducible refine (medlarlaw14_live.calls k  true _ A5.out).mono ?_); rintro e w71 ⟨rfl, hb⟩; replace BK331 := ak_ (kb_ (kl_ BK331) hb); replace HB := ak_ (bt_ (bw1_ HB GE331) hb); (try clear hb); (try clear hk)) | ((with_reducible refine gate_dst (N := 27) rfl ?_); (try (refine gate_guard (by rfl) ?_; dsimp only)); refine Kd.R_lit k45 _ 45 ?hg (N := 27) ?hd (xs := ([(⟨1, 0, 0⟩ : S45)] : List (S45))) (inner := [.int .i64 1, .int .i64 0, .int .i64 0]) (ok := fun _ => True) (okp := fun _ => True) ?hr ?hp (fun _ hk => hk) trivial (Below.refl _ _) (Nat.le_refl _) (by simp) ?_; (case hd => rfl); (case hg => rfl); (case hr => first | (go_simp; done) | (go_simp; rfl)); (case hp => exact (Reps.c3 (show Kd.M k45 _ _ _ (⟨1, 0, 0⟩ : S45) [.int .i64 1, .int .i64 0, .int .i64 0] from (k45_mkM _ _ _ (⟨1, 0, 0⟩ : S45) )) (Reps.none _ _))); intro v334 w72 ho73 hb hg_ hnew_; clear hg_ hnew_; (first | rw [← Ny333.out] at ho73 | (simp only [Int.reduceToNat] at ho73; rw [← Ny333.out] at ho73)); have HO335 := ak_ (Kd.R_lower ho73 (bz_ (bw1_ HB GE331))); replace BK331 := ak_ (kb_ (kl_ BK331) hb); replace HB := ak_ (bt_ (bw1_ HB GE331) hb); clear hb ho73; obtain ⟨Ao74, co74, eo74⟩ := Kd.R_slice HO335.out; subst eo74) | (go_at_call 7; (with_reducible refine (store_Make.calls k _ _ y333 a1 a2 true false 0 0 0 0 0 0 0 a3 t336 t339 t342 _ ?side1 ?side2 A9.out).mono ?_); (case side1 => repeat (first | exact (Kd.R_reads' HO335.out).2.2 | (with_reducible refine Kd.C_alloc ?_ _) | (with_reducible refine Kd.C_drewN ?_ _) | (with_reducible refine Kd.C_drew ?_))); (case side2 => exact (Kd.R_reads' HO335.out).2.1); rintro e w75 ⟨v337, v340, rfl, ho0, ho1, hb⟩; have HO338 := ak_ (Kd.R_lower ho0 (bz_ (bw1_ HB GE331))); have HO341 := ak_ (Kd.R_lower (Kd.R_new' ho1 (Kd.R_lt (rl_ HO335))) (bz_ (bw1_ HB GE331))); replace HO335 := ak_ (Kd.R_elder' (rl_ HO335) (Kd.R_base ho1) hb); replace BK331 := ak_ (kb_ (kl_ BK331) hb); replace HB := ak_ (bt_ (bw1_ HB GE331) hb); (try clear hb); (try clear hk); (try clear ho0); (try clear ho1); obtain ⟨hcz76_0, hcz76_1, hfz76_0, hfz76_1⟩ := kc2_ BK331.out) | (go_at_call 7; (refine (store_Make.calls k _ _ ([] : List (S45)) a1 a2 false false a0_0 a0_1 0 0 0 0 0 a3 t343 t346 t349 _ ?side1 ?side2 A10.out).mono ?_); (case side1 => exact Kd.C_nil _ _); (case side2 => exact Nat.le_refl _); rintro e w77 ⟨v344, v347, rfl, ho0, ho1, hb⟩; have HO345 := ak_ (Kd.R_lower (Kd.R_new' ho0 (Kd.R_lt (rl_ HO338))) (bz_ (bw1_ HB GE331))); replace HO338 := ak_ (Kd.R_elder' (rl_ HO338) (Kd.R_base ho0) hb); have HO348 := ak_ (Kd.R_lower (Kd.R_new' (Kd.R_new' ho1 (Kd.R_lt (rl_ HO335))) (Kd.R_lt (rl_ HO341))) (bz_ (bw1_ HB GE331))); replace HO335 := ak_ (Kd.R_elder' (rl_ HO335) (Kd.R_base ho1) hb); replace HO341 := ak_ (Kd.R_elder' (rl_ HO341) (Kd.R_base ho1) hb); replace BK331 := ak_ (kb_ (kl_ BK331) hb); replace HB := ak_ (bt_ (bw1_ HB GE331) hb); (try clear hb); (try clear hk); (try clear ho0); (try clear ho1); obtain ⟨Ao78, co78, eo78⟩ := Kd.R_slice HO338.out; subst eo78)))
      go_ret
      exact ea_ (bw1_ HB GE331)
     ·rw [if_neg c69] at H
      have c69b0 : (t342 == t349) = false := beq_eq_false_iff_ne.mpr c69
      have c69b1 : (t342 != t349) = true := bne_iff_ne.mpr c69
      exact absurd ((Option.some.inj H).trans hT.out) Bool.false_ne_true
    ·replace c68 := Bool.eq_false_iff.mpr c68
     subst c68
     have H1 : (some false) = some r := by rw [if_neg (show ¬ (false = true) by decide)] at H; exact H
     clear H
     have H := H1
     clear H1
     exact absurd ((Option.some.inj H).trans hT.out) Bool.false_ne_true
def medlarlaw14_StoreMay.Pure : Prop := ∀ (a0_0 : Int) (a0_1 : Int) (a1 : Int) (a2 : Int) (a3 : Int), (Lit.int .u64 a0_0).wf = true → (Lit.int .u64 a0_1).wf = true → (Lit.int .i64 a1).wf = true → (Lit.int .i64 a2).wf = true → (Lit.int .u64 a3).wf = true → ∃ k, medlarlaw14_StoreMay.f k a0_0 a0_1 a1 a2 a3 = some true
theorem medlarlaw14_StoreMay.walk (P : medlarlaw14_StoreMay.Pure) (a0_0 : Int) (a0_1 : Int) (a1 : Int) (a2 : Int) (a3 : Int) (w : World) (w0_0 : (Lit.int .u64 a0_0).wf = true) (w0_1 : (Lit.int .u64 a0_1).wf = true) (w1 : (Lit.int .i64 a1).wf = true) (w2 : (Lit.int .i64 a2).wf = true) (w3 : (Lit.int .u64 a3).wf = true) :
   Calls Try.prog 4 #[.agg #[.int .u64 a0_0, .int .u64 a0_1], .int .i64 a1, .int .i64 a2, .int .u64 a3] w fun e w' => e = .returned (.bool true) ∧ Below w.heap.size w w' := by
  obtain ⟨k, h⟩ := P a0_0 a0_1 a1 a2 a3 w0_0 w0_1 w1 w2 w3
  refine (medlarlaw14_StoreMay.calls k a0_0 a0_1 a1 a2 a3 true w h ⟨rfl⟩).mono ?_
  rintro e w' ⟨rfl, hd⟩
  exact ⟨rfl, hd⟩
end Go.Proofs.Ytkleiaeihihjnaa.MP
