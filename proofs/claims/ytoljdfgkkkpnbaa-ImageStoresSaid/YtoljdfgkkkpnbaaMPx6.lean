-- written by a program of this session (wip/tools/mprint.sh) for this seat
import Derived.Test.YtoljdfgkkkpnbaaMPx0
import Derived.Test.YtoljdfgkkkpnbaaMPx1
import Derived.Test.YtoljdfgkkkpnbaaMPx2
import Derived.Test.YtoljdfgkkkpnbaaMPx5
namespace Go.Proofs.Ytoljdfgkkkpnbaa.MP
open Go.RowKit Go.Proofs.YtoljdfgkkkpnbaaW.PrintWords Go.Proofs.YtoljdfgkkkpnbaaW.PrintLast Go.Proofs.YtoljdfgkkkpnbaaW.PrintMore
open Option (bind_eq_some_iff some.injEq)
open _root_.Go.Proofs.Try
open List (setIfInBounds_toArray set_cons_zero set_cons_succ map_toArray map_cons map_nil length_drop length_take)
attribute [local go_sem] max2_int min2_int max_two min_two max_three min_three max_four min_four
set_option linter.unusedVariables false
set_option linter.unusedSimpArgs false
attribute [local go_sem high] eqA39
def bA6 (k n : Nat) : Array Bool := (Array.range n).map fun i => decide (i < k)
def medlarref07_Check.f (k : Nat) (l0 : List (S75)) (a1_0 : Bool) (a1_1 : Bool) (a1_2 : Int) (a1_3 : Int) (a1_4 : Int) (a1_5 : Int) (a1_6 : Int) (a1_7 : Int) (a1_8 : Int) : Option (Int) := (medlarref05_Check.f k l0).bind fun t312 => (if t312 = 0 then ((medlarref07_May.f l0 a1_0 a1_1 a1_2 a1_3 a1_4 a1_5 a1_6 a1_7 a1_8).bind fun t313 => (if t313 = true then (some 0) else (some 1))) else (some 1))
theorem medlarref07_Check.mono : ∀ a0 a1 a2 a3 a4 a5 a6 a7 a8 a9 k, LeO (medlarref07_Check.f k a0 a1 a2 a3 a4 a5 a6 a7 a8 a9) (medlarref07_Check.f (k + 1) a0 a1 a2 a3 a4 a5 a6 a7 a8 a9) := by
  intro a0 a1 a2 a3 a4 a5 a6 a7 a8 a9 k
  unfold medlarref07_Check.f
  repeat' first
    | (with_reducible exact medlarref05_Check.mono _ _)
    | (with_reducible exact LeO.refl _)
    | (with_reducible exact LeO.none _)
    | (with_reducible refine LeO.ite ?_ ?_)
    | (with_reducible refine LeO.bind ?_ (fun _ => ?_))
    | exact medlarref05_Check.mono _ _
    | exact LeO.none _
    | refine LeO.ite ?_ ?_
    | refine LeO.bind ?_ (fun _ => ?_)
set_option maxHeartbeats 8000000 in
set_option maxRecDepth 100000 in
theorem medlarref07_Check.calls (k : Nat) (A0 : Option Addr) (c0 : Nat) (l0 : List (S75)) (a1_0 : Bool) (a1_1 : Bool) (a1_2 : Int) (a1_3 : Int) (a1_4 : Int) (a1_5 : Int) (a1_6 : Int) (a1_7 : Int) (a1_8 : Int) (r : Int) (w : World) (hr0 : Kd.C k75 w A0 l0.length l0) (hc0 : l0.length ≤ c0) (h : medlarref07_Check.f k l0 a1_0 a1_1 a1_2 a1_3 a1_4 a1_5 a1_6 a1_7 a1_8 = some r) :
   Calls Try.prog 128 #[.slice A0 l0.length c0, .agg #[.bool a1_0, .bool a1_1, .int .u64 a1_2, .int .u64 a1_3, .int .u64 a1_4, .int .u64 a1_5, .int .u64 a1_6, .int .u64 a1_7, .int .i64 a1_8]] w fun e w' => e = .returned (.int .i64 r) ∧ Below w.heap.size w w' := by
  have hu29 := underlying29
  have HR0 := ak_ hr0
  have HC0 := ak_ hc0
  clear hr0 hc0
  have HB := ak_ (Below.refl w.heap.size w)
  have H : ((medlarref05_Check.f k l0).bind fun t312 => (if t312 = 0 then ((medlarref07_May.f l0 a1_0 a1_1 a1_2 a1_3 a1_4 a1_5 a1_6 a1_7 a1_8).bind fun t313 => (if t313 = true then (some 0) else (some 1))) else (some 1))) = some r := h
  clear h
  replace H := bind_eq_some_iff.mp H
  obtain ⟨t312, A30, H⟩ := H
  replace H : (if t312 = 0 then ((medlarref07_May.f l0 a1_0 a1_1 a1_2 a1_3 a1_4 a1_5 a1_6 a1_7 a1_8).bind fun t313 => (if t313 = true then (some 0) else (some 1))) else (some 1)) = some r := H
  have A3 := ak_ A30
  clear A30
  by_cases c4 : t312 = 0
  ·rw [if_pos c4] at H
   have c4b0 : (t312 == 0) = true := beq_iff_eq.mpr c4
   have c4b1 : (t312 != 0) = false := bne_eq_false_iff_eq.mpr c4
   clear c4
   replace H := bind_eq_some_iff.mp H
   obtain ⟨t313, A50, H⟩ := H
   replace H : (if t313 = true then (some 0) else (some 1)) = some r := H
   have A5 := ak_ A50
   clear A50
   by_cases c6 : t313 = true
   ·subst c6
    have H1 : (some 0) = some r := by rw [if_pos rfl] at H; exact H
    clear H
    have H := H1
    clear H1
    obtain rfl := Option.some.inj H
    go_enter func128, ntmps128
    go_wp2_with (first | ((with_reducible refine gate_dst (N := 3) rfl ?_); refine bx_ 3 #[.bool a1_0, .bool a1_1, .int .u64 a1_2, .int .u64 a1_3, .int .u64 a1_4, .int .u64 a1_5, .int .u64 a1_6, .int .u64 a1_7, .int .i64 a1_8] 29 ?_; intro gb311 hg w7 hbox hb; have BK311 := ak_ hbox; have GW311 := ak_ (gs_ hg HB); have GE311 := ak_ (gs_ hg HB); replace HB := ak_ (bt_ (bl_ HB) hb); clear hb hbox hg) | ((with_reducible refine gate_callee (f := 93) rfl ?_); refine gl_ (some 6) func93 #[.slice A0 l0.length c0] ?_; (with_reducible refine (medlarref05_Check.calls k _ _ l0 t312 _ ?side1 ?side2 A3.out).mono ?_); (case side1 => repeat (first | exact (Kd.C_below HR0.out HB.out) | (with_reducible refine Kd.C_alloc ?_ _) | (with_reducible refine Kd.C_drewN ?_ _) | (with_reducible refine Kd.C_drew ?_))); (case side2 => exact HC0.out); rintro e w8 ⟨rfl, hb⟩; refine ⟨_, rfl, ?_⟩; replace BK311 := ak_ (kb_ (g := gb311) (o := .cells #[.bool a1_0, .bool a1_1, .int .u64 a1_2, .int .u64 a1_3, .int .u64 a1_4, .int .u64 a1_5, .int .u64 a1_6, .int .u64 a1_7, .int .i64 a1_8] 29 (0, 0)) (kl_ BK311) hb); replace HB := ak_ (bt_ (by repeat (first | (with_reducible first | exact HB.out | apply ba_ | apply bn_ | apply bd_ | refine below_set ?_ GE311.out) | exact HB.out)) hb); (try clear hb); (try clear hk); have hcz9_0 := kq_ BK311.out 0 rfl; have hcz9_1 := kq_ BK311.out 1 rfl; have hcz9_2 := kq_ BK311.out 2 rfl; have hcz9_3 := kq_ BK311.out 3 rfl; have hcz9_4 := kq_ BK311.out 4 rfl; have hcz9_5 := kq_ BK311.out 5 rfl; have hcz9_6 := kq_ BK311.out 6 rfl; have hcz9_7 := kq_ BK311.out 7 rfl; have hcz9_8 := kq_ BK311.out 8 rfl; have hfz9_0 := kf_ BK311.out 0; have hfz9_1 := kf_ BK311.out 1; have hfz9_2 := kf_ BK311.out 2; have hfz9_3 := kf_ BK311.out 3; have hfz9_4 := kf_ BK311.out 4; have hfz9_5 := kf_ BK311.out 5; have hfz9_6 := kf_ BK311.out 6; have hfz9_7 := kf_ BK311.out 7; have hfz9_8 := kf_ BK311.out 8) | (go_at_call 148; (with_reducible refine (medlarref07_May.calls _ _ l0 a1_0 a1_1 a1_2 a1_3 a1_4 a1_5 a1_6 a1_7 a1_8 true _ ?side1 ?side2 A5.out).mono ?_); (case side1 => repeat (first | exact (Kd.C_below HR0.out HB.out) | (with_reducible refine Kd.C_alloc ?_ _) | (with_reducible refine Kd.C_drewN ?_ _) | (with_reducible refine Kd.C_drew ?_))); (case side2 => exact HC0.out); rintro e w10 ⟨rfl, hb⟩; replace BK311 := ak_ (kb_ (g := gb311) (o := .cells #[.bool a1_0, .bool a1_1, .int .u64 a1_2, .int .u64 a1_3, .int .u64 a1_4, .int .u64 a1_5, .int .u64 a1_6, .int .u64 a1_7, .int .i64 a1_8] 29 (0, 0)) (kl_ BK311) hb); replace HB := ak_ (bt_ (by repeat (first | (with_reducible first | exact HB.out | apply ba_ | apply bn_ | apply bd_ | refine below_set ?_ GE311.out) | exact HB.out)) hb); (try clear hb); (try clear hk)))
    go_ret
    exact ea_ (by repeat (first | (with_reducible first | exact HB.out | apply ba_ | apply bn_ | apply bd_ | refine below_set ?_ GE311.out) | exact HB.out))
   ·replace c6 := Bool.eq_false_iff.mpr c6
    subst c6
    have H1 : (some 1) = some r := by rw [if_neg (show ¬ (false = true) by decide)] at H; exact H
    clear H
    have H := H1
    clear H1
    obtain rfl := Option.some.inj H
    go_enter func128, ntmps128
    go_wp2_with (first | ((with_reducible refine gate_dst (N := 3) rfl ?_); refine bx_ 3 #[.bool a1_0, .bool a1_1, .int .u64 a1_2, .int .u64 a1_3, .int .u64 a1_4, .int .u64 a1_5, .int .u64 a1_6, .int .u64 a1_7, .int .i64 a1_8] 29 ?_; intro gb311 hg w11 hbox hb; have BK311 := ak_ hbox; have GW311 := ak_ (gs_ hg HB); have GE311 := ak_ (gs_ hg HB); replace HB := ak_ (bt_ (bl_ HB) hb); clear hb hbox hg) | ((with_reducible refine gate_callee (f := 93) rfl ?_); refine gl_ (some 6) func93 #[.slice A0 l0.length c0] ?_; (with_reducible refine (medlarref05_Check.calls k _ _ l0 t312 _ ?side1 ?side2 A3.out).mono ?_); (case side1 => repeat (first | exact (Kd.C_below HR0.out HB.out) | (with_reducible refine Kd.C_alloc ?_ _) | (with_reducible refine Kd.C_drewN ?_ _) | (with_reducible refine Kd.C_drew ?_))); (case side2 => exact HC0.out); rintro e w12 ⟨rfl, hb⟩; refine ⟨_, rfl, ?_⟩; replace BK311 := ak_ (kb_ (g := gb311) (o := .cells #[.bool a1_0, .bool a1_1, .int .u64 a1_2, .int .u64 a1_3, .int .u64 a1_4, .int .u64 a1_5, .int .u64 a1_6, .int .u64 a1_7, .int .i64 a1_8] 29 (0, 0)) (kl_ BK311) hb); replace HB := ak_ (bt_ (by repeat (first | (with_reducible first | exact HB.out | apply ba_ | apply bn_ | apply bd_ | refine below_set ?_ GE311.out) | exact HB.out)) hb); (try clear hb); (try clear hk); have hcz13_0 := kq_ BK311.out 0 rfl; have hcz13_1 := kq_ BK311.out 1 rfl; have hcz13_2 := kq_ BK311.out 2 rfl; have hcz13_3 := kq_ BK311.out 3 rfl; have hcz13_4 := kq_ BK311.out 4 rfl; have hcz13_5 := kq_ BK311.out 5 rfl; have hcz13_6 := kq_ BK311.out 6 rfl; have hcz13_7 := kq_ BK311.out 7 rfl; have hcz13_8 := kq_ BK311.out 8 rfl; have hfz13_0 := kf_ BK311.out 0; have hfz13_1 := kf_ BK311.out 1; have hfz13_2 := kf_ BK311.out 2; have hfz13_3 := kf_ BK311.out 3; have hfz13_4 := kf_ BK311.out 4; have hfz13_5 := kf_ BK311.out 5; have hfz13_6 := kf_ BK311.out 6; have hfz13_7 := kf_ BK311.out 7; have hfz13_8 := kf_ BK311.out 8) | (go_at_call 148; (with_reducible refine (medlarref07_May.calls _ _ l0 a1_0 a1_1 a1_2 a1_3 a1_4 a1_5 a1_6 a1_7 a1_8 false _ ?side1 ?side2 A5.out).mono ?_); (case side1 => repeat (first | exact (Kd.C_below HR0.out HB.out) | (with_reducible refine Kd.C_alloc ?_ _) | (with_reducible refine Kd.C_drewN ?_ _) | (with_reducible refine Kd.C_drew ?_))); (case side2 => exact HC0.out); rintro e w14 ⟨rfl, hb⟩; replace BK311 := ak_ (kb_ (g := gb311) (o := .cells #[.bool a1_0, .bool a1_1, .int .u64 a1_2, .int .u64 a1_3, .int .u64 a1_4, .int .u64 a1_5, .int .u64 a1_6, .int .u64 a1_7, .int .i64 a1_8] 29 (0, 0)) (kl_ BK311) hb); replace HB := ak_ (bt_ (by repeat (first | (with_reducible first | exact HB.out | apply ba_ | apply bn_ | apply bd_ | refine below_set ?_ GE311.out) | exact HB.out)) hb); (try clear hb); (try clear hk)))
    go_ret
    exact ea_ (by repeat (first | (with_reducible first | exact HB.out | apply ba_ | apply bn_ | apply bd_ | refine below_set ?_ GE311.out) | exact HB.out))
  ·rw [if_neg c4] at H
   have c4b0 : (t312 == 0) = false := beq_eq_false_iff_ne.mpr c4
   have c4b1 : (t312 != 0) = true := bne_iff_ne.mpr c4
   obtain rfl := Option.some.inj H
   go_enter func128, ntmps128
   go_wp2_with (first | ((with_reducible refine gate_dst (N := 3) rfl ?_); refine bx_ 3 #[.bool a1_0, .bool a1_1, .int .u64 a1_2, .int .u64 a1_3, .int .u64 a1_4, .int .u64 a1_5, .int .u64 a1_6, .int .u64 a1_7, .int .i64 a1_8] 29 ?_; intro gb311 hg w15 hbox hb; have BK311 := ak_ hbox; have GW311 := ak_ (gs_ hg HB); have GE311 := ak_ (gs_ hg HB); replace HB := ak_ (bt_ (bl_ HB) hb); clear hb hbox hg) | ((with_reducible refine gate_callee (f := 93) rfl ?_); refine gl_ (some 6) func93 #[.slice A0 l0.length c0] ?_; (with_reducible refine (medlarref05_Check.calls k _ _ l0 t312 _ ?side1 ?side2 A3.out).mono ?_); (case side1 => repeat (first | exact (Kd.C_below HR0.out HB.out) | (with_reducible refine Kd.C_alloc ?_ _) | (with_reducible refine Kd.C_drewN ?_ _) | (with_reducible refine Kd.C_drew ?_))); (case side2 => exact HC0.out); rintro e w16 ⟨rfl, hb⟩; refine ⟨_, rfl, ?_⟩; replace BK311 := ak_ (kb_ (g := gb311) (o := .cells #[.bool a1_0, .bool a1_1, .int .u64 a1_2, .int .u64 a1_3, .int .u64 a1_4, .int .u64 a1_5, .int .u64 a1_6, .int .u64 a1_7, .int .i64 a1_8] 29 (0, 0)) (kl_ BK311) hb); replace HB := ak_ (bt_ (by repeat (first | (with_reducible first | exact HB.out | apply ba_ | apply bn_ | apply bd_ | refine below_set ?_ GE311.out) | exact HB.out)) hb); (try clear hb); (try clear hk)))
   go_ret
   exact ea_ (by repeat (first | (with_reducible first | exact HB.out | apply ba_ | apply bn_ | apply bd_ | refine below_set ?_ GE311.out) | exact HB.out))
def medlarref13_Open.f (k : Nat) (l0 : List (S75)) (a1_0 : Bool) (a1_1 : Bool) (a1_2 : Int) (a1_3 : Int) (a1_4 : Int) (a1_5 : Int) (a1_6 : Int) (a1_7 : Int) (a1_8 : Int) : Option (Bool) := (medlarref07_Check.f k l0 a1_0 a1_1 a1_2 a1_3 a1_4 a1_5 a1_6 a1_7 a1_8).bind fun t315 => (if t315 = 0 then (if a1_1 = true then (some false) else (if a1_0 = true then (if 0 ≤ a1_8 then (if a1_8 < (l0.length : Int) then (some (((rd_T75 l0 a1_8).f0) != 5)) else (none)) else (none)) else (some true))) else (some false))
theorem medlarref13_Open.mono : ∀ a0 a1 a2 a3 a4 a5 a6 a7 a8 a9 k, LeO (medlarref13_Open.f k a0 a1 a2 a3 a4 a5 a6 a7 a8 a9) (medlarref13_Open.f (k + 1) a0 a1 a2 a3 a4 a5 a6 a7 a8 a9) := by
  intro a0 a1 a2 a3 a4 a5 a6 a7 a8 a9 k
  unfold medlarref13_Open.f
  repeat' first
    | (with_reducible exact medlarref07_Check.mono _ _ _ _ _ _ _ _ _ _ _)
    | (with_reducible exact LeO.refl _)
    | (with_reducible exact LeO.none _)
    | (with_reducible refine LeO.ite ?_ ?_)
    | (with_reducible refine LeO.bind ?_ (fun _ => ?_))
    | exact medlarref07_Check.mono _ _ _ _ _ _ _ _ _ _ _
    | exact LeO.none _
    | refine LeO.ite ?_ ?_
    | refine LeO.bind ?_ (fun _ => ?_)
set_option maxHeartbeats 8000000 in
set_option maxRecDepth 100000 in
theorem medlarref13_Open.calls (k : Nat) (A0 : Option Addr) (c0 : Nat) (l0 : List (S75)) (a1_0 : Bool) (a1_1 : Bool) (a1_2 : Int) (a1_3 : Int) (a1_4 : Int) (a1_5 : Int) (a1_6 : Int) (a1_7 : Int) (a1_8 : Int) (r : Bool) (w : World) (hr0 : Kd.C k75 w A0 l0.length l0) (hc0 : l0.length ≤ c0) (h : medlarref13_Open.f k l0 a1_0 a1_1 a1_2 a1_3 a1_4 a1_5 a1_6 a1_7 a1_8 = some r) :
   Calls Try.prog 90 #[.slice A0 l0.length c0, .agg #[.bool a1_0, .bool a1_1, .int .u64 a1_2, .int .u64 a1_3, .int .u64 a1_4, .int .u64 a1_5, .int .u64 a1_6, .int .u64 a1_7, .int .i64 a1_8]] w fun e w' => e = .returned (.bool r) ∧ Below w.heap.size w w' := by
  have hu29 := underlying29
  have HR0 := ak_ hr0
  have HC0 := ak_ hc0
  clear hr0 hc0
  have HB := ak_ (Below.refl w.heap.size w)
  have H : ((medlarref07_Check.f k l0 a1_0 a1_1 a1_2 a1_3 a1_4 a1_5 a1_6 a1_7 a1_8).bind fun t315 => (if t315 = 0 then (if a1_1 = true then (some false) else (if a1_0 = true then (if 0 ≤ a1_8 then (if a1_8 < (l0.length : Int) then (some (((rd_T75 l0 a1_8).f0) != 5)) else (none)) else (none)) else (some true))) else (some false))) = some r := h
  clear h
  replace H := bind_eq_some_iff.mp H
  obtain ⟨t315, A30, H⟩ := H
  replace H : (if t315 = 0 then (if a1_1 = true then (some false) else (if a1_0 = true then (if 0 ≤ a1_8 then (if a1_8 < (l0.length : Int) then (some (((rd_T75 l0 a1_8).f0) != 5)) else (none)) else (none)) else (some true))) else (some false)) = some r := H
  have A3 := ak_ A30
  clear A30
  by_cases c4 : t315 = 0
  ·rw [if_pos c4] at H
   have c4b0 : (t315 == 0) = true := beq_iff_eq.mpr c4
   have c4b1 : (t315 != 0) = false := bne_eq_false_iff_eq.mpr c4
   clear c4
   by_cases c5 : a1_1 = true
   ·subst c5
    have H1 : (some false) = some r := by rw [if_pos rfl] at H; exact H
    clear H
    have H := H1
    clear H1
    obtain rfl := Option.some.inj H
    go_enter func90, ntmps90
    go_wp2_with (first | ((with_reducible refine gate_dst (N := 3) rfl ?_); refine bx_ 3 #[.bool a1_0, .bool true, .int .u64 a1_2, .int .u64 a1_3, .int .u64 a1_4, .int .u64 a1_5, .int .u64 a1_6, .int .u64 a1_7, .int .i64 a1_8] 29 ?_; intro gb314 hg w6 hbox hb; have BK314 := ak_ hbox; have GW314 := ak_ (gs_ hg HB); have GE314 := ak_ (gs_ hg HB); replace HB := ak_ (bt_ (bl_ HB) hb); clear hb hbox hg; have hcz7_0 := kq_ BK314.out 0 rfl; have hcz7_1 := kq_ BK314.out 1 rfl; have hcz7_2 := kq_ BK314.out 2 rfl; have hcz7_3 := kq_ BK314.out 3 rfl; have hcz7_4 := kq_ BK314.out 4 rfl; have hcz7_5 := kq_ BK314.out 5 rfl; have hcz7_6 := kq_ BK314.out 6 rfl; have hcz7_7 := kq_ BK314.out 7 rfl; have hcz7_8 := kq_ BK314.out 8 rfl; have hfz7_0 := kf_ BK314.out 0; have hfz7_1 := kf_ BK314.out 1; have hfz7_2 := kf_ BK314.out 2; have hfz7_3 := kf_ BK314.out 3; have hfz7_4 := kf_ BK314.out 4; have hfz7_5 := kf_ BK314.out 5; have hfz7_6 := kf_ BK314.out 6; have hfz7_7 := kf_ BK314.out 7; have hfz7_8 := kf_ BK314.out 8) | ((with_reducible refine gate_callee (f := 128) rfl ?_); refine gl_ (some 7) func128 #[.slice A0 l0.length c0, .agg #[.bool a1_0, .bool true, .int .u64 a1_2, .int .u64 a1_3, .int .u64 a1_4, .int .u64 a1_5, .int .u64 a1_6, .int .u64 a1_7, .int .i64 a1_8]] ?_; (with_reducible refine (medlarref07_Check.calls k _ _ l0 a1_0 true a1_2 a1_3 a1_4 a1_5 a1_6 a1_7 a1_8 t315 _ ?side1 ?side2 A3.out).mono ?_); (case side1 => repeat (first | exact (Kd.C_below HR0.out HB.out) | (with_reducible refine Kd.C_alloc ?_ _) | (with_reducible refine Kd.C_drewN ?_ _) | (with_reducible refine Kd.C_drew ?_))); (case side2 => exact HC0.out); rintro e w8 ⟨rfl, hb⟩; refine ⟨_, rfl, ?_⟩; replace BK314 := ak_ (kb_ (g := gb314) (o := .cells #[.bool a1_0, .bool true, .int .u64 a1_2, .int .u64 a1_3, .int .u64 a1_4, .int .u64 a1_5, .int .u64 a1_6, .int .u64 a1_7, .int .i64 a1_8] 29 (0, 0)) (kl_ BK314) hb); replace HB := ak_ (bt_ (by repeat (first | (with_reducible first | exact HB.out | apply ba_ | apply bn_ | apply bd_ | refine below_set ?_ GE314.out) | exact HB.out)) hb); (try clear hb); (try clear hk); have hcz9_0 := kq_ BK314.out 0 rfl; have hcz9_1 := kq_ BK314.out 1 rfl; have hcz9_2 := kq_ BK314.out 2 rfl; have hcz9_3 := kq_ BK314.out 3 rfl; have hcz9_4 := kq_ BK314.out 4 rfl; have hcz9_5 := kq_ BK314.out 5 rfl; have hcz9_6 := kq_ BK314.out 6 rfl; have hcz9_7 := kq_ BK314.out 7 rfl; have hcz9_8 := kq_ BK314.out 8 rfl; have hfz9_0 := kf_ BK314.out 0; have hfz9_1 := kf_ BK314.out 1; have hfz9_2 := kf_ BK314.out 2; have hfz9_3 := kf_ BK314.out 3; have hfz9_4 := kf_ BK314.out 4; have hfz9_5 := kf_ BK314.out 5; have hfz9_6 := kf_ BK314.out 6; have hfz9_7 := kf_ BK314.out 7; have hfz9_8 := kf_ BK314.out 8))
    go_ret
    exact ea_ (by repeat (first | (with_reducible first | exact HB.out | apply ba_ | apply bn_ | apply bd_ | refine below_set ?_ GE314.out) | exact HB.out))
   ·replace c5 := Bool.eq_false_iff.mpr c5
    subst c5
    have H1 : (if a1_0 = true then (if 0 ≤ a1_8 then (if a1_8 < (l0.length : Int) then (some (((rd_T75 l0 a1_8).f0) != 5)) else (none)) else (none)) else (some true)) = some r := by rw [if_neg (show ¬ (false = true) by decide)] at H; exact H
    clear H
    have H := H1
    clear H1
    by_cases c10 : a1_0 = true
    ·subst c10
     have H1 : (if 0 ≤ a1_8 then (if a1_8 < (l0.length : Int) then (some (((rd_T75 l0 a1_8).f0) != 5)) else (none)) else (none)) = some r := by rw [if_pos rfl] at H; exact H
     clear H
     have H := H1
     clear H1
     by_cases c11 : 0 ≤ a1_8
     ·rw [if_pos c11] at H
      have c11b0 := decide_eq_true c11
      clear c11
      by_cases c12 : a1_8 < (l0.length : Int)
      ·rw [if_pos c12] at H
       have c12b0 := decide_eq_true c12
       clear c12
       obtain rfl := Option.some.inj H
       go_enter func90, ntmps90
       go_wp2_with (first | ((with_reducible refine gate_dst (N := 3) rfl ?_); refine bx_ 3 #[.bool true, .bool false, .int .u64 a1_2, .int .u64 a1_3, .int .u64 a1_4, .int .u64 a1_5, .int .u64 a1_6, .int .u64 a1_7, .int .i64 a1_8] 29 ?_; intro gb314 hg w13 hbox hb; have BK314 := ak_ hbox; have GW314 := ak_ (gs_ hg HB); have GE314 := ak_ (gs_ hg HB); replace HB := ak_ (bt_ (bl_ HB) hb); clear hb hbox hg; have hcz14_0 := kq_ BK314.out 0 rfl; have hcz14_1 := kq_ BK314.out 1 rfl; have hcz14_2 := kq_ BK314.out 2 rfl; have hcz14_3 := kq_ BK314.out 3 rfl; have hcz14_4 := kq_ BK314.out 4 rfl; have hcz14_5 := kq_ BK314.out 5 rfl; have hcz14_6 := kq_ BK314.out 6 rfl; have hcz14_7 := kq_ BK314.out 7 rfl; have hcz14_8 := kq_ BK314.out 8 rfl; have hfz14_0 := kf_ BK314.out 0; have hfz14_1 := kf_ BK314.out 1; have hfz14_2 := kf_ BK314.out 2; have hfz14_3 := kf_ BK314.out 3; have hfz14_4 := kf_ BK314.out 4; have hfz14_5 := kf_ BK314.out 5; have hfz14_6 := kf_ BK314.out 6; have hfz14_7 := kf_ BK314.out 7; have hfz14_8 := kf_ BK314.out 8) | ((with_reducible refine gate_callee (f := 128) rfl ?_); refine gl_ (some 7) func128 #[.slice A0 l0.length c0, .agg #[.bool true, .bool false, .int .u64 a1_2, .int .u64 a1_3, .int .u64 a1_4, .int .u64 a1_5, .int .u64 a1_6, .int .u64 a1_7, .int .i64 a1_8]] ?_; (with_reducible refine (medlarref07_Check.calls k _ _ l0 true false a1_2 a1_3 a1_4 a1_5 a1_6 a1_7 a1_8 t315 _ ?side1 ?side2 A3.out).mono ?_); (case side1 => repeat (first | exact (Kd.C_below HR0.out HB.out) | (with_reducible refine Kd.C_alloc ?_ _) | (with_reducible refine Kd.C_drewN ?_ _) | (with_reducible refine Kd.C_drew ?_))); (case side2 => exact HC0.out); rintro e w15 ⟨rfl, hb⟩; refine ⟨_, rfl, ?_⟩; replace BK314 := ak_ (kb_ (g := gb314) (o := .cells #[.bool true, .bool false, .int .u64 a1_2, .int .u64 a1_3, .int .u64 a1_4, .int .u64 a1_5, .int .u64 a1_6, .int .u64 a1_7, .int .i64 a1_8] 29 (0, 0)) (kl_ BK314) hb); replace HB := ak_ (bt_ (by repeat (first | (with_reducible first | exact HB.out | apply ba_ | apply bn_ | apply bd_ | refine below_set ?_ GE314.out) | exact HB.out)) hb); (try clear hb); (try clear hk); have hcz16_0 := kq_ BK314.out 0 rfl; have hcz16_1 := kq_ BK314.out 1 rfl; have hcz16_2 := kq_ BK314.out 2 rfl; have hcz16_3 := kq_ BK314.out 3 rfl; have hcz16_4 := kq_ BK314.out 4 rfl; have hcz16_5 := kq_ BK314.out 5 rfl; have hcz16_6 := kq_ BK314.out 6 rfl; have hcz16_7 := kq_ BK314.out 7 rfl; have hcz16_8 := kq_ BK314.out 8 rfl; have hfz16_0 := kf_ BK314.out 0; have hfz16_1 := kf_ BK314.out 1; have hfz16_2 := kf_ BK314.out 2; have hfz16_3 := kf_ BK314.out 3; have hfz16_4 := kf_ BK314.out 4; have hfz16_5 := kf_ BK314.out 5; have hfz16_6 := kf_ BK314.out 6; have hfz16_7 := kf_ BK314.out 7; have hfz16_8 := kf_ BK314.out 8; have p316 : 0 ≤ (a1_8 : Int) := od_ (by first | (with_reducible assumption) | assumption); have q316 : a1_8 < (l0.length : Int) := od_ (by first | (with_reducible assumption) | assumption); obtain ⟨ad316, e316, hx316_0, hx316_1, hx316_2⟩ := at_T75 HR0.out a1_8 p316 q316; cases e316; replace hx316_0 := cx_ HB hx316_0; replace hx316_1 := cx_ HB hx316_1; replace hx316_2 := cx_ HB hx316_2; replace p316 := eq_true p316; replace q316 := eq_true q316))
       go_ret
       exact ea_ (by repeat (first | (with_reducible first | exact HB.out | apply ba_ | apply bn_ | apply bd_ | refine below_set ?_ GE314.out) | exact HB.out))
      ·rw [if_neg c12] at H
       exact absurd H (by simp)
     ·rw [if_neg c11] at H
      exact absurd H (by simp)
    ·replace c10 := Bool.eq_false_iff.mpr c10
     subst c10
     have H1 : (some true) = some r := by rw [if_neg (show ¬ (false = true) by decide)] at H; exact H
     clear H
     have H := H1
     clear H1
     obtain rfl := Option.some.inj H
     go_enter func90, ntmps90
     go_wp2_with (first | ((with_reducible refine gate_dst (N := 3) rfl ?_); refine bx_ 3 #[.bool false, .bool false, .int .u64 a1_2, .int .u64 a1_3, .int .u64 a1_4, .int .u64 a1_5, .int .u64 a1_6, .int .u64 a1_7, .int .i64 a1_8] 29 ?_; intro gb314 hg w17 hbox hb; have BK314 := ak_ hbox; have GW314 := ak_ (gs_ hg HB); have GE314 := ak_ (gs_ hg HB); replace HB := ak_ (bt_ (bl_ HB) hb); clear hb hbox hg; have hcz18_0 := kq_ BK314.out 0 rfl; have hcz18_1 := kq_ BK314.out 1 rfl; have hcz18_2 := kq_ BK314.out 2 rfl; have hcz18_3 := kq_ BK314.out 3 rfl; have hcz18_4 := kq_ BK314.out 4 rfl; have hcz18_5 := kq_ BK314.out 5 rfl; have hcz18_6 := kq_ BK314.out 6 rfl; have hcz18_7 := kq_ BK314.out 7 rfl; have hcz18_8 := kq_ BK314.out 8 rfl; have hfz18_0 := kf_ BK314.out 0; have hfz18_1 := kf_ BK314.out 1; have hfz18_2 := kf_ BK314.out 2; have hfz18_3 := kf_ BK314.out 3; have hfz18_4 := kf_ BK314.out 4; have hfz18_5 := kf_ BK314.out 5; have hfz18_6 := kf_ BK314.out 6; have hfz18_7 := kf_ BK314.out 7; have hfz18_8 := kf_ BK314.out 8) | ((with_reducible refine gate_callee (f := 128) rfl ?_); refine gl_ (some 7) func128 #[.slice A0 l0.length c0, .agg #[.bool false, .bool false, .int .u64 a1_2, .int .u64 a1_3, .int .u64 a1_4, .int .u64 a1_5, .int .u64 a1_6, .int .u64 a1_7, .int .i64 a1_8]] ?_; (with_reducible refine (medlarref07_Check.calls k _ _ l0 false false a1_2 a1_3 a1_4 a1_5 a1_6 a1_7 a1_8 t315 _ ?side1 ?side2 A3.out).mono ?_); (case side1 => repeat (first | exact (Kd.C_below HR0.out HB.out) | (with_reducible refine Kd.C_alloc ?_ _) | (with_reducible refine Kd.C_drewN ?_ _) | (with_reducible refine Kd.C_drew ?_))); (case side2 => exact HC0.out); rintro e w19 ⟨rfl, hb⟩; refine ⟨_, rfl, ?_⟩; replace BK314 := ak_ (kb_ (g := gb314) (o := .cells #[.bool false, .bool false, .int .u64 a1_2, .int .u64 a1_3, .int .u64 a1_4, .int .u64 a1_5, .int .u64 a1_6, .int .u64 a1_7, .int .i64 a1_8] 29 (0, 0)) (kl_ BK314) hb); replace HB := ak_ (bt_ (by repeat (first | (with_reducible first | exact HB.out | apply ba_ | apply bn_ | apply bd_ | refine below_set ?_ GE314.out) | exact HB.out)) hb); (try clear hb); (try clear hk); have hcz20_0 := kq_ BK314.out 0 rfl; have hcz20_1 := kq_ BK314.out 1 rfl; have hcz20_2 := kq_ BK314.out 2 rfl; have hcz20_3 := kq_ BK314.out 3 rfl; have hcz20_4 := kq_ BK314.out 4 rfl; have hcz20_5 := kq_ BK314.out 5 rfl; have hcz20_6 := kq_ BK314.out 6 rfl; have hcz20_7 := kq_ BK314.out 7 rfl; have hcz20_8 := kq_ BK314.out 8 rfl; have hfz20_0 := kf_ BK314.out 0; have hfz20_1 := kf_ BK314.out 1; have hfz20_2 := kf_ BK314.out 2; have hfz20_3 := kf_ BK314.out 3; have hfz20_4 := kf_ BK314.out 4; have hfz20_5 := kf_ BK314.out 5; have hfz20_6 := kf_ BK314.out 6; have hfz20_7 := kf_ BK314.out 7; have hfz20_8 := kf_ BK314.out 8))
     go_ret
     exact ea_ (by repeat (first | (with_reducible first | exact HB.out | apply ba_ | apply bn_ | apply bd_ | refine below_set ?_ GE314.out) | exact HB.out))
  ·rw [if_neg c4] at H
   have c4b0 : (t315 == 0) = false := beq_eq_false_iff_ne.mpr c4
   have c4b1 : (t315 != 0) = true := bne_iff_ne.mpr c4
   obtain rfl := Option.some.inj H
   go_enter func90, ntmps90
   go_wp2_with (first | ((with_reducible refine gate_dst (N := 3) rfl ?_); refine bx_ 3 #[.bool a1_0, .bool a1_1, .int .u64 a1_2, .int .u64 a1_3, .int .u64 a1_4, .int .u64 a1_5, .int .u64 a1_6, .int .u64 a1_7, .int .i64 a1_8] 29 ?_; intro gb314 hg w21 hbox hb; have BK314 := ak_ hbox; have GW314 := ak_ (gs_ hg HB); have GE314 := ak_ (gs_ hg HB); replace HB := ak_ (bt_ (bl_ HB) hb); clear hb hbox hg; have hcz22_0 := kq_ BK314.out 0 rfl; have hcz22_1 := kq_ BK314.out 1 rfl; have hcz22_2 := kq_ BK314.out 2 rfl; have hcz22_3 := kq_ BK314.out 3 rfl; have hcz22_4 := kq_ BK314.out 4 rfl; have hcz22_5 := kq_ BK314.out 5 rfl; have hcz22_6 := kq_ BK314.out 6 rfl; have hcz22_7 := kq_ BK314.out 7 rfl; have hcz22_8 := kq_ BK314.out 8 rfl; have hfz22_0 := kf_ BK314.out 0; have hfz22_1 := kf_ BK314.out 1; have hfz22_2 := kf_ BK314.out 2; have hfz22_3 := kf_ BK314.out 3; have hfz22_4 := kf_ BK314.out 4; have hfz22_5 := kf_ BK314.out 5; have hfz22_6 := kf_ BK314.out 6; have hfz22_7 := kf_ BK314.out 7; have hfz22_8 := kf_ BK314.out 8) | ((with_reducible refine gate_callee (f := 128) rfl ?_); refine gl_ (some 7) func128 #[.slice A0 l0.length c0, .agg #[.bool a1_0, .bool a1_1, .int .u64 a1_2, .int .u64 a1_3, .int .u64 a1_4, .int .u64 a1_5, .int .u64 a1_6, .int .u64 a1_7, .int .i64 a1_8]] ?_; (with_reducible refine (medlarref07_Check.calls k _ _ l0 a1_0 a1_1 a1_2 a1_3 a1_4 a1_5 a1_6 a1_7 a1_8 t315 _ ?side1 ?side2 A3.out).mono ?_); (case side1 => repeat (first | exact (Kd.C_below HR0.out HB.out) | (with_reducible refine Kd.C_alloc ?_ _) | (with_reducible refine Kd.C_drewN ?_ _) | (with_reducible refine Kd.C_drew ?_))); (case side2 => exact HC0.out); rintro e w23 ⟨rfl, hb⟩; refine ⟨_, rfl, ?_⟩; replace BK314 := ak_ (kb_ (g := gb314) (o := .cells #[.bool a1_0, .bool a1_1, .int .u64 a1_2, .int .u64 a1_3, .int .u64 a1_4, .int .u64 a1_5, .int .u64 a1_6, .int .u64 a1_7, .int .i64 a1_8] 29 (0, 0)) (kl_ BK314) hb); replace HB := ak_ (bt_ (by repeat (first | (with_reducible first | exact HB.out | apply ba_ | apply bn_ | apply bd_ | refine below_set ?_ GE314.out) | exact HB.out)) hb); (try clear hb); (try clear hk)))
   go_ret
   exact ea_ (by repeat (first | (with_reducible first | exact HB.out | apply ba_ | apply bn_ | apply bd_ | refine below_set ?_ GE314.out) | exact HB.out))
mutual
def medlarref14_Check.j0 : Nat → List (S75) → List (S65) → List (S39) → Bool → Option (Int)
  | 0, _, _, _, _ => none
  | k + 1, x0, x4, x11, x35 => if x35 = true then (some 1) else (medlarref14_Check.l0 k x0 x4 x11 x4 (x4.length : Int) 0)
def medlarref14_Check.l0 : Nat → List (S75) → List (S65) → List (S39) → List (S65) → Int → Int → Option (Int)
  | 0, _, _, _, _, _, _ => none
  | k + 1, x0, x4, x11, x36, x37, x38 => if x38 < x37 then (if 0 ≤ x38 then (if x38 < (x36.length : Int) then (if x38 < (x11.length : Int) then (if (!(((rd_T65 x36 x38).f0.f0) == ((rd_T39 x11 x38).f0)) || (!(((rd_T65 x36 x38).f0.f1) == ((rd_T39 x11 x38).f1)))) = true then (some 1) else ((medlarref13_Open.f k x0 ((rd_T65 x36 x38).f1.f0) ((rd_T65 x36 x38).f1.f1) ((rd_T65 x36 x38).f1.f2.f0) ((rd_T65 x36 x38).f1.f2.f1) ((rd_T65 x36 x38).f1.f3.f0.f0) ((rd_T65 x36 x38).f1.f3.f0.f1) ((rd_T65 x36 x38).f1.f3.f1.f0) ((rd_T65 x36 x38).f1.f3.f1.f1) ((rd_T65 x36 x38).f1.f4)).bind fun t325 => (if t325 = true then (if 0 < (x4.length : Int) then (if (((rd_T65 x36 x38).f1.f0) != ((rd_T65 x4 0).f1.f0)) = true then (some 1) else (medlarref14_Check.l0 k x0 x4 x11 x36 x37 (wrap64 (x38 + 1)))) else (none)) else (some 1)))) else (none)) else (none)) else (none)) else (some 0)
end
def medlarref14_Check.f (k : Nat) (l0 : List (S75)) (a1 : Int) (a2 : Int) (a3 : Int) (l4 : List (S65)) : Option (Int) := (medlarref14_Pairs.f k a1 a2 a3).bind fun bt317 => (if bt317.2 = 0 then ((medlarref05_Check.f k l0).bind fun t321 => (if t321 = 0 then (medlarref14_Check.j0 k l0 l4 bt317.1 ((bt317.1.length : Int) != (l4.length : Int))) else (medlarref14_Check.j0 k l0 l4 bt317.1 true))) else (medlarref14_Check.j0 k l0 l4 bt317.1 true))
theorem medlarref14_Check.mono_l : ∀ k, (∀ y0 y1 y2 y3, LeO (medlarref14_Check.j0 k y0 y1 y2 y3) (medlarref14_Check.j0 (k + 1) y0 y1 y2 y3)) ∧ (∀ y0 y1 y2 y3 y4 y5, LeO (medlarref14_Check.l0 k y0 y1 y2 y3 y4 y5) (medlarref14_Check.l0 (k + 1) y0 y1 y2 y3 y4 y5))
  | 0 => ⟨fun _ _ _ _ r h => by simp [medlarref14_Check.j0] at h, fun _ _ _ _ _ _ r h => by simp [medlarref14_Check.l0] at h⟩
  | k + 1 => by
   obtain ⟨ih0, ih1⟩ := medlarref14_Check.mono_l k
   refine ⟨?_, ?_⟩
   ·intro y0 y1 y2 y3
    unfold medlarref14_Check.j0
    repeat' first
    | (with_reducible exact ih0 _ _ _ _)
    | (with_reducible exact ih1 _ _ _ _ _ _)
    | (with_reducible exact medlarref05_Check.mono _ _)
    | (with_reducible exact medlarref13_Open.mono _ _ _ _ _ _ _ _ _ _ _)
    | (with_reducible exact medlarref14_Pairs.mono _ _ _ _)
    | (with_reducible exact LeO.refl _)
    | (with_reducible exact LeO.none _)
    | (with_reducible refine LeO.ite ?_ ?_)
    | (with_reducible refine LeO.bind ?_ (fun _ => ?_))
    | exact ih0 _ _ _ _
    | exact ih1 _ _ _ _ _ _
    | exact medlarref05_Check.mono _ _
    | exact medlarref13_Open.mono _ _ _ _ _ _ _ _ _ _ _
    | exact medlarref14_Pairs.mono _ _ _ _
    | exact LeO.none _
    | refine LeO.ite ?_ ?_
    | refine LeO.bind ?_ (fun _ => ?_)
   ·intro y0 y1 y2 y3 y4 y5
    unfold medlarref14_Check.l0
    repeat' first
    | (with_reducible exact ih0 _ _ _ _)
    | (with_reducible exact ih1 _ _ _ _ _ _)
    | (with_reducible exact medlarref05_Check.mono _ _)
    | (with_reducible exact medlarref13_Open.mono _ _ _ _ _ _ _ _ _ _ _)
    | (with_reducible exact medlarref14_Pairs.mono _ _ _ _)
    | (with_reducible exact LeO.refl _)
    | (with_reducible exact LeO.none _)
    | (with_reducible refine LeO.ite ?_ ?_)
    | (with_reducible refine LeO.bind ?_ (fun _ => ?_))
    | exact ih0 _ _ _ _
    | exact ih1 _ _ _ _ _ _
    | exact medlarref05_Check.mono _ _
    | exact medlarref13_Open.mono _ _ _ _ _ _ _ _ _ _ _
    | exact medlarref14_Pairs.mono _ _ _ _
    | exact LeO.none _
    | refine LeO.ite ?_ ?_
    | refine LeO.bind ?_ (fun _ => ?_)
theorem medlarref14_Check.mono : ∀ a0 a1 a2 a3 a4 k, LeO (medlarref14_Check.f k a0 a1 a2 a3 a4) (medlarref14_Check.f (k + 1) a0 a1 a2 a3 a4) := by
  intro a0 a1 a2 a3 a4 k
  obtain ⟨ih0, ih1⟩ := medlarref14_Check.mono_l k
  unfold medlarref14_Check.f
  repeat' first
    | (with_reducible exact ih0 _ _ _ _)
    | (with_reducible exact ih1 _ _ _ _ _ _)
    | (with_reducible exact medlarref05_Check.mono _ _)
    | (with_reducible exact medlarref13_Open.mono _ _ _ _ _ _ _ _ _ _ _)
    | (with_reducible exact medlarref14_Pairs.mono _ _ _ _)
    | (with_reducible exact LeO.refl _)
    | (with_reducible exact LeO.none _)
    | (with_reducible refine LeO.ite ?_ ?_)
    | (with_reducible refine LeO.bind ?_ (fun _ => ?_))
    | exact ih0 _ _ _ _
    | exact ih1 _ _ _ _ _ _
    | exact medlarref05_Check.mono _ _
    | exact medlarref13_Open.mono _ _ _ _ _ _ _ _ _ _ _
    | exact medlarref14_Pairs.mono _ _ _ _
    | exact LeO.none _
    | refine LeO.ite ?_ ?_
    | refine LeO.bind ?_ (fun _ => ?_)
def medlarref14_Check.T7 : Bool × List (List Nat × List Nat) := (true, [([], []), ([0], [0]), ([], []), ([], []), ([2, 3], [2, 3]), ([4], [4]), ([1, 5], [1, 5]), ([6], [6]), ([7], [7]), ([7], [7]), ([9, 7], [7, 9]), ([8, 10, 7, 7], [7, 8, 10]), ([11, 7], [7, 11]), ([7, 12], [7, 12]), ([13, 11], [13]), ([14], [14]), ([15, 14], [14, 15]), ([16, 14], [14, 16]), ([14], [14]), ([18, 14], [14, 18]), ([19, 14], [14, 19]), ([20, 14], [14, 20]), ([21, 14], [14, 21]), ([17, 22, 14], [14, 17, 22]), ([14, 23], [14, 23])])
def medlarref14_Check.B7 : List Nat := [0, 1, 0, 0, 12, 28, 63, 127, 255, 255, 767, 2047, 4095, 8191, 16383, 32767, 65535, 131071, 32767, 294911, 819199, 1867775, 3964927, 8388607, 16777215]
theorem medlarref14_Check.tab7 : rtab .any (opsOf Try.f45 7) = medlarref14_Check.T7 := by kernel_rfl
theorem medlarref14_Check.bits7 : waitsOk medlarref14_Check.T7.2 medlarref14_Check.B7 = true := by kernel_rfl
set_option maxHeartbeats 8000000 in
set_option maxRecDepth 100000 in
theorem medlarref14_Check.calls (k : Nat) (A0 : Option Addr) (c0 : Nat) (l0 : List (S75)) (a1 : Int) (a2 : Int) (a3 : Int) (A4 : Option Addr) (c4 : Nat) (l4 : List (S65)) (r : Int) (w : World) (hr0 : Kd.C k75 w A0 l0.length l0) (hc0 : l0.length ≤ c0) (hr4 : Kd.C k65 w A4 l4.length l4) (hc4 : l4.length ≤ c4) (h : medlarref14_Check.f k l0 a1 a2 a3 l4 = some r) :
   Calls Try.prog 45 #[.slice A0 l0.length c0, .int .i64 a1, .int .i64 a2, .int .u64 a3, .slice A4 l4.length c4] w fun e w' => e = .returned (.int .i64 r) ∧ Below w.heap.size w w' := by
  have hu65 := underlying65
  have hu39 := underlying39
  have hu29 := underlying29
  have HR0 := ak_ hr0
  have HC0 := ak_ hc0
  clear hr0 hc0
  have HR4 := ak_ hr4
  have HC4 := ak_ hc4
  clear hr4 hc4
  have HB := ak_ (Below.refl w.heap.size w)
  have H : ((medlarref14_Pairs.f k a1 a2 a3).bind fun bt317 => (if bt317.2 = 0 then ((medlarref05_Check.f k l0).bind fun t321 => (if t321 = 0 then (medlarref14_Check.j0 k l0 l4 bt317.1 ((bt317.1.length : Int) != (l4.length : Int))) else (medlarref14_Check.j0 k l0 l4 bt317.1 true))) else (medlarref14_Check.j0 k l0 l4 bt317.1 true))) = some r := h
  clear h
  replace H := bind_eq_some_iff.mp H
  obtain ⟨⟨t317, t318⟩, A60, H⟩ := H
  replace H : (if t318 = 0 then ((medlarref05_Check.f k l0).bind fun t321 => (if t321 = 0 then (medlarref14_Check.j0 k l0 l4 t317 ((t317.length : Int) != (l4.length : Int))) else (medlarref14_Check.j0 k l0 l4 t317 true))) else (medlarref14_Check.j0 k l0 l4 t317 true)) = some r := H
  have A6 := ak_ A60
  clear A60
  have HC7 := ak_ H
  clear H
  go_enter func45, ntmps45
  go_upto_region 2 with (first | ((with_reducible refine gate_callee (f := 80) rfl ?_); refine gl_ (some 19) func80 #[.int .i64 a1, .int .i64 a2, .int .u64 a3] ?_; (with_reducible refine (medlarref14_Pairs.calls k a1 a2 a3 t317 t318 _ A6.out).mono ?_); rintro e w8 ⟨v319, rfl, ho0, hb⟩; refine ⟨_, rfl, ?_⟩; have HO320 := ak_ (Kd.R_lower ho0 (bz_ (bl_ HB))); replace HB := ak_ (bt_ (bl_ HB) hb); (try clear hb); (try clear hk); (try clear ho0)))
  (try simp only [Act.put, setIfInBounds_toArray, set_cons_zero, set_cons_succ])
  go_cut [35] (fun v35 wc => ∃ (kq : Nat) (x35_6 : Bool), v35 = .bool x35_6 ∧ Aside0 (medlarref14_Check.j0 kq l0 l4 t317 x35_6 = some r) ∧ Aside0 (kq ≤ k) ∧ Aside0 (Kd.R k39 39 wc w.heap.size (fun _ => True) v319 t317) ∧ Aside0 (Below w.heap.size w wc))
  case first =>
   have H := HC7.out
   clear HC7
   by_cases c9 : t318 = 0
   ·rw [if_pos c9] at H
    have c9b0 : (t318 == 0) = true := beq_iff_eq.mpr c9
    have c9b1 : (t318 != 0) = false := bne_eq_false_iff_eq.mpr c9
    clear c9
    (first | rw [c9b0] | (simp only [i64_w, i32_w]; rw [c9b0]) | skip)
    replace H := bind_eq_some_iff.mp H
    obtain ⟨t321, A100, H⟩ := H
    replace H : (if t321 = 0 then (medlarref14_Check.j0 k l0 l4 t317 ((t317.length : Int) != (l4.length : Int))) else (medlarref14_Check.j0 k l0 l4 t317 true)) = some r := H
    have A10 := ak_ A100
    clear A100
    by_cases c11 : t321 = 0
    ·rw [if_pos c11] at H
     have c11b0 : (t321 == 0) = true := beq_iff_eq.mpr c11
     have c11b1 : (t321 != 0) = false := bne_eq_false_iff_eq.mpr c11
     clear c11
     have H' := ak_ H
     clear H
     go_wp2_with (first | (go_at_call 93; (with_reducible refine (medlarref05_Check.calls k _ _ l0 t321 _ ?side1 ?side2 A10.out).mono ?_); (case side1 => repeat (first | exact (Kd.C_below HR0.out HB.out) | (with_reducible refine Kd.C_alloc ?_ _) | (with_reducible refine Kd.C_drewN ?_ _) | (with_reducible refine Kd.C_drew ?_))); (case side2 => exact HC0.out); rintro e w12 ⟨rfl, hb⟩; replace HO320 := ak_ (Kd.R_below (rl_ HO320) hb); replace HB := ak_ (bt_ (bl_ HB) hb); (try clear hb); (try clear hk); obtain ⟨Ao13, co13, eo13⟩ := Kd.R_slice HO320.out; subst eo13))
     go_meet
     case rel => exact ⟨_, (((t317.length : Int) != (l4.length : Int))), rf_, H', ⟨by first | omega | exact Nat.le_refl _⟩, ⟨rl_ HO320⟩, ⟨bl_ HB⟩⟩
    ·rw [if_neg c11] at H
     have c11b0 : (t321 == 0) = false := beq_eq_false_iff_ne.mpr c11
     have c11b1 : (t321 != 0) = true := bne_iff_ne.mpr c11
     have H' := ak_ H
     clear H
     go_wp2_with (first | (go_at_call 93; (with_reducible refine (medlarref05_Check.calls k _ _ l0 t321 _ ?side1 ?side2 A10.out).mono ?_); (case side1 => repeat (first | exact (Kd.C_below HR0.out HB.out) | (with_reducible refine Kd.C_alloc ?_ _) | (with_reducible refine Kd.C_drewN ?_ _) | (with_reducible refine Kd.C_drew ?_))); (case side2 => exact HC0.out); rintro e w14 ⟨rfl, hb⟩; replace HO320 := ak_ (Kd.R_below (rl_ HO320) hb); replace HB := ak_ (bt_ (bl_ HB) hb); (try clear hb); (try clear hk)))
     go_meet
     case rel => exact ⟨_, (true), rf_, H', ⟨by first | omega | exact Nat.le_refl _⟩, ⟨rl_ HO320⟩, ⟨bl_ HB⟩⟩
   ·rw [if_neg c9] at H
    have c9b0 : (t318 == 0) = false := beq_eq_false_iff_ne.mpr c9
    have c9b1 : (t318 != 0) = true := bne_iff_ne.mpr c9
    (first | rw [c9b0] | (simp only [i64_w, i32_w]; rw [c9b0]) | skip)
    have H' := ak_ H
    clear H
    go_wp2
    go_meet
    case rel => exact ⟨_, (true), rf_, H', ⟨by first | omega | exact Nat.le_refl _⟩, ⟨rl_ HO320⟩, ⟨bl_ HB⟩⟩
  case rest =>
   clear HC7
   try clear c1
   try clear p2
   try clear c4
   try clear c8
   try clear c9
   try clear c9b0
   try clear c9b1
   try clear c11
   try clear c11b0
   try clear c11b1
   obtain ⟨kq, x35_6, rfl, HA, HJ6, HO_11, HB⟩ := hcut
   cases kq with
   | zero => exact absurd HA.out (by simp [medlarref14_Check.j0])
   | succ kj6 =>
    have H := HA.out
    clear HA
    simp only [medlarref14_Check.j0] at H
    by_cases c15 : x35_6 = true
    ·subst c15
     have H1 : (some 1) = some r := by rw [if_pos rfl] at H; exact H
     clear H
     have H := H1
     clear H1
     obtain rfl := Option.some.inj H
     go_wp2
     go_ret
     exact ea_ (bl_ HB)
    ·replace c15 := Bool.eq_false_iff.mpr c15
     subst c15
     have H1 : (medlarref14_Check.l0 kj6 l0 l4 t317 l4 (l4.length : Int) 0) = some r := by rw [if_neg (show ¬ (false = true) by decide)] at H; exact H
     clear H
     have H := H1
     clear H1
     have H' := ak_ H
     clear H
     go_wp2
     go_loopg [38] kj6 (fun kq v38 w' => ∃ (x38_2 : Int), v38 = .int .i64 x38_2 ∧ Aside0 (medlarref14_Check.l0 kq l0 l4 t317 l4 (l4.length : Int) x38_2 = some r) ∧ Aside0 (kq ≤ kj6) ∧ Aside0 (Kd.R k39 39 w' w.heap.size (fun _ => True) v319 t317) ∧ Aside0 (Below w.heap.size w w'))
     case atStart => exact ⟨(0), rf_, H', ⟨Nat.le_refl _⟩, ⟨rl_ HO_11⟩, ⟨bl_ HB⟩⟩
     case round =>
      clear H'
      try clear c1
      try clear p2
      try clear c4
      try clear c8
      try clear c9
      try clear c9b0
      try clear c9b1
      try clear c11
      try clear c11b0
      try clear c11b1
      try clear c15
      try clear p2
      obtain ⟨x38_2, rfl, HA, HK2, HO_11, HB⟩ := hrel
      cases gk with
      | zero => exact absurd HA.out (by simp [medlarref14_Check.l0])
      | succ k2 =>
       have H := HA.out
       clear HA
       simp only [medlarref14_Check.l0] at H
       by_cases c16 : x38_2 < (l4.length : Int)
       ·rw [if_pos c16] at H
        have c16b0 := decide_eq_true c16
        clear c16
        by_cases c17 : 0 ≤ x38_2
        ·rw [if_pos c17] at H
         have c17b0 := decide_eq_true c17
         clear c17
         by_cases c18 : x38_2 < (l4.length : Int)
         ·rw [if_pos c18] at H
          have c18b0 := decide_eq_true c18
          clear c18
          by_cases c19 : x38_2 < (t317.length : Int)
          ·rw [if_pos c19] at H
           have c19b0 := decide_eq_true c19
           clear c19
           by_cases c20 : (!(((rd_T65 l4 x38_2).f0.f0) == ((rd_T39 t317 x38_2).f0)) || (!(((rd_T65 l4 x38_2).f0.f1) == ((rd_T39 t317 x38_2).f1)))) = true
           ·rw [if_pos c20] at H
            have c20b0 : (!(((rd_T65 l4 x38_2).f0.f0) == ((rd_T39 t317 x38_2).f0)) || (!(((rd_T65 l4 x38_2).f0.f1) == ((rd_T39 t317 x38_2).f1)))) = true := c20
            clear c20
            obtain rfl := Option.some.inj H
            have p322 : 0 ≤ (x38_2 : Int) := od_ (by first | (with_reducible assumption) | assumption)
            have q322 : x38_2 < (l4.length : Int) := od_ (by first | (with_reducible assumption) | assumption)
            obtain ⟨ad322, e322, hx322_0, hx322_1, hx322_2, hx322_3, hx322_4, hx322_5, hx322_6, hx322_7, hx322_8, hx322_9, hx322_10⟩ := at_T65 HR4.out x38_2 p322 q322
            cases e322
            replace hx322_0 := cx_ HB hx322_0
            replace hx322_1 := cx_ HB hx322_1
            replace hx322_2 := cx_ HB hx322_2
            replace hx322_3 := cx_ HB hx322_3
            replace hx322_4 := cx_ HB hx322_4
            replace hx322_5 := cx_ HB hx322_5
            replace hx322_6 := cx_ HB hx322_6
            replace hx322_7 := cx_ HB hx322_7
            replace hx322_8 := cx_ HB hx322_8
            replace hx322_9 := cx_ HB hx322_9
            replace hx322_10 := cx_ HB hx322_10
            replace p322 := eq_true p322
            replace q322 := eq_true q322
            try go_wp2_with (first | ((with_reducible refine gate_dst (N := 14) rfl ?_); (try (refine gate_guard (by rfl) ?_; dsimp only)); refine bx_ 14 #[.int .u64 0, .int .u64 0, .bool false, .bool false, .int .u64 0, .int .u64 0, .int .u64 0, .int .u64 0, .int .u64 0, .int .u64 0, .int .i64 0] 65 ?_; intro gb323 hg w21 hbox hb; replace HO_11 := ak_ (Kd.R_below (rl_ HO_11) hb); have BK323 := ak_ hbox; have GW323 := ak_ (gs_ hg HB); have GE323 := ak_ (gs_ hg HB); replace HB := ak_ (bt_ (bl_ HB) hb); clear hb hbox hg; have hcz22_0 := kq_ BK323.out 0 rfl; have hcz22_1 := kq_ BK323.out 1 rfl; have hcz22_2 := kq_ BK323.out 2 rfl; have hcz22_3 := kq_ BK323.out 3 rfl; have hcz22_4 := kq_ BK323.out 4 rfl; have hcz22_5 := kq_ BK323.out 5 rfl; have hcz22_6 := kq_ BK323.out 6 rfl; have hcz22_7 := kq_ BK323.out 7 rfl; have hcz22_8 := kq_ BK323.out 8 rfl; have hcz22_9 := kq_ BK323.out 9 rfl; have hcz22_10 := kq_ BK323.out 10 rfl; have hfz22_0 := kf_ BK323.out 0; have hfz22_1 := kf_ BK323.out 1; have hfz22_2 := kf_ BK323.out 2; have hfz22_3 := kf_ BK323.out 3; have hfz22_4 := kf_ BK323.out 4; have hfz22_5 := kf_ BK323.out 5; have hfz22_6 := kf_ BK323.out 6; have hfz22_7 := kf_ BK323.out 7; have hfz22_8 := kf_ BK323.out 8; have hfz22_9 := kf_ BK323.out 9; have hfz22_10 := kf_ BK323.out 10))
            obtain ⟨w23, e_⟩ : ∃ w_, sC_ gb323 0 [.int .u64 ((rd_T65 l4 x38_2).f0.f0), .int .u64 ((rd_T65 l4 x38_2).f0.f1), .bool ((rd_T65 l4 x38_2).f1.f0), .bool ((rd_T65 l4 x38_2).f1.f1), .int .u64 ((rd_T65 l4 x38_2).f1.f2.f0), .int .u64 ((rd_T65 l4 x38_2).f1.f2.f1), .int .u64 ((rd_T65 l4 x38_2).f1.f3.f0.f0), .int .u64 ((rd_T65 l4 x38_2).f1.f3.f0.f1), .int .u64 ((rd_T65 l4 x38_2).f1.f3.f1.f0), .int .u64 ((rd_T65 l4 x38_2).f1.f3.f1.f1), .int .i64 ((rd_T65 l4 x38_2).f1.f4)] w21 = w_ := ⟨_, rfl⟩
            have n0_ : Aside0 (Kd.R k39 39 w23 w.heap.size (fun _ => True) v319 t317) := ⟨Kd.R_mono (sC_far (Kd.R_types HO_11.out BK323.out (by decide)) (fun _ hk => hk.2) e_) (fun _ hk => trivial)⟩
            have n1_ : Aside0 (w23.heap[gb323]? = some (.cells #[.int .u64 ((rd_T65 l4 x38_2).f0.f0), .int .u64 ((rd_T65 l4 x38_2).f0.f1), .bool ((rd_T65 l4 x38_2).f1.f0), .bool ((rd_T65 l4 x38_2).f1.f1), .int .u64 ((rd_T65 l4 x38_2).f1.f2.f0), .int .u64 ((rd_T65 l4 x38_2).f1.f2.f1), .int .u64 ((rd_T65 l4 x38_2).f1.f3.f0.f0), .int .u64 ((rd_T65 l4 x38_2).f1.f3.f0.f1), .int .u64 ((rd_T65 l4 x38_2).f1.f3.f1.f0), .int .u64 ((rd_T65 l4 x38_2).f1.f3.f1.f1), .int .i64 ((rd_T65 l4 x38_2).f1.f4)] 65 (0, 0))) := ⟨sC_blk BK323.out rfl e_⟩
            have n2_ : Aside0 (Below w.heap.size w w23) := ⟨sC_below GE323.out HB.out e_⟩
            (try clear HO_11)
            (try clear BK323)
            (try clear HB)
            simp only [sC_, Nat.reduceAdd] at e_
            rw [e_]
            clear e_
            have HO_11 := n0_
            have BK323 := n1_
            have HB := n2_
            clear n0_ n1_ n2_
            replace HO_11 := ak_ (Kd.R_drew HO_11.out)
            replace BK323 := ak_ (kd_ BK323.out)
            replace HB := ak_ (bd_ HB.out)
            obtain ⟨Ao25, co25, eo25⟩ := Kd.R_slice HO_11.out
            (first | subst eo25 | (injection eo25 with f1_ f2_ f3_; have f4_ := f1_.symm; have f5_ := f3_.symm; clear f1_ f2_ f3_; subst f4_; subst f5_))
            have p324 : 0 ≤ (x38_2 : Int) := od_ (by first | (with_reducible assumption) | assumption)
            have q324 : x38_2 < (t317.length : Int) := od_ (by first | (with_reducible assumption) | assumption)
            obtain ⟨ad324, e324, hx324_0, hx324_1⟩ := at_T39 (Kd.R_reads' HO_11.out).2.2 x38_2 p324 q324
            cases e324
            replace p324 := eq_true p324
            replace q324 := eq_true q324
            refine start_ (n := 25) (S := fun w' => w'.cell? ⟨gb323, 0, none⟩ = some (.int .u64 ((rd_T65 l4 x38_2).f0.f0)) ∧ w'.cell? ⟨gb323, 1, none⟩ = some (.int .u64 ((rd_T65 l4 x38_2).f0.f1)) ∧ w'.cell? ⟨gb323, 2, none⟩ = some (.bool ((rd_T65 l4 x38_2).f1.f0)) ∧ w'.cell? ⟨gb323, 3, none⟩ = some (.bool ((rd_T65 l4 x38_2).f1.f1)) ∧ w'.cell? ⟨gb323, 4, none⟩ = some (.int .u64 ((rd_T65 l4 x38_2).f1.f2.f0)) ∧ w'.cell? ⟨gb323, 5, none⟩ = some (.int .u64 ((rd_T65 l4 x38_2).f1.f2.f1)) ∧ w'.cell? ⟨gb323, 6, none⟩ = some (.int .u64 ((rd_T65 l4 x38_2).f1.f3.f0.f0)) ∧ w'.cell? ⟨gb323, 7, none⟩ = some (.int .u64 ((rd_T65 l4 x38_2).f1.f3.f0.f1)) ∧ w'.cell? ⟨gb323, 8, none⟩ = some (.int .u64 ((rd_T65 l4 x38_2).f1.f3.f1.f0)) ∧ w'.cell? ⟨gb323, 9, none⟩ = some (.int .u64 ((rd_T65 l4 x38_2).f1.f3.f1.f1)) ∧ w'.cell? ⟨gb323, 10, none⟩ = some (.int .i64 ((rd_T65 l4 x38_2).f1.f4)) ∧ w'.cell? (ad324.add ((x38_2).toNat * 2)) = some (.int .u64 ((rd_T39 t317 x38_2).f0)) ∧ w'.cell? ⟨(ad324.add ((x38_2).toNat * 2)).block, (ad324.add ((x38_2).toNat * 2)).off + 1, none⟩ = some (.int .u64 ((rd_T39 t317 x38_2).f1))) (ds := []) #[false, false, false, false, false, false, false, false, false, false, false, false, false, false, false, false, false, false, false, false, false, false, false, false, false] (by kernel_rfl) rfl rfl ⟨(kc_ BK323.out 0).trans rfl, (kc_ BK323.out 1).trans rfl, (kc_ BK323.out 2).trans rfl, (kc_ BK323.out 3).trans rfl, (kc_ BK323.out 4).trans rfl, (kc_ BK323.out 5).trans rfl, (kc_ BK323.out 6).trans rfl, (kc_ BK323.out 7).trans rfl, (kc_ BK323.out 8).trans rfl, (kc_ BK323.out 9).trans rfl, (kc_ BK323.out 10).trans rfl, hx324_0, hx324_1⟩ (fun hHeld => ?_); refine with_tabW medlarref14_Check.tab7 medlarref14_Check.bits7 (fun HT_ HW_ => ?_)
            generalize w23.drew = w24 at HO_11 BK323 HB hx324_0 hx324_1 hHeld ⊢
            refine pu_ HT_ 0 (some 43) (bA6 1 25) ?_
            refine pu_ HT_ 2 (some 45) #[true, false, true, false, false, false, false, false, false, false, false, false, false, false, false, false, false, false, false, false, false, false, false, false, false] ?_
            refine pu_ HT_ 3 (some 46) #[true, false, true, true, false, false, false, false, false, false, false, false, false, false, false, false, false, false, false, false, false, false, false, false, false] ?_
            refine pu_ HT_ 4 (some 47) #[true, false, true, true, true, false, false, false, false, false, false, false, false, false, false, false, false, false, false, false, false, false, false, false, false] ?_
            refine tk_ HT_ HW_ hHeld 1 (some 44) (bA6 5 25) rfl (by rintro w' ⟨s0, s1, s2, s3, s4, s5, s6, s7, s8, s9, s10, s11, s12⟩; go_simp; with_reducible rfl) ?_
            refine tk_ HT_ HW_ hHeld 5 (some 48) (bA6 6 25) rfl (by rintro w' ⟨s0, s1, s2, s3, s4, s5, s6, s7, s8, s9, s10, s11, s12⟩; go_simp; with_reducible rfl) ?_
            refine pu_ HT_ 6 (some 49) (bA6 7 25) ?_
            refine pu_ HT_ 7 (some 50) (bA6 8 25) ?_
            refine pure_ (i := 8) (N := some 51) (v := undef) (a' := ?_) (bA6 9 25) rfl rfl (any_of HT_.out (by kernel_rfl)) (fun _ _ _ h => h) (Or.inr ⟨by rfl, rfl⟩) ?_ ?_
            rotate_left
            ·simp only [Act.put, setIfInBounds_toArray, set_cons_zero, set_cons_succ, i64_w, i32_w]
             rfl
            refine pure_ (i := 9) (N := some 52) (v := undef) (a' := ?_) (bA6 10 25) rfl rfl (any_of HT_.out (by kernel_rfl)) (fun _ _ _ h => h) (Or.inr ⟨by rfl, rfl⟩) ?_ ?_
            rotate_left
            ·simp only [Act.put, setIfInBounds_toArray, set_cons_zero, set_cons_succ, i64_w, i32_w]
             rfl
            refine pure_ (i := 10) (N := some 53) (v := undef) (a' := ?_) (bA6 11 25) rfl rfl (any_of HT_.out (by kernel_rfl)) (fun _ _ _ h => h) (Or.inr ⟨by rfl, rfl⟩) ?_ ?_
            rotate_left
            ·simp only [Act.put, setIfInBounds_toArray, set_cons_zero, set_cons_succ, i64_w, i32_w]
             rfl
            refine pure_ (i := 11) (N := some 54) (v := undef) (a' := ?_) (bA6 12 25) rfl rfl (any_of HT_.out (by kernel_rfl)) (fun _ _ _ h => h) (Or.inr ⟨by rfl, rfl⟩) ?_ ?_
            rotate_left
            ·simp only [Act.put, setIfInBounds_toArray, set_cons_zero, set_cons_succ, i64_w, i32_w]
             rfl
            refine pure_ (i := 12) (N := some 55) (v := undef) (a' := ?_) (bA6 13 25) rfl rfl (any_of HT_.out (by kernel_rfl)) (fun _ _ _ h => h) (Or.inr ⟨by rfl, rfl⟩) ?_ ?_
            rotate_left
            ·simp only [Act.put, setIfInBounds_toArray, set_cons_zero, set_cons_succ, i64_w, i32_w]
             rfl
            refine pu_ HT_ 13 (some 56) (bA6 14 25) ?_
            refine pu_ HT_ 14 (some 57) (bA6 15 25) ?_
            refine pure_ (i := 15) (N := some 58) (v := undef) (a' := ?_) (bA6 16 25) rfl rfl (any_of HT_.out (by kernel_rfl)) (fun _ _ _ h => h) (Or.inr ⟨by rfl, rfl⟩) ?_ ?_
            rotate_left
            ·simp only [Act.put, setIfInBounds_toArray, set_cons_zero, set_cons_succ, i64_w, i32_w]
             rfl
            refine pure_ (i := 16) (N := some 59) (v := undef) (a' := ?_) (bA6 17 25) rfl rfl (any_of HT_.out (by kernel_rfl)) (fun _ _ _ h => h) (Or.inr ⟨by rfl, rfl⟩) ?_ ?_
            rotate_left
            ·simp only [Act.put, setIfInBounds_toArray, set_cons_zero, set_cons_succ, i64_w, i32_w]
             rfl
            refine pure_ (i := 17) (N := some 60) (v := undef) (a' := ?_) (bA6 18 25) rfl rfl (any_of HT_.out (by kernel_rfl)) (fun _ _ _ h => h) (Or.inr ⟨by rfl, rfl⟩) ?_ ?_
            rotate_left
            ·simp only [Act.put, setIfInBounds_toArray, set_cons_zero, set_cons_succ, i64_w, i32_w]
             rfl
            refine pure_ (i := 18) (N := some 61) (v := undef) (a' := ?_) (bA6 19 25) rfl rfl (any_of HT_.out (by kernel_rfl)) (fun _ _ _ h => h) (Or.inr ⟨by rfl, rfl⟩) ?_ ?_
            rotate_left
            ·simp only [Act.put, setIfInBounds_toArray, set_cons_zero, set_cons_succ, i64_w, i32_w]
             rfl
            refine pure_ (i := 19) (N := some 62) (v := undef) (a' := ?_) (bA6 20 25) rfl rfl (any_of HT_.out (by kernel_rfl)) (fun _ _ _ h => h) (Or.inr ⟨by rfl, rfl⟩) ?_ ?_
            rotate_left
            ·simp only [Act.put, setIfInBounds_toArray, set_cons_zero, set_cons_succ, i64_w, i32_w]
             rfl
            refine pure_ (i := 20) (N := some 63) (v := undef) (a' := ?_) (bA6 21 25) rfl rfl (any_of HT_.out (by kernel_rfl)) (fun _ _ _ h => h) (Or.inr ⟨by rfl, rfl⟩) ?_ ?_
            rotate_left
            ·simp only [Act.put, setIfInBounds_toArray, set_cons_zero, set_cons_succ, i64_w, i32_w]
             rfl
            refine pure_ (i := 21) (N := some 64) (v := undef) (a' := ?_) (bA6 22 25) rfl rfl (any_of HT_.out (by kernel_rfl)) (fun _ _ _ h => h) (Or.inr ⟨by rfl, rfl⟩) ?_ ?_
            rotate_left
            ·simp only [Act.put, setIfInBounds_toArray, set_cons_zero, set_cons_succ, i64_w, i32_w]
             rfl
            refine pure_ (i := 22) (N := some 65) (v := undef) (a' := ?_) (bA6 23 25) rfl rfl (any_of HT_.out (by kernel_rfl)) (fun _ _ _ h => h) (Or.inr ⟨by rfl, rfl⟩) ?_ ?_
            rotate_left
            ·simp only [Act.put, setIfInBounds_toArray, set_cons_zero, set_cons_succ, i64_w, i32_w]
             rfl
            refine pure_ (i := 23) (N := some 66) (v := undef) (a' := ?_) (bA6 24 25) rfl rfl (any_of HT_.out (by kernel_rfl)) (fun _ _ _ h => h) (Or.inr ⟨by rfl, rfl⟩) ?_ ?_
            rotate_left
            ·simp only [Act.put, setIfInBounds_toArray, set_cons_zero, set_cons_succ, i64_w, i32_w]
             rfl
            refine pu_ HT_ 24 (some 67) (bA6 25 25) ?_
            refine done_ (done_of HT_.out (by kernel_rfl)) ?_
            try go_wp2
            go_ret
            exact ea_ (by repeat (first | (with_reducible first | exact HB.out | apply ba_ | apply bn_ | apply bd_ | refine below_set ?_ GE323.out) | exact HB.out))
           ·rw [if_neg c20] at H
            have c20b0 : (!(((rd_T65 l4 x38_2).f0.f0) == ((rd_T39 t317 x38_2).f0)) || (!(((rd_T65 l4 x38_2).f0.f1) == ((rd_T39 t317 x38_2).f1)))) = false := by simpa using c20
            clear c20
            replace H := bind_eq_some_iff.mp H
            obtain ⟨t325, A260, H⟩ := H
            replace H : (if t325 = true then (if 0 < (l4.length : Int) then (if (((rd_T65 l4 x38_2).f1.f0) != ((rd_T65 l4 0).f1.f0)) = true then (some 1) else (medlarref14_Check.l0 k2 l0 l4 t317 l4 (l4.length : Int) (wrap64 (x38_2 + 1)))) else (none)) else (some 1)) = some r := H
            have A26 := ak_ A260
            clear A260
            by_cases c27 : t325 = true
            ·subst c27
             have H1 : (if 0 < (l4.length : Int) then (if (((rd_T65 l4 x38_2).f1.f0) != ((rd_T65 l4 0).f1.f0)) = true then (some 1) else (medlarref14_Check.l0 k2 l0 l4 t317 l4 (l4.length : Int) (wrap64 (x38_2 + 1)))) else (none)) = some r := by rw [if_pos rfl] at H; exact H
             clear H
             have H := H1
             clear H1
             by_cases c28 : 0 < (l4.length : Int)
             ·rw [if_pos c28] at H
              have c28b0 := decide_eq_true c28
              have c28b1 : decide (0 < l4.length) = true := decide_eq_true (by omega)
              clear c28
              by_cases c29 : (((rd_T65 l4 x38_2).f1.f0) != ((rd_T65 l4 0).f1.f0)) = true
              ·rw [if_pos c29] at H
               have c29b0 : (((rd_T65 l4 x38_2).f1.f0) != ((rd_T65 l4 0).f1.f0)) = true := c29
               (try (have c29b1 : decide (((rd_T65 l4 x38_2).f1.f0) = ((rd_T65 l4 0).f1.f0)) = false := by simpa using c29))
               (try (have c29b2 : (((rd_T65 l4 x38_2).f1.f0) == ((rd_T65 l4 0).f1.f0)) = false := by simpa using c29))
               (try (have c29b3 : ¬ (((rd_T65 l4 x38_2).f1.f0) = ((rd_T65 l4 0).f1.f0)) := by simpa using c29))
               clear c29
               obtain rfl := Option.some.inj H
               have p322 : 0 ≤ (x38_2 : Int) := od_ (by first | (with_reducible assumption) | assumption)
               have q322 : x38_2 < (l4.length : Int) := od_ (by first | (with_reducible assumption) | assumption)
               obtain ⟨ad322, e322, hx322_0, hx322_1, hx322_2, hx322_3, hx322_4, hx322_5, hx322_6, hx322_7, hx322_8, hx322_9, hx322_10⟩ := at_T65 HR4.out x38_2 p322 q322
               cases e322
               replace hx322_0 := cx_ HB hx322_0
               replace hx322_1 := cx_ HB hx322_1
               replace hx322_2 := cx_ HB hx322_2
               replace hx322_3 := cx_ HB hx322_3
               replace hx322_4 := cx_ HB hx322_4
               replace hx322_5 := cx_ HB hx322_5
               replace hx322_6 := cx_ HB hx322_6
               replace hx322_7 := cx_ HB hx322_7
               replace hx322_8 := cx_ HB hx322_8
               replace hx322_9 := cx_ HB hx322_9
               replace hx322_10 := cx_ HB hx322_10
               replace p322 := eq_true p322
               replace q322 := eq_true q322
               try go_wp2_with (first | ((with_reducible refine gate_dst (N := 14) rfl ?_); (try (refine gate_guard (by rfl) ?_; dsimp only)); refine bx_ 14 #[.int .u64 0, .int .u64 0, .bool false, .bool false, .int .u64 0, .int .u64 0, .int .u64 0, .int .u64 0, .int .u64 0, .int .u64 0, .int .i64 0] 65 ?_; intro gb323 hg w30 hbox hb; replace HO_11 := ak_ (Kd.R_below (rl_ HO_11) hb); have BK323 := ak_ hbox; have GW323 := ak_ (gs_ hg HB); have GE323 := ak_ (gs_ hg HB); replace HB := ak_ (bt_ (bl_ HB) hb); clear hb hbox hg; have hcz31_0 := kq_ BK323.out 0 rfl; have hcz31_1 := kq_ BK323.out 1 rfl; have hcz31_2 := kq_ BK323.out 2 rfl; have hcz31_3 := kq_ BK323.out 3 rfl; have hcz31_4 := kq_ BK323.out 4 rfl; have hcz31_5 := kq_ BK323.out 5 rfl; have hcz31_6 := kq_ BK323.out 6 rfl; have hcz31_7 := kq_ BK323.out 7 rfl; have hcz31_8 := kq_ BK323.out 8 rfl; have hcz31_9 := kq_ BK323.out 9 rfl; have hcz31_10 := kq_ BK323.out 10 rfl; have hfz31_0 := kf_ BK323.out 0; have hfz31_1 := kf_ BK323.out 1; have hfz31_2 := kf_ BK323.out 2; have hfz31_3 := kf_ BK323.out 3; have hfz31_4 := kf_ BK323.out 4; have hfz31_5 := kf_ BK323.out 5; have hfz31_6 := kf_ BK323.out 6; have hfz31_7 := kf_ BK323.out 7; have hfz31_8 := kf_ BK323.out 8; have hfz31_9 := kf_ BK323.out 9; have hfz31_10 := kf_ BK323.out 10))
               obtain ⟨w32, e_⟩ : ∃ w_, sC_ gb323 0 [.int .u64 ((rd_T65 l4 x38_2).f0.f0), .int .u64 ((rd_T65 l4 x38_2).f0.f1), .bool ((rd_T65 l4 x38_2).f1.f0), .bool ((rd_T65 l4 x38_2).f1.f1), .int .u64 ((rd_T65 l4 x38_2).f1.f2.f0), .int .u64 ((rd_T65 l4 x38_2).f1.f2.f1), .int .u64 ((rd_T65 l4 x38_2).f1.f3.f0.f0), .int .u64 ((rd_T65 l4 x38_2).f1.f3.f0.f1), .int .u64 ((rd_T65 l4 x38_2).f1.f3.f1.f0), .int .u64 ((rd_T65 l4 x38_2).f1.f3.f1.f1), .int .i64 ((rd_T65 l4 x38_2).f1.f4)] w30 = w_ := ⟨_, rfl⟩
               have n0_ : Aside0 (Kd.R k39 39 w32 w.heap.size (fun _ => True) v319 t317) := ⟨Kd.R_mono (sC_far (Kd.R_types HO_11.out BK323.out (by decide)) (fun _ hk => hk.2) e_) (fun _ hk => trivial)⟩
               have n1_ : Aside0 (w32.heap[gb323]? = some (.cells #[.int .u64 ((rd_T65 l4 x38_2).f0.f0), .int .u64 ((rd_T65 l4 x38_2).f0.f1), .bool ((rd_T65 l4 x38_2).f1.f0), .bool ((rd_T65 l4 x38_2).f1.f1), .int .u64 ((rd_T65 l4 x38_2).f1.f2.f0), .int .u64 ((rd_T65 l4 x38_2).f1.f2.f1), .int .u64 ((rd_T65 l4 x38_2).f1.f3.f0.f0), .int .u64 ((rd_T65 l4 x38_2).f1.f3.f0.f1), .int .u64 ((rd_T65 l4 x38_2).f1.f3.f1.f0), .int .u64 ((rd_T65 l4 x38_2).f1.f3.f1.f1), .int .i64 ((rd_T65 l4 x38_2).f1.f4)] 65 (0, 0))) := ⟨sC_blk BK323.out rfl e_⟩
               have n2_ : Aside0 (Below w.heap.size w w32) := ⟨sC_below GE323.out HB.out e_⟩
               (try clear HO_11)
               (try clear BK323)
               (try clear HB)
               simp only [sC_, Nat.reduceAdd] at e_
               rw [e_]
               clear e_
               have HO_11 := n0_
               have BK323 := n1_
               have HB := n2_
               clear n0_ n1_ n2_
               replace HO_11 := ak_ (Kd.R_drew HO_11.out)
               replace BK323 := ak_ (kd_ BK323.out)
               replace HB := ak_ (bd_ HB.out)
               obtain ⟨Ao34, co34, eo34⟩ := Kd.R_slice HO_11.out
               (first | subst eo34 | (injection eo34 with f1_ f2_ f3_; have f4_ := f1_.symm; have f5_ := f3_.symm; clear f1_ f2_ f3_; subst f4_; subst f5_))
               have p324 : 0 ≤ (x38_2 : Int) := od_ (by first | (with_reducible assumption) | assumption)
               have q324 : x38_2 < (t317.length : Int) := od_ (by first | (with_reducible assumption) | assumption)
               obtain ⟨ad324, e324, hx324_0, hx324_1⟩ := at_T39 (Kd.R_reads' HO_11.out).2.2 x38_2 p324 q324
               cases e324
               replace p324 := eq_true p324
               replace q324 := eq_true q324
               have p326 : 0 ≤ (0 : Int) := (by omega)
               have q326 : 0 < (l4.length : Int) := od_ (by first | (with_reducible assumption) | assumption)
               obtain ⟨ad326, e326, hx326_0, hx326_1, hx326_2, hx326_3, hx326_4, hx326_5, hx326_6, hx326_7, hx326_8, hx326_9, hx326_10⟩ := at_T65 HR4.out 0 p326 q326
               have hw326_10 := hx326_10
               (try rw [show ((0 : Int)).toNat = 0 from rfl] at hw326_10)
               (try rw [show 0 * 11 = 0 from rfl] at hw326_10)
               (try rw [Addr.add_zero'] at hw326_10)
               have hw326_9 := hx326_9
               (try rw [show ((0 : Int)).toNat = 0 from rfl] at hw326_9)
               (try rw [show 0 * 11 = 0 from rfl] at hw326_9)
               (try rw [Addr.add_zero'] at hw326_9)
               have hw326_8 := hx326_8
               (try rw [show ((0 : Int)).toNat = 0 from rfl] at hw326_8)
               (try rw [show 0 * 11 = 0 from rfl] at hw326_8)
               (try rw [Addr.add_zero'] at hw326_8)
               have hw326_7 := hx326_7
               (try rw [show ((0 : Int)).toNat = 0 from rfl] at hw326_7)
               (try rw [show 0 * 11 = 0 from rfl] at hw326_7)
               (try rw [Addr.add_zero'] at hw326_7)
               have hw326_6 := hx326_6
               (try rw [show ((0 : Int)).toNat = 0 from rfl] at hw326_6)
               (try rw [show 0 * 11 = 0 from rfl] at hw326_6)
               (try rw [Addr.add_zero'] at hw326_6)
               have hw326_5 := hx326_5
               (try rw [show ((0 : Int)).toNat = 0 from rfl] at hw326_5)
               (try rw [show 0 * 11 = 0 from rfl] at hw326_5)
               (try rw [Addr.add_zero'] at hw326_5)
               have hw326_4 := hx326_4
               (try rw [show ((0 : Int)).toNat = 0 from rfl] at hw326_4)
               (try rw [show 0 * 11 = 0 from rfl] at hw326_4)
               (try rw [Addr.add_zero'] at hw326_4)
               have hw326_3 := hx326_3
               (try rw [show ((0 : Int)).toNat = 0 from rfl] at hw326_3)
               (try rw [show 0 * 11 = 0 from rfl] at hw326_3)
               (try rw [Addr.add_zero'] at hw326_3)
               have hw326_2 := hx326_2
               (try rw [show ((0 : Int)).toNat = 0 from rfl] at hw326_2)
               (try rw [show 0 * 11 = 0 from rfl] at hw326_2)
               (try rw [Addr.add_zero'] at hw326_2)
               have hw326_1 := hx326_1
               (try rw [show ((0 : Int)).toNat = 0 from rfl] at hw326_1)
               (try rw [show 0 * 11 = 0 from rfl] at hw326_1)
               (try rw [Addr.add_zero'] at hw326_1)
               have hw326_0 := hx326_0
               (try rw [show ((0 : Int)).toNat = 0 from rfl] at hw326_0)
               (try rw [show 0 * 11 = 0 from rfl] at hw326_0)
               (try rw [Addr.add_zero'] at hw326_0)
               obtain rfl : ad322 = ad326 := (by injection e326)
               have qi326 : (0 < l4.length) = True := eq_true (by omega)
               (try rw [show ((0 : Int)).toNat = 0 from rfl] at hx326_0)
               (try rw [show 0 * 11 = 0 from rfl] at hx326_0)
               (try rw [Addr.add_zero'] at hx326_0)
               (try rw [show ((0 : Int)).toNat = 0 from rfl] at hx326_1)
               (try rw [show 0 * 11 = 0 from rfl] at hx326_1)
               (try rw [Addr.add_zero'] at hx326_1)
               (try rw [show ((0 : Int)).toNat = 0 from rfl] at hx326_2)
               (try rw [show 0 * 11 = 0 from rfl] at hx326_2)
               (try rw [Addr.add_zero'] at hx326_2)
               (try rw [show ((0 : Int)).toNat = 0 from rfl] at hx326_3)
               (try rw [show 0 * 11 = 0 from rfl] at hx326_3)
               (try rw [Addr.add_zero'] at hx326_3)
               (try rw [show ((0 : Int)).toNat = 0 from rfl] at hx326_4)
               (try rw [show 0 * 11 = 0 from rfl] at hx326_4)
               (try rw [Addr.add_zero'] at hx326_4)
               (try rw [show ((0 : Int)).toNat = 0 from rfl] at hx326_5)
               (try rw [show 0 * 11 = 0 from rfl] at hx326_5)
               (try rw [Addr.add_zero'] at hx326_5)
               (try rw [show ((0 : Int)).toNat = 0 from rfl] at hx326_6)
               (try rw [show 0 * 11 = 0 from rfl] at hx326_6)
               (try rw [Addr.add_zero'] at hx326_6)
               (try rw [show ((0 : Int)).toNat = 0 from rfl] at hx326_7)
               (try rw [show 0 * 11 = 0 from rfl] at hx326_7)
               (try rw [Addr.add_zero'] at hx326_7)
               (try rw [show ((0 : Int)).toNat = 0 from rfl] at hx326_8)
               (try rw [show 0 * 11 = 0 from rfl] at hx326_8)
               (try rw [Addr.add_zero'] at hx326_8)
               (try rw [show ((0 : Int)).toNat = 0 from rfl] at hx326_9)
               (try rw [show 0 * 11 = 0 from rfl] at hx326_9)
               (try rw [Addr.add_zero'] at hx326_9)
               (try rw [show ((0 : Int)).toNat = 0 from rfl] at hx326_10)
               (try rw [show 0 * 11 = 0 from rfl] at hx326_10)
               (try rw [Addr.add_zero'] at hx326_10)
               replace hx326_0 := cx_ HB hx326_0
               replace hx326_1 := cx_ HB hx326_1
               replace hx326_2 := cx_ HB hx326_2
               replace hx326_3 := cx_ HB hx326_3
               replace hx326_4 := cx_ HB hx326_4
               replace hx326_5 := cx_ HB hx326_5
               replace hx326_6 := cx_ HB hx326_6
               replace hx326_7 := cx_ HB hx326_7
               replace hx326_8 := cx_ HB hx326_8
               replace hx326_9 := cx_ HB hx326_9
               replace hx326_10 := cx_ HB hx326_10
               replace p326 := eq_true p326
               replace q326 := eq_true q326
               refine start_ (n := 25) (S := fun w' => w'.cell? ⟨gb323, 0, none⟩ = some (.int .u64 ((rd_T65 l4 x38_2).f0.f0)) ∧ w'.cell? ⟨gb323, 1, none⟩ = some (.int .u64 ((rd_T65 l4 x38_2).f0.f1)) ∧ w'.cell? ⟨gb323, 2, none⟩ = some (.bool ((rd_T65 l4 x38_2).f1.f0)) ∧ w'.cell? ⟨gb323, 3, none⟩ = some (.bool ((rd_T65 l4 x38_2).f1.f1)) ∧ w'.cell? ⟨gb323, 4, none⟩ = some (.int .u64 ((rd_T65 l4 x38_2).f1.f2.f0)) ∧ w'.cell? ⟨gb323, 5, none⟩ = some (.int .u64 ((rd_T65 l4 x38_2).f1.f2.f1)) ∧ w'.cell? ⟨gb323, 6, none⟩ = some (.int .u64 ((rd_T65 l4 x38_2).f1.f3.f0.f0)) ∧ w'.cell? ⟨gb323, 7, none⟩ = some (.int .u64 ((rd_T65 l4 x38_2).f1.f3.f0.f1)) ∧ w'.cell? ⟨gb323, 8, none⟩ = some (.int .u64 ((rd_T65 l4 x38_2).f1.f3.f1.f0)) ∧ w'.cell? ⟨gb323, 9, none⟩ = some (.int .u64 ((rd_T65 l4 x38_2).f1.f3.f1.f1)) ∧ w'.cell? ⟨gb323, 10, none⟩ = some (.int .i64 ((rd_T65 l4 x38_2).f1.f4)) ∧ w'.cell? (ad324.add ((x38_2).toNat * 2)) = some (.int .u64 ((rd_T39 t317 x38_2).f0)) ∧ w'.cell? ⟨(ad324.add ((x38_2).toNat * 2)).block, (ad324.add ((x38_2).toNat * 2)).off + 1, none⟩ = some (.int .u64 ((rd_T39 t317 x38_2).f1)) ∧ w'.cell? ad322 = some (.int .u64 ((rd_T65 l4 0).f0.f0)) ∧ w'.cell? ⟨ad322.block, ad322.off + 1, none⟩ = some (.int .u64 ((rd_T65 l4 0).f0.f1)) ∧ w'.cell? ⟨ad322.block, ad322.off + 2, none⟩ = some (.bool ((rd_T65 l4 0).f1.f0)) ∧ w'.cell? ⟨ad322.block, ad322.off + 3, none⟩ = some (.bool ((rd_T65 l4 0).f1.f1)) ∧ w'.cell? ⟨ad322.block, ad322.off + 4, none⟩ = some (.int .u64 ((rd_T65 l4 0).f1.f2.f0)) ∧ w'.cell? ⟨ad322.block, ad322.off + 5, none⟩ = some (.int .u64 ((rd_T65 l4 0).f1.f2.f1)) ∧ w'.cell? ⟨ad322.block, ad322.off + 6, none⟩ = some (.int .u64 ((rd_T65 l4 0).f1.f3.f0.f0)) ∧ w'.cell? ⟨ad322.block, ad322.off + 7, none⟩ = some (.int .u64 ((rd_T65 l4 0).f1.f3.f0.f1)) ∧ w'.cell? ⟨ad322.block, ad322.off + 8, none⟩ = some (.int .u64 ((rd_T65 l4 0).f1.f3.f1.f0)) ∧ w'.cell? ⟨ad322.block, ad322.off + 9, none⟩ = some (.int .u64 ((rd_T65 l4 0).f1.f3.f1.f1)) ∧ w'.cell? ⟨ad322.block, ad322.off + 10, none⟩ = some (.int .i64 ((rd_T65 l4 0).f1.f4))) (ds := []) #[false, false, false, false, false, false, false, false, false, false, false, false, false, false, false, false, false, false, false, false, false, false, false, false, false] (by kernel_rfl) rfl rfl ⟨(kc_ BK323.out 0).trans rfl, (kc_ BK323.out 1).trans rfl, (kc_ BK323.out 2).trans rfl, (kc_ BK323.out 3).trans rfl, (kc_ BK323.out 4).trans rfl, (kc_ BK323.out 5).trans rfl, (kc_ BK323.out 6).trans rfl, (kc_ BK323.out 7).trans rfl, (kc_ BK323.out 8).trans rfl, (kc_ BK323.out 9).trans rfl, (kc_ BK323.out 10).trans rfl, hx324_0, hx324_1, ((HB.out.cell (World.block_lt_of_cell? w _ hw326_0)).trans hw326_0), ((HB.out.cell (World.block_lt_of_cell? w _ hw326_1)).trans hw326_1), ((HB.out.cell (World.block_lt_of_cell? w _ hw326_2)).trans hw326_2), ((HB.out.cell (World.block_lt_of_cell? w _ hw326_3)).trans hw326_3), ((HB.out.cell (World.block_lt_of_cell? w _ hw326_4)).trans hw326_4), ((HB.out.cell (World.block_lt_of_cell? w _ hw326_5)).trans hw326_5), ((HB.out.cell (World.block_lt_of_cell? w _ hw326_6)).trans hw326_6), ((HB.out.cell (World.block_lt_of_cell? w _ hw326_7)).trans hw326_7), ((HB.out.cell (World.block_lt_of_cell? w _ hw326_8)).trans hw326_8), ((HB.out.cell (World.block_lt_of_cell? w _ hw326_9)).trans hw326_9), ((HB.out.cell (World.block_lt_of_cell? w _ hw326_10)).trans hw326_10)⟩ (fun hHeld => ?_); refine with_tabW medlarref14_Check.tab7 medlarref14_Check.bits7 (fun HT_ HW_ => ?_)
               generalize w32.drew = w33 at HO_11 BK323 HB hx324_0 hx324_1 hx326_0 hx326_1 hx326_10 hx326_2 hx326_3 hx326_4 hx326_5 hx326_6 hx326_7 hx326_8 hx326_9 hHeld ⊢
               refine pu_ HT_ 0 (some 43) (bA6 1 25) ?_
               refine pu_ HT_ 2 (some 45) #[true, false, true, false, false, false, false, false, false, false, false, false, false, false, false, false, false, false, false, false, false, false, false, false, false] ?_
               refine pu_ HT_ 3 (some 46) #[true, false, true, true, false, false, false, false, false, false, false, false, false, false, false, false, false, false, false, false, false, false, false, false, false] ?_
               refine pu_ HT_ 4 (some 47) #[true, false, true, true, true, false, false, false, false, false, false, false, false, false, false, false, false, false, false, false, false, false, false, false, false] ?_
               refine tk_ HT_ HW_ hHeld 1 (some 44) (bA6 5 25) rfl (by rintro w' ⟨s0, s1, s2, s3, s4, s5, s6, s7, s8, s9, s10, s11, s12, s13, s14, s15, s16, s17, s18, s19, s20, s21, s22, s23⟩; go_simp; with_reducible rfl) ?_
               refine tk_ HT_ HW_ hHeld 5 (some 48) (bA6 6 25) rfl (by rintro w' ⟨s0, s1, s2, s3, s4, s5, s6, s7, s8, s9, s10, s11, s12, s13, s14, s15, s16, s17, s18, s19, s20, s21, s22, s23⟩; go_simp; with_reducible rfl) ?_
               refine pu_ HT_ 6 (some 49) (bA6 7 25) ?_
               refine pu_ HT_ 7 (some 50) (bA6 8 25) ?_
               refine pu_ HT_ 8 (some 51) (bA6 9 25) ?_
               refine pu_ HT_ 9 (some 52) (bA6 10 25) ?_
               refine tk_ HT_ HW_ hHeld 10 (some 53) (bA6 11 25) rfl (by rintro w' ⟨s0, s1, s2, s3, s4, s5, s6, s7, s8, s9, s10, s11, s12, s13, s14, s15, s16, s17, s18, s19, s20, s21, s22, s23⟩; go_simp; with_reducible rfl) ?_
               refine one_ (i := 11) (N := some 54) (bA6 12 25) rfl rfl (one_of HT_.out (by kernel_rfl)) (by decide) (fun K hK => ?_)
               refine goes_ func90 (by kernel_rfl) rfl #[.slice A0 l0.length c0, .agg #[.bool ((rd_T65 l4 x38_2).f1.f0), .bool ((rd_T65 l4 x38_2).f1.f1), .int .u64 ((rd_T65 l4 x38_2).f1.f2.f0), .int .u64 ((rd_T65 l4 x38_2).f1.f2.f1), .int .u64 ((rd_T65 l4 x38_2).f1.f3.f0.f0), .int .u64 ((rd_T65 l4 x38_2).f1.f3.f0.f1), .int .u64 ((rd_T65 l4 x38_2).f1.f3.f1.f0), .int .u64 ((rd_T65 l4 x38_2).f1.f3.f1.f1), .int .i64 ((rd_T65 l4 x38_2).f1.f4)]] (by rfl) rfl rfl (by (try simp only [map_toArray, map_cons, map_nil]); first | done | rfl | (simp only [length_drop, length_take]; rfl)) ?_
               with_reducible refine (medlarref13_Open.calls k2 _ _ l0 ((rd_T65 l4 x38_2).f1.f0) ((rd_T65 l4 x38_2).f1.f1) ((rd_T65 l4 x38_2).f1.f2.f0) ((rd_T65 l4 x38_2).f1.f2.f1) ((rd_T65 l4 x38_2).f1.f3.f0.f0) ((rd_T65 l4 x38_2).f1.f3.f0.f1) ((rd_T65 l4 x38_2).f1.f3.f1.f0) ((rd_T65 l4 x38_2).f1.f3.f1.f1) ((rd_T65 l4 x38_2).f1.f4) true _ ?side1 ?side2 A26.out).mono ?_
               (case side1 => repeat (first | exact (Kd.C_below HR0.out HB.out) | (with_reducible refine Kd.C_alloc ?_ _) | (with_reducible refine Kd.C_drewN ?_ _) | (with_reducible refine Kd.C_drew ?_)))
               (case side2 => exact HC0.out)
               rintro e w35 ⟨rfl, hb⟩
               have HS11_ := (hb.cell (World.block_lt_of_cell? _ _ (hHeld.2.2.2.2.2.2.2.2.2.2.2.1))).trans (hHeld.2.2.2.2.2.2.2.2.2.2.2.1)
               have HS12_ := (hb.cell (World.block_lt_of_cell? _ _ (hHeld.2.2.2.2.2.2.2.2.2.2.2.2.1))).trans (hHeld.2.2.2.2.2.2.2.2.2.2.2.2.1)
               refine ⟨_, rfl, ?_⟩
               replace HO_11 := ak_ (Kd.R_below (rl_ HO_11) hb)
               replace BK323 := ak_ (kb_ (g := gb323) (o := .cells #[.int .u64 ((rd_T65 l4 x38_2).f0.f0), .int .u64 ((rd_T65 l4 x38_2).f0.f1), .bool ((rd_T65 l4 x38_2).f1.f0), .bool ((rd_T65 l4 x38_2).f1.f1), .int .u64 ((rd_T65 l4 x38_2).f1.f2.f0), .int .u64 ((rd_T65 l4 x38_2).f1.f2.f1), .int .u64 ((rd_T65 l4 x38_2).f1.f3.f0.f0), .int .u64 ((rd_T65 l4 x38_2).f1.f3.f0.f1), .int .u64 ((rd_T65 l4 x38_2).f1.f3.f1.f0), .int .u64 ((rd_T65 l4 x38_2).f1.f3.f1.f1), .int .i64 ((rd_T65 l4 x38_2).f1.f4)] 65 (0, 0)) (kl_ BK323) hb)
               replace HB := ak_ (bt_ (by repeat (first | (with_reducible first | exact HB.out | apply ba_ | apply bn_ | apply bd_ | refine below_set ?_ GE323.out) | exact HB.out)) hb)
               (try clear hb)
               (try clear hb2)
               (try clear hk)
               (try clear hi)
               refine hK.out _ _ ⟨(kc_ BK323.out 0).trans rfl, (kc_ BK323.out 1).trans rfl, (kc_ BK323.out 2).trans rfl, (kc_ BK323.out 3).trans rfl, (kc_ BK323.out 4).trans rfl, (kc_ BK323.out 5).trans rfl, (kc_ BK323.out 6).trans rfl, (kc_ BK323.out 7).trans rfl, (kc_ BK323.out 8).trans rfl, (kc_ BK323.out 9).trans rfl, (kc_ BK323.out 10).trans rfl, HS11_, HS12_, ((HB.out.cell (World.block_lt_of_cell? w _ hw326_0)).trans hw326_0), ((HB.out.cell (World.block_lt_of_cell? w _ hw326_1)).trans hw326_1), ((HB.out.cell (World.block_lt_of_cell? w _ hw326_2)).trans hw326_2), ((HB.out.cell (World.block_lt_of_cell? w _ hw326_3)).trans hw326_3), ((HB.out.cell (World.block_lt_of_cell? w _ hw326_4)).trans hw326_4), ((HB.out.cell (World.block_lt_of_cell? w _ hw326_5)).trans hw326_5), ((HB.out.cell (World.block_lt_of_cell? w _ hw326_6)).trans hw326_6), ((HB.out.cell (World.block_lt_of_cell? w _ hw326_7)).trans hw326_7), ((HB.out.cell (World.block_lt_of_cell? w _ hw326_8)).trans hw326_8), ((HB.out.cell (World.block_lt_of_cell? w _ hw326_9)).trans hw326_9), ((HB.out.cell (World.block_lt_of_cell? w _ hw326_10)).trans hw326_10)⟩ (fun hHeld => ?_)
               clear hK K
               refine norm_ (a' := ?_) ?_ ?_
               rotate_left
               ·show Act.put _ (some 54) _ = _
                simp only [Act.put, setIfInBounds_toArray, set_cons_zero, set_cons_succ, i64_w, i32_w]
                rfl
               refine pu_ HT_ 12 (some 55) (bA6 13 25) ?_
               refine pu_ HT_ 13 (some 56) (bA6 14 25) ?_
               refine pu_ HT_ 14 (some 57) (bA6 15 25) ?_
               refine pu_ HT_ 15 (some 58) (bA6 16 25) ?_
               refine pu_ HT_ 16 (some 59) (bA6 17 25) ?_
               refine pu_ HT_ 18 (some 61) #[true, true, true, true, true, true, true, true, true, true, true, true, true, true, true, true, true, false, true, false, false, false, false, false, false] ?_
               refine pu_ HT_ 19 (some 62) #[true, true, true, true, true, true, true, true, true, true, true, true, true, true, true, true, true, false, true, true, false, false, false, false, false] ?_
               refine pu_ HT_ 20 (some 63) #[true, true, true, true, true, true, true, true, true, true, true, true, true, true, true, true, true, false, true, true, true, false, false, false, false] ?_
               refine pu_ HT_ 21 (some 64) #[true, true, true, true, true, true, true, true, true, true, true, true, true, true, true, true, true, false, true, true, true, true, false, false, false] ?_
               refine tk_ HT_ HW_ hHeld 17 (some 60) (bA6 22 25) rfl (by rintro w' ⟨s0, s1, s2, s3, s4, s5, s6, s7, s8, s9, s10, s11, s12, s13, s14, s15, s16, s17, s18, s19, s20, s21, s22, s23⟩; go_simp; with_reducible rfl) ?_
               refine tk_ HT_ HW_ hHeld 22 (some 65) (bA6 23 25) rfl (by rintro w' ⟨s0, s1, s2, s3, s4, s5, s6, s7, s8, s9, s10, s11, s12, s13, s14, s15, s16, s17, s18, s19, s20, s21, s22, s23⟩; go_simp; with_reducible rfl) ?_
               refine pu_ HT_ 23 (some 66) (bA6 24 25) ?_
               refine pu_ HT_ 24 (some 67) (bA6 25 25) ?_
               refine done_ (done_of HT_.out (by kernel_rfl)) ?_
               try go_wp2
               go_ret
               exact ea_ (by repeat (first | (with_reducible first | exact HB.out | apply ba_ | apply bn_ | apply bd_ | refine below_set ?_ GE323.out) | exact HB.out))
              ·rw [if_neg c29] at H
               have c29b0 : (((rd_T65 l4 x38_2).f1.f0) != ((rd_T65 l4 0).f1.f0)) = false := by simpa using c29
               (try (have c29b1 : decide (((rd_T65 l4 x38_2).f1.f0) = ((rd_T65 l4 0).f1.f0)) = true := by simpa using c29))
               (try (have c29b2 : (((rd_T65 l4 x38_2).f1.f0) == ((rd_T65 l4 0).f1.f0)) = true := by simpa using c29))
               clear c29
               have H' := ak_ H
               clear H
               have p322 : 0 ≤ (x38_2 : Int) := od_ (by first | (with_reducible assumption) | assumption)
               have q322 : x38_2 < (l4.length : Int) := od_ (by first | (with_reducible assumption) | assumption)
               obtain ⟨ad322, e322, hx322_0, hx322_1, hx322_2, hx322_3, hx322_4, hx322_5, hx322_6, hx322_7, hx322_8, hx322_9, hx322_10⟩ := at_T65 HR4.out x38_2 p322 q322
               cases e322
               replace hx322_0 := cx_ HB hx322_0
               replace hx322_1 := cx_ HB hx322_1
               replace hx322_2 := cx_ HB hx322_2
               replace hx322_3 := cx_ HB hx322_3
               replace hx322_4 := cx_ HB hx322_4
               replace hx322_5 := cx_ HB hx322_5
               replace hx322_6 := cx_ HB hx322_6
               replace hx322_7 := cx_ HB hx322_7
               replace hx322_8 := cx_ HB hx322_8
               replace hx322_9 := cx_ HB hx322_9
               replace hx322_10 := cx_ HB hx322_10
               replace p322 := eq_true p322
               replace q322 := eq_true q322
               try go_wp2_with (first | ((with_reducible refine gate_dst (N := 14) rfl ?_); (try (refine gate_guard (by rfl) ?_; dsimp only)); refine bx_ 14 #[.int .u64 0, .int .u64 0, .bool false, .bool false, .int .u64 0, .int .u64 0, .int .u64 0, .int .u64 0, .int .u64 0, .int .u64 0, .int .i64 0] 65 ?_; intro gb323 hg w36 hbox hb; replace HO_11 := ak_ (Kd.R_below (rl_ HO_11) hb); have BK323 := ak_ hbox; have GW323 := ak_ (gs_ hg HB); have GE323 := ak_ (gs_ hg HB); replace HB := ak_ (bt_ (bl_ HB) hb); clear hb hbox hg; have hcz37_0 := kq_ BK323.out 0 rfl; have hcz37_1 := kq_ BK323.out 1 rfl; have hcz37_2 := kq_ BK323.out 2 rfl; have hcz37_3 := kq_ BK323.out 3 rfl; have hcz37_4 := kq_ BK323.out 4 rfl; have hcz37_5 := kq_ BK323.out 5 rfl; have hcz37_6 := kq_ BK323.out 6 rfl; have hcz37_7 := kq_ BK323.out 7 rfl; have hcz37_8 := kq_ BK323.out 8 rfl; have hcz37_9 := kq_ BK323.out 9 rfl; have hcz37_10 := kq_ BK323.out 10 rfl; have hfz37_0 := kf_ BK323.out 0; have hfz37_1 := kf_ BK323.out 1; have hfz37_2 := kf_ BK323.out 2; have hfz37_3 := kf_ BK323.out 3; have hfz37_4 := kf_ BK323.out 4; have hfz37_5 := kf_ BK323.out 5; have hfz37_6 := kf_ BK323.out 6; have hfz37_7 := kf_ BK323.out 7; have hfz37_8 := kf_ BK323.out 8; have hfz37_9 := kf_ BK323.out 9; have hfz37_10 := kf_ BK323.out 10))
               obtain ⟨w38, e_⟩ : ∃ w_, sC_ gb323 0 [.int .u64 ((rd_T65 l4 x38_2).f0.f0), .int .u64 ((rd_T65 l4 x38_2).f0.f1), .bool ((rd_T65 l4 x38_2).f1.f0), .bool ((rd_T65 l4 x38_2).f1.f1), .int .u64 ((rd_T65 l4 x38_2).f1.f2.f0), .int .u64 ((rd_T65 l4 x38_2).f1.f2.f1), .int .u64 ((rd_T65 l4 x38_2).f1.f3.f0.f0), .int .u64 ((rd_T65 l4 x38_2).f1.f3.f0.f1), .int .u64 ((rd_T65 l4 x38_2).f1.f3.f1.f0), .int .u64 ((rd_T65 l4 x38_2).f1.f3.f1.f1), .int .i64 ((rd_T65 l4 x38_2).f1.f4)] w36 = w_ := ⟨_, rfl⟩
               have n0_ : Aside0 (Kd.R k39 39 w38 w.heap.size (fun _ => True) v319 t317) := ⟨Kd.R_mono (sC_far (Kd.R_types HO_11.out BK323.out (by decide)) (fun _ hk => hk.2) e_) (fun _ hk => trivial)⟩
               have n1_ : Aside0 (w38.heap[gb323]? = some (.cells #[.int .u64 ((rd_T65 l4 x38_2).f0.f0), .int .u64 ((rd_T65 l4 x38_2).f0.f1), .bool ((rd_T65 l4 x38_2).f1.f0), .bool ((rd_T65 l4 x38_2).f1.f1), .int .u64 ((rd_T65 l4 x38_2).f1.f2.f0), .int .u64 ((rd_T65 l4 x38_2).f1.f2.f1), .int .u64 ((rd_T65 l4 x38_2).f1.f3.f0.f0), .int .u64 ((rd_T65 l4 x38_2).f1.f3.f0.f1), .int .u64 ((rd_T65 l4 x38_2).f1.f3.f1.f0), .int .u64 ((rd_T65 l4 x38_2).f1.f3.f1.f1), .int .i64 ((rd_T65 l4 x38_2).f1.f4)] 65 (0, 0))) := ⟨sC_blk BK323.out rfl e_⟩
               have n2_ : Aside0 (Below w.heap.size w w38) := ⟨sC_below GE323.out HB.out e_⟩
               (try clear HO_11)
               (try clear BK323)
               (try clear HB)
               simp only [sC_, Nat.reduceAdd] at e_
               rw [e_]
               clear e_
               have HO_11 := n0_
               have BK323 := n1_
               have HB := n2_
               clear n0_ n1_ n2_
               replace HO_11 := ak_ (Kd.R_drew HO_11.out)
               replace BK323 := ak_ (kd_ BK323.out)
               replace HB := ak_ (bd_ HB.out)
               obtain ⟨Ao40, co40, eo40⟩ := Kd.R_slice HO_11.out
               (first | subst eo40 | (injection eo40 with f1_ f2_ f3_; have f4_ := f1_.symm; have f5_ := f3_.symm; clear f1_ f2_ f3_; subst f4_; subst f5_))
               have p324 : 0 ≤ (x38_2 : Int) := od_ (by first | (with_reducible assumption) | assumption)
               have q324 : x38_2 < (t317.length : Int) := od_ (by first | (with_reducible assumption) | assumption)
               obtain ⟨ad324, e324, hx324_0, hx324_1⟩ := at_T39 (Kd.R_reads' HO_11.out).2.2 x38_2 p324 q324
               cases e324
               replace p324 := eq_true p324
               replace q324 := eq_true q324
               have p326 : 0 ≤ (0 : Int) := (by omega)
               have q326 : 0 < (l4.length : Int) := od_ (by first | (with_reducible assumption) | assumption)
               obtain ⟨ad326, e326, hx326_0, hx326_1, hx326_2, hx326_3, hx326_4, hx326_5, hx326_6, hx326_7, hx326_8, hx326_9, hx326_10⟩ := at_T65 HR4.out 0 p326 q326
               have hw326_10 := hx326_10
               (try rw [show ((0 : Int)).toNat = 0 from rfl] at hw326_10)
               (try rw [show 0 * 11 = 0 from rfl] at hw326_10)
               (try rw [Addr.add_zero'] at hw326_10)
               have hw326_9 := hx326_9
               (try rw [show ((0 : Int)).toNat = 0 from rfl] at hw326_9)
               (try rw [show 0 * 11 = 0 from rfl] at hw326_9)
               (try rw [Addr.add_zero'] at hw326_9)
               have hw326_8 := hx326_8
               (try rw [show ((0 : Int)).toNat = 0 from rfl] at hw326_8)
               (try rw [show 0 * 11 = 0 from rfl] at hw326_8)
               (try rw [Addr.add_zero'] at hw326_8)
               have hw326_7 := hx326_7
               (try rw [show ((0 : Int)).toNat = 0 from rfl] at hw326_7)
               (try rw [show 0 * 11 = 0 from rfl] at hw326_7)
               (try rw [Addr.add_zero'] at hw326_7)
               have hw326_6 := hx326_6
               (try rw [show ((0 : Int)).toNat = 0 from rfl] at hw326_6)
               (try rw [show 0 * 11 = 0 from rfl] at hw326_6)
               (try rw [Addr.add_zero'] at hw326_6)
               have hw326_5 := hx326_5
               (try rw [show ((0 : Int)).toNat = 0 from rfl] at hw326_5)
               (try rw [show 0 * 11 = 0 from rfl] at hw326_5)
               (try rw [Addr.add_zero'] at hw326_5)
               have hw326_4 := hx326_4
               (try rw [show ((0 : Int)).toNat = 0 from rfl] at hw326_4)
               (try rw [show 0 * 11 = 0 from rfl] at hw326_4)
               (try rw [Addr.add_zero'] at hw326_4)
               have hw326_3 := hx326_3
               (try rw [show ((0 : Int)).toNat = 0 from rfl] at hw326_3)
               (try rw [show 0 * 11 = 0 from rfl] at hw326_3)
               (try rw [Addr.add_zero'] at hw326_3)
               have hw326_2 := hx326_2
               (try rw [show ((0 : Int)).toNat = 0 from rfl] at hw326_2)
               (try rw [show 0 * 11 = 0 from rfl] at hw326_2)
               (try rw [Addr.add_zero'] at hw326_2)
               have hw326_1 := hx326_1
               (try rw [show ((0 : Int)).toNat = 0 from rfl] at hw326_1)
               (try rw [show 0 * 11 = 0 from rfl] at hw326_1)
               (try rw [Addr.add_zero'] at hw326_1)
               have hw326_0 := hx326_0
               (try rw [show ((0 : Int)).toNat = 0 from rfl] at hw326_0)
               (try rw [show 0 * 11 = 0 from rfl] at hw326_0)
               (try rw [Addr.add_zero'] at hw326_0)
               obtain rfl : ad322 = ad326 := (by injection e326)
               have qi326 : (0 < l4.length) = True := eq_true (by omega)
               (try rw [show ((0 : Int)).toNat = 0 from rfl] at hx326_0)
               (try rw [show 0 * 11 = 0 from rfl] at hx326_0)
               (try rw [Addr.add_zero'] at hx326_0)
               (try rw [show ((0 : Int)).toNat = 0 from rfl] at hx326_1)
               (try rw [show 0 * 11 = 0 from rfl] at hx326_1)
               (try rw [Addr.add_zero'] at hx326_1)
               (try rw [show ((0 : Int)).toNat = 0 from rfl] at hx326_2)
               (try rw [show 0 * 11 = 0 from rfl] at hx326_2)
               (try rw [Addr.add_zero'] at hx326_2)
               (try rw [show ((0 : Int)).toNat = 0 from rfl] at hx326_3)
               (try rw [show 0 * 11 = 0 from rfl] at hx326_3)
               (try rw [Addr.add_zero'] at hx326_3)
               (try rw [show ((0 : Int)).toNat = 0 from rfl] at hx326_4)
               (try rw [show 0 * 11 = 0 from rfl] at hx326_4)
               (try rw [Addr.add_zero'] at hx326_4)
               (try rw [show ((0 : Int)).toNat = 0 from rfl] at hx326_5)
               (try rw [show 0 * 11 = 0 from rfl] at hx326_5)
               (try rw [Addr.add_zero'] at hx326_5)
               (try rw [show ((0 : Int)).toNat = 0 from rfl] at hx326_6)
               (try rw [show 0 * 11 = 0 from rfl] at hx326_6)
               (try rw [Addr.add_zero'] at hx326_6)
               (try rw [show ((0 : Int)).toNat = 0 from rfl] at hx326_7)
               (try rw [show 0 * 11 = 0 from rfl] at hx326_7)
               (try rw [Addr.add_zero'] at hx326_7)
               (try rw [show ((0 : Int)).toNat = 0 from rfl] at hx326_8)
               (try rw [show 0 * 11 = 0 from rfl] at hx326_8)
               (try rw [Addr.add_zero'] at hx326_8)
               (try rw [show ((0 : Int)).toNat = 0 from rfl] at hx326_9)
               (try rw [show 0 * 11 = 0 from rfl] at hx326_9)
               (try rw [Addr.add_zero'] at hx326_9)
               (try rw [show ((0 : Int)).toNat = 0 from rfl] at hx326_10)
               (try rw [show 0 * 11 = 0 from rfl] at hx326_10)
               (try rw [Addr.add_zero'] at hx326_10)
               replace hx326_0 := cx_ HB hx326_0
               replace hx326_1 := cx_ HB hx326_1
               replace hx326_2 := cx_ HB hx326_2
               replace hx326_3 := cx_ HB hx326_3
               replace hx326_4 := cx_ HB hx326_4
               replace hx326_5 := cx_ HB hx326_5
               replace hx326_6 := cx_ HB hx326_6
               replace hx326_7 := cx_ HB hx326_7
               replace hx326_8 := cx_ HB hx326_8
               replace hx326_9 := cx_ HB hx326_9
               replace hx326_10 := cx_ HB hx326_10
               replace p326 := eq_true p326
               replace q326 := eq_true q326
               refine start_ (n := 25) (S := fun w' => w'.cell? ⟨gb323, 0, none⟩ = some (.int .u64 ((rd_T65 l4 x38_2).f0.f0)) ∧ w'.cell? ⟨gb323, 1, none⟩ = some (.int .u64 ((rd_T65 l4 x38_2).f0.f1)) ∧ w'.cell? ⟨gb323, 2, none⟩ = some (.bool ((rd_T65 l4 x38_2).f1.f0)) ∧ w'.cell? ⟨gb323, 3, none⟩ = some (.bool ((rd_T65 l4 x38_2).f1.f1)) ∧ w'.cell? ⟨gb323, 4, none⟩ = some (.int .u64 ((rd_T65 l4 x38_2).f1.f2.f0)) ∧ w'.cell? ⟨gb323, 5, none⟩ = some (.int .u64 ((rd_T65 l4 x38_2).f1.f2.f1)) ∧ w'.cell? ⟨gb323, 6, none⟩ = some (.int .u64 ((rd_T65 l4 x38_2).f1.f3.f0.f0)) ∧ w'.cell? ⟨gb323, 7, none⟩ = some (.int .u64 ((rd_T65 l4 x38_2).f1.f3.f0.f1)) ∧ w'.cell? ⟨gb323, 8, none⟩ = some (.int .u64 ((rd_T65 l4 x38_2).f1.f3.f1.f0)) ∧ w'.cell? ⟨gb323, 9, none⟩ = some (.int .u64 ((rd_T65 l4 x38_2).f1.f3.f1.f1)) ∧ w'.cell? ⟨gb323, 10, none⟩ = some (.int .i64 ((rd_T65 l4 x38_2).f1.f4)) ∧ w'.cell? (ad324.add ((x38_2).toNat * 2)) = some (.int .u64 ((rd_T39 t317 x38_2).f0)) ∧ w'.cell? ⟨(ad324.add ((x38_2).toNat * 2)).block, (ad324.add ((x38_2).toNat * 2)).off + 1, none⟩ = some (.int .u64 ((rd_T39 t317 x38_2).f1)) ∧ w'.cell? ad322 = some (.int .u64 ((rd_T65 l4 0).f0.f0)) ∧ w'.cell? ⟨ad322.block, ad322.off + 1, none⟩ = some (.int .u64 ((rd_T65 l4 0).f0.f1)) ∧ w'.cell? ⟨ad322.block, ad322.off + 2, none⟩ = some (.bool ((rd_T65 l4 0).f1.f0)) ∧ w'.cell? ⟨ad322.block, ad322.off + 3, none⟩ = some (.bool ((rd_T65 l4 0).f1.f1)) ∧ w'.cell? ⟨ad322.block, ad322.off + 4, none⟩ = some (.int .u64 ((rd_T65 l4 0).f1.f2.f0)) ∧ w'.cell? ⟨ad322.block, ad322.off + 5, none⟩ = some (.int .u64 ((rd_T65 l4 0).f1.f2.f1)) ∧ w'.cell? ⟨ad322.block, ad322.off + 6, none⟩ = some (.int .u64 ((rd_T65 l4 0).f1.f3.f0.f0)) ∧ w'.cell? ⟨ad322.block, ad322.off + 7, none⟩ = some (.int .u64 ((rd_T65 l4 0).f1.f3.f0.f1)) ∧ w'.cell? ⟨ad322.block, ad322.off + 8, none⟩ = some (.int .u64 ((rd_T65 l4 0).f1.f3.f1.f0)) ∧ w'.cell? ⟨ad322.block, ad322.off + 9, none⟩ = some (.int .u64 ((rd_T65 l4 0).f1.f3.f1.f1)) ∧ w'.cell? ⟨ad322.block, ad322.off + 10, none⟩ = some (.int .i64 ((rd_T65 l4 0).f1.f4))) (ds := []) #[false, false, false, false, false, false, false, false, false, false, false, false, false, false, false, false, false, false, false, false, false, false, false, false, false] (by kernel_rfl) rfl rfl ⟨(kc_ BK323.out 0).trans rfl, (kc_ BK323.out 1).trans rfl, (kc_ BK323.out 2).trans rfl, (kc_ BK323.out 3).trans rfl, (kc_ BK323.out 4).trans rfl, (kc_ BK323.out 5).trans rfl, (kc_ BK323.out 6).trans rfl, (kc_ BK323.out 7).trans rfl, (kc_ BK323.out 8).trans rfl, (kc_ BK323.out 9).trans rfl, (kc_ BK323.out 10).trans rfl, hx324_0, hx324_1, ((HB.out.cell (World.block_lt_of_cell? w _ hw326_0)).trans hw326_0), ((HB.out.cell (World.block_lt_of_cell? w _ hw326_1)).trans hw326_1), ((HB.out.cell (World.block_lt_of_cell? w _ hw326_2)).trans hw326_2), ((HB.out.cell (World.block_lt_of_cell? w _ hw326_3)).trans hw326_3), ((HB.out.cell (World.block_lt_of_cell? w _ hw326_4)).trans hw326_4), ((HB.out.cell (World.block_lt_of_cell? w _ hw326_5)).trans hw326_5), ((HB.out.cell (World.block_lt_of_cell? w _ hw326_6)).trans hw326_6), ((HB.out.cell (World.block_lt_of_cell? w _ hw326_7)).trans hw326_7), ((HB.out.cell (World.block_lt_of_cell? w _ hw326_8)).trans hw326_8), ((HB.out.cell (World.block_lt_of_cell? w _ hw326_9)).trans hw326_9), ((HB.out.cell (World.block_lt_of_cell? w _ hw326_10)).trans hw326_10)⟩ (fun hHeld => ?_); refine with_tabW medlarref14_Check.tab7 medlarref14_Check.bits7 (fun HT_ HW_ => ?_)
               generalize w38.drew = w39 at HO_11 BK323 HB hx324_0 hx324_1 hx326_0 hx326_1 hx326_10 hx326_2 hx326_3 hx326_4 hx326_5 hx326_6 hx326_7 hx326_8 hx326_9 hHeld ⊢
               refine pu_ HT_ 0 (some 43) (bA6 1 25) ?_
               refine pu_ HT_ 2 (some 45) #[true, false, true, false, false, false, false, false, false, false, false, false, false, false, false, false, false, false, false, false, false, false, false, false, false] ?_
               refine pu_ HT_ 3 (some 46) #[true, false, true, true, false, false, false, false, false, false, false, false, false, false, false, false, false, false, false, false, false, false, false, false, false] ?_
               refine pu_ HT_ 4 (some 47) #[true, false, true, true, true, false, false, false, false, false, false, false, false, false, false, false, false, false, false, false, false, false, false, false, false] ?_
               refine tk_ HT_ HW_ hHeld 1 (some 44) (bA6 5 25) rfl (by rintro w' ⟨s0, s1, s2, s3, s4, s5, s6, s7, s8, s9, s10, s11, s12, s13, s14, s15, s16, s17, s18, s19, s20, s21, s22, s23⟩; go_simp; with_reducible rfl) ?_
               refine tk_ HT_ HW_ hHeld 5 (some 48) (bA6 6 25) rfl (by rintro w' ⟨s0, s1, s2, s3, s4, s5, s6, s7, s8, s9, s10, s11, s12, s13, s14, s15, s16, s17, s18, s19, s20, s21, s22, s23⟩; go_simp; with_reducible rfl) ?_
               refine pu_ HT_ 6 (some 49) (bA6 7 25) ?_
               refine pu_ HT_ 7 (some 50) (bA6 8 25) ?_
               refine pu_ HT_ 8 (some 51) (bA6 9 25) ?_
               refine pu_ HT_ 9 (some 52) (bA6 10 25) ?_
               refine tk_ HT_ HW_ hHeld 10 (some 53) (bA6 11 25) rfl (by rintro w' ⟨s0, s1, s2, s3, s4, s5, s6, s7, s8, s9, s10, s11, s12, s13, s14, s15, s16, s17, s18, s19, s20, s21, s22, s23⟩; go_simp; with_reducible rfl) ?_
               refine one_ (i := 11) (N := some 54) (bA6 12 25) rfl rfl (one_of HT_.out (by kernel_rfl)) (by decide) (fun K hK => ?_)
               refine goes_ func90 (by kernel_rfl) rfl #[.slice A0 l0.length c0, .agg #[.bool ((rd_T65 l4 x38_2).f1.f0), .bool ((rd_T65 l4 x38_2).f1.f1), .int .u64 ((rd_T65 l4 x38_2).f1.f2.f0), .int .u64 ((rd_T65 l4 x38_2).f1.f2.f1), .int .u64 ((rd_T65 l4 x38_2).f1.f3.f0.f0), .int .u64 ((rd_T65 l4 x38_2).f1.f3.f0.f1), .int .u64 ((rd_T65 l4 x38_2).f1.f3.f1.f0), .int .u64 ((rd_T65 l4 x38_2).f1.f3.f1.f1), .int .i64 ((rd_T65 l4 x38_2).f1.f4)]] (by rfl) rfl rfl (by (try simp only [map_toArray, map_cons, map_nil]); first | done | rfl | (simp only [length_drop, length_take]; rfl)) ?_
               with_reducible refine (medlarref13_Open.calls k2 _ _ l0 ((rd_T65 l4 x38_2).f1.f0) ((rd_T65 l4 x38_2).f1.f1) ((rd_T65 l4 x38_2).f1.f2.f0) ((rd_T65 l4 x38_2).f1.f2.f1) ((rd_T65 l4 x38_2).f1.f3.f0.f0) ((rd_T65 l4 x38_2).f1.f3.f0.f1) ((rd_T65 l4 x38_2).f1.f3.f1.f0) ((rd_T65 l4 x38_2).f1.f3.f1.f1) ((rd_T65 l4 x38_2).f1.f4) true _ ?side1 ?side2 A26.out).mono ?_
               (case side1 => repeat (first | exact (Kd.C_below HR0.out HB.out) | (with_reducible refine Kd.C_alloc ?_ _) | (with_reducible refine Kd.C_drewN ?_ _) | (with_reducible refine Kd.C_drew ?_)))
               (case side2 => exact HC0.out)
               rintro e w41 ⟨rfl, hb⟩
               have HS11_ := (hb.cell (World.block_lt_of_cell? _ _ (hHeld.2.2.2.2.2.2.2.2.2.2.2.1))).trans (hHeld.2.2.2.2.2.2.2.2.2.2.2.1)
               have HS12_ := (hb.cell (World.block_lt_of_cell? _ _ (hHeld.2.2.2.2.2.2.2.2.2.2.2.2.1))).trans (hHeld.2.2.2.2.2.2.2.2.2.2.2.2.1)
               refine ⟨_, rfl, ?_⟩
               replace HO_11 := ak_ (Kd.R_below (rl_ HO_11) hb)
               replace BK323 := ak_ (kb_ (g := gb323) (o := .cells #[.int .u64 ((rd_T65 l4 x38_2).f0.f0), .int .u64 ((rd_T65 l4 x38_2).f0.f1), .bool ((rd_T65 l4 x38_2).f1.f0), .bool ((rd_T65 l4 x38_2).f1.f1), .int .u64 ((rd_T65 l4 x38_2).f1.f2.f0), .int .u64 ((rd_T65 l4 x38_2).f1.f2.f1), .int .u64 ((rd_T65 l4 x38_2).f1.f3.f0.f0), .int .u64 ((rd_T65 l4 x38_2).f1.f3.f0.f1), .int .u64 ((rd_T65 l4 x38_2).f1.f3.f1.f0), .int .u64 ((rd_T65 l4 x38_2).f1.f3.f1.f1), .int .i64 ((rd_T65 l4 x38_2).f1.f4)] 65 (0, 0)) (kl_ BK323) hb)
               replace HB := ak_ (bt_ (by repeat (first | (with_reducible first | exact HB.out | apply ba_ | apply bn_ | apply bd_ | refine below_set ?_ GE323.out) | exact HB.out)) hb)
               (try clear hb)
               (try clear hb2)
               (try clear hk)
               (try clear hi)
               refine hK.out _ _ ⟨(kc_ BK323.out 0).trans rfl, (kc_ BK323.out 1).trans rfl, (kc_ BK323.out 2).trans rfl, (kc_ BK323.out 3).trans rfl, (kc_ BK323.out 4).trans rfl, (kc_ BK323.out 5).trans rfl, (kc_ BK323.out 6).trans rfl, (kc_ BK323.out 7).trans rfl, (kc_ BK323.out 8).trans rfl, (kc_ BK323.out 9).trans rfl, (kc_ BK323.out 10).trans rfl, HS11_, HS12_, ((HB.out.cell (World.block_lt_of_cell? w _ hw326_0)).trans hw326_0), ((HB.out.cell (World.block_lt_of_cell? w _ hw326_1)).trans hw326_1), ((HB.out.cell (World.block_lt_of_cell? w _ hw326_2)).trans hw326_2), ((HB.out.cell (World.block_lt_of_cell? w _ hw326_3)).trans hw326_3), ((HB.out.cell (World.block_lt_of_cell? w _ hw326_4)).trans hw326_4), ((HB.out.cell (World.block_lt_of_cell? w _ hw326_5)).trans hw326_5), ((HB.out.cell (World.block_lt_of_cell? w _ hw326_6)).trans hw326_6), ((HB.out.cell (World.block_lt_of_cell? w _ hw326_7)).trans hw326_7), ((HB.out.cell (World.block_lt_of_cell? w _ hw326_8)).trans hw326_8), ((HB.out.cell (World.block_lt_of_cell? w _ hw326_9)).trans hw326_9), ((HB.out.cell (World.block_lt_of_cell? w _ hw326_10)).trans hw326_10)⟩ (fun hHeld => ?_)
               clear hK K
               refine norm_ (a' := ?_) ?_ ?_
               rotate_left
               ·show Act.put _ (some 54) _ = _
                simp only [Act.put, setIfInBounds_toArray, set_cons_zero, set_cons_succ, i64_w, i32_w]
                rfl
               refine pu_ HT_ 12 (some 55) (bA6 13 25) ?_
               refine pu_ HT_ 13 (some 56) (bA6 14 25) ?_
               refine pu_ HT_ 14 (some 57) (bA6 15 25) ?_
               refine pu_ HT_ 15 (some 58) (bA6 16 25) ?_
               refine pu_ HT_ 16 (some 59) (bA6 17 25) ?_
               refine pu_ HT_ 18 (some 61) #[true, true, true, true, true, true, true, true, true, true, true, true, true, true, true, true, true, false, true, false, false, false, false, false, false] ?_
               refine pu_ HT_ 19 (some 62) #[true, true, true, true, true, true, true, true, true, true, true, true, true, true, true, true, true, false, true, true, false, false, false, false, false] ?_
               refine pu_ HT_ 20 (some 63) #[true, true, true, true, true, true, true, true, true, true, true, true, true, true, true, true, true, false, true, true, true, false, false, false, false] ?_
               refine pu_ HT_ 21 (some 64) #[true, true, true, true, true, true, true, true, true, true, true, true, true, true, true, true, true, false, true, true, true, true, false, false, false] ?_
               refine tk_ HT_ HW_ hHeld 17 (some 60) (bA6 22 25) rfl (by rintro w' ⟨s0, s1, s2, s3, s4, s5, s6, s7, s8, s9, s10, s11, s12, s13, s14, s15, s16, s17, s18, s19, s20, s21, s22, s23⟩; go_simp; with_reducible rfl) ?_
               refine tk_ HT_ HW_ hHeld 22 (some 65) (bA6 23 25) rfl (by rintro w' ⟨s0, s1, s2, s3, s4, s5, s6, s7, s8, s9, s10, s11, s12, s13, s14, s15, s16, s17, s18, s19, s20, s21, s22, s23⟩; go_simp; with_reducible rfl) ?_
               refine pu_ HT_ 23 (some 66) (bA6 24 25) ?_
               refine pu_ HT_ 24 (some 67) (bA6 25 25) ?_
               refine done_ (done_of HT_.out (by kernel_rfl)) ?_
               try go_wp2
               go_roundg k2
               case measure => have := HJ6.out; have := HK2.out; omega
               case rel => exact ⟨(wrap64 (x38_2 + 1)), rf_, H', ⟨by have := HJ6.out; have := HK2.out; omega⟩, ⟨rl_ HO_11⟩, ⟨by repeat (first | (with_reducible first | exact HB.out | apply ba_ | apply bn_ | apply bd_ | refine below_set ?_ GE323.out) | exact HB.out)⟩⟩
             ·rw [if_neg c28] at H
              exact absurd H (by simp)
            ·replace c27 := Bool.eq_false_iff.mpr c27
             subst c27
             have H1 : (some 1) = some r := by rw [if_neg (show ¬ (false = true) by decide)] at H; exact H
             clear H
             have H := H1
             clear H1
             obtain rfl := Option.some.inj H
             have p322 : 0 ≤ (x38_2 : Int) := od_ (by first | (with_reducible assumption) | assumption)
             have q322 : x38_2 < (l4.length : Int) := od_ (by first | (with_reducible assumption) | assumption)
             obtain ⟨ad322, e322, hx322_0, hx322_1, hx322_2, hx322_3, hx322_4, hx322_5, hx322_6, hx322_7, hx322_8, hx322_9, hx322_10⟩ := at_T65 HR4.out x38_2 p322 q322
             cases e322
             replace hx322_0 := cx_ HB hx322_0
             replace hx322_1 := cx_ HB hx322_1
             replace hx322_2 := cx_ HB hx322_2
             replace hx322_3 := cx_ HB hx322_3
             replace hx322_4 := cx_ HB hx322_4
             replace hx322_5 := cx_ HB hx322_5
             replace hx322_6 := cx_ HB hx322_6
             replace hx322_7 := cx_ HB hx322_7
             replace hx322_8 := cx_ HB hx322_8
             replace hx322_9 := cx_ HB hx322_9
             replace hx322_10 := cx_ HB hx322_10
             replace p322 := eq_true p322
             replace q322 := eq_true q322
             try go_wp2_with (first | ((with_reducible refine gate_dst (N := 14) rfl ?_); (try (refine gate_guard (by rfl) ?_; dsimp only)); refine bx_ 14 #[.int .u64 0, .int .u64 0, .bool false, .bool false, .int .u64 0, .int .u64 0, .int .u64 0, .int .u64 0, .int .u64 0, .int .u64 0, .int .i64 0] 65 ?_; intro gb323 hg w42 hbox hb; replace HO_11 := ak_ (Kd.R_below (rl_ HO_11) hb); have BK323 := ak_ hbox; have GW323 := ak_ (gs_ hg HB); have GE323 := ak_ (gs_ hg HB); replace HB := ak_ (bt_ (bl_ HB) hb); clear hb hbox hg; have hcz43_0 := kq_ BK323.out 0 rfl; have hcz43_1 := kq_ BK323.out 1 rfl; have hcz43_2 := kq_ BK323.out 2 rfl; have hcz43_3 := kq_ BK323.out 3 rfl; have hcz43_4 := kq_ BK323.out 4 rfl; have hcz43_5 := kq_ BK323.out 5 rfl; have hcz43_6 := kq_ BK323.out 6 rfl; have hcz43_7 := kq_ BK323.out 7 rfl; have hcz43_8 := kq_ BK323.out 8 rfl; have hcz43_9 := kq_ BK323.out 9 rfl; have hcz43_10 := kq_ BK323.out 10 rfl; have hfz43_0 := kf_ BK323.out 0; have hfz43_1 := kf_ BK323.out 1; have hfz43_2 := kf_ BK323.out 2; have hfz43_3 := kf_ BK323.out 3; have hfz43_4 := kf_ BK323.out 4; have hfz43_5 := kf_ BK323.out 5; have hfz43_6 := kf_ BK323.out 6; have hfz43_7 := kf_ BK323.out 7; have hfz43_8 := kf_ BK323.out 8; have hfz43_9 := kf_ BK323.out 9; have hfz43_10 := kf_ BK323.out 10))
             obtain ⟨w44, e_⟩ : ∃ w_, sC_ gb323 0 [.int .u64 ((rd_T65 l4 x38_2).f0.f0), .int .u64 ((rd_T65 l4 x38_2).f0.f1), .bool ((rd_T65 l4 x38_2).f1.f0), .bool ((rd_T65 l4 x38_2).f1.f1), .int .u64 ((rd_T65 l4 x38_2).f1.f2.f0), .int .u64 ((rd_T65 l4 x38_2).f1.f2.f1), .int .u64 ((rd_T65 l4 x38_2).f1.f3.f0.f0), .int .u64 ((rd_T65 l4 x38_2).f1.f3.f0.f1), .int .u64 ((rd_T65 l4 x38_2).f1.f3.f1.f0), .int .u64 ((rd_T65 l4 x38_2).f1.f3.f1.f1), .int .i64 ((rd_T65 l4 x38_2).f1.f4)] w42 = w_ := ⟨_, rfl⟩
             have n0_ : Aside0 (Kd.R k39 39 w44 w.heap.size (fun _ => True) v319 t317) := ⟨Kd.R_mono (sC_far (Kd.R_types HO_11.out BK323.out (by decide)) (fun _ hk => hk.2) e_) (fun _ hk => trivial)⟩
             have n1_ : Aside0 (w44.heap[gb323]? = some (.cells #[.int .u64 ((rd_T65 l4 x38_2).f0.f0), .int .u64 ((rd_T65 l4 x38_2).f0.f1), .bool ((rd_T65 l4 x38_2).f1.f0), .bool ((rd_T65 l4 x38_2).f1.f1), .int .u64 ((rd_T65 l4 x38_2).f1.f2.f0), .int .u64 ((rd_T65 l4 x38_2).f1.f2.f1), .int .u64 ((rd_T65 l4 x38_2).f1.f3.f0.f0), .int .u64 ((rd_T65 l4 x38_2).f1.f3.f0.f1), .int .u64 ((rd_T65 l4 x38_2).f1.f3.f1.f0), .int .u64 ((rd_T65 l4 x38_2).f1.f3.f1.f1), .int .i64 ((rd_T65 l4 x38_2).f1.f4)] 65 (0, 0))) := ⟨sC_blk BK323.out rfl e_⟩
             have n2_ : Aside0 (Below w.heap.size w w44) := ⟨sC_below GE323.out HB.out e_⟩
             (try clear HO_11)
             (try clear BK323)
             (try clear HB)
             simp only [sC_, Nat.reduceAdd] at e_
             rw [e_]
             clear e_
             have HO_11 := n0_
             have BK323 := n1_
             have HB := n2_
             clear n0_ n1_ n2_
             replace HO_11 := ak_ (Kd.R_drew HO_11.out)
             replace BK323 := ak_ (kd_ BK323.out)
             replace HB := ak_ (bd_ HB.out)
             obtain ⟨Ao46, co46, eo46⟩ := Kd.R_slice HO_11.out
             (first | subst eo46 | (injection eo46 with f1_ f2_ f3_; have f4_ := f1_.symm; have f5_ := f3_.symm; clear f1_ f2_ f3_; subst f4_; subst f5_))
             have p324 : 0 ≤ (x38_2 : Int) := od_ (by first | (with_reducible assumption) | assumption)
             have q324 : x38_2 < (t317.length : Int) := od_ (by first | (with_reducible assumption) | assumption)
             obtain ⟨ad324, e324, hx324_0, hx324_1⟩ := at_T39 (Kd.R_reads' HO_11.out).2.2 x38_2 p324 q324
             cases e324
             replace p324 := eq_true p324
             replace q324 := eq_true q324
             refine start_ (n := 25) (S := fun w' => w'.cell? ⟨gb323, 0, none⟩ = some (.int .u64 ((rd_T65 l4 x38_2).f0.f0)) ∧ w'.cell? ⟨gb323, 1, none⟩ = some (.int .u64 ((rd_T65 l4 x38_2).f0.f1)) ∧ w'.cell? ⟨gb323, 2, none⟩ = some (.bool ((rd_T65 l4 x38_2).f1.f0)) ∧ w'.cell? ⟨gb323, 3, none⟩ = some (.bool ((rd_T65 l4 x38_2).f1.f1)) ∧ w'.cell? ⟨gb323, 4, none⟩ = some (.int .u64 ((rd_T65 l4 x38_2).f1.f2.f0)) ∧ w'.cell? ⟨gb323, 5, none⟩ = some (.int .u64 ((rd_T65 l4 x38_2).f1.f2.f1)) ∧ w'.cell? ⟨gb323, 6, none⟩ = some (.int .u64 ((rd_T65 l4 x38_2).f1.f3.f0.f0)) ∧ w'.cell? ⟨gb323, 7, none⟩ = some (.int .u64 ((rd_T65 l4 x38_2).f1.f3.f0.f1)) ∧ w'.cell? ⟨gb323, 8, none⟩ = some (.int .u64 ((rd_T65 l4 x38_2).f1.f3.f1.f0)) ∧ w'.cell? ⟨gb323, 9, none⟩ = some (.int .u64 ((rd_T65 l4 x38_2).f1.f3.f1.f1)) ∧ w'.cell? ⟨gb323, 10, none⟩ = some (.int .i64 ((rd_T65 l4 x38_2).f1.f4)) ∧ w'.cell? (ad324.add ((x38_2).toNat * 2)) = some (.int .u64 ((rd_T39 t317 x38_2).f0)) ∧ w'.cell? ⟨(ad324.add ((x38_2).toNat * 2)).block, (ad324.add ((x38_2).toNat * 2)).off + 1, none⟩ = some (.int .u64 ((rd_T39 t317 x38_2).f1))) (ds := []) #[false, false, false, false, false, false, false, false, false, false, false, false, false, false, false, false, false, false, false, false, false, false, false, false, false] (by kernel_rfl) rfl rfl ⟨(kc_ BK323.out 0).trans rfl, (kc_ BK323.out 1).trans rfl, (kc_ BK323.out 2).trans rfl, (kc_ BK323.out 3).trans rfl, (kc_ BK323.out 4).trans rfl, (kc_ BK323.out 5).trans rfl, (kc_ BK323.out 6).trans rfl, (kc_ BK323.out 7).trans rfl, (kc_ BK323.out 8).trans rfl, (kc_ BK323.out 9).trans rfl, (kc_ BK323.out 10).trans rfl, hx324_0, hx324_1⟩ (fun hHeld => ?_); refine with_tabW medlarref14_Check.tab7 medlarref14_Check.bits7 (fun HT_ HW_ => ?_)
             generalize w44.drew = w45 at HO_11 BK323 HB hx324_0 hx324_1 hHeld ⊢
             refine pu_ HT_ 0 (some 43) (bA6 1 25) ?_
             refine pu_ HT_ 2 (some 45) #[true, false, true, false, false, false, false, false, false, false, false, false, false, false, false, false, false, false, false, false, false, false, false, false, false] ?_
             refine pu_ HT_ 3 (some 46) #[true, false, true, true, false, false, false, false, false, false, false, false, false, false, false, false, false, false, false, false, false, false, false, false, false] ?_
             refine pu_ HT_ 4 (some 47) #[true, false, true, true, true, false, false, false, false, false, false, false, false, false, false, false, false, false, false, false, false, false, false, false, false] ?_
             refine tk_ HT_ HW_ hHeld 1 (some 44) (bA6 5 25) rfl (by rintro w' ⟨s0, s1, s2, s3, s4, s5, s6, s7, s8, s9, s10, s11, s12⟩; go_simp; with_reducible rfl) ?_
             refine tk_ HT_ HW_ hHeld 5 (some 48) (bA6 6 25) rfl (by rintro w' ⟨s0, s1, s2, s3, s4, s5, s6, s7, s8, s9, s10, s11, s12⟩; go_simp; with_reducible rfl) ?_
             refine pu_ HT_ 6 (some 49) (bA6 7 25) ?_
             refine pu_ HT_ 7 (some 50) (bA6 8 25) ?_
             refine pu_ HT_ 8 (some 51) (bA6 9 25) ?_
             refine pu_ HT_ 9 (some 52) (bA6 10 25) ?_
             refine tk_ HT_ HW_ hHeld 10 (some 53) (bA6 11 25) rfl (by rintro w' ⟨s0, s1, s2, s3, s4, s5, s6, s7, s8, s9, s10, s11, s12⟩; go_simp; with_reducible rfl) ?_
             refine one_ (i := 11) (N := some 54) (bA6 12 25) rfl rfl (one_of HT_.out (by kernel_rfl)) (by decide) (fun K hK => ?_)
             refine goes_ func90 (by kernel_rfl) rfl #[.slice A0 l0.length c0, .agg #[.bool ((rd_T65 l4 x38_2).f1.f0), .bool ((rd_T65 l4 x38_2).f1.f1), .int .u64 ((rd_T65 l4 x38_2).f1.f2.f0), .int .u64 ((rd_T65 l4 x38_2).f1.f2.f1), .int .u64 ((rd_T65 l4 x38_2).f1.f3.f0.f0), .int .u64 ((rd_T65 l4 x38_2).f1.f3.f0.f1), .int .u64 ((rd_T65 l4 x38_2).f1.f3.f1.f0), .int .u64 ((rd_T65 l4 x38_2).f1.f3.f1.f1), .int .i64 ((rd_T65 l4 x38_2).f1.f4)]] (by rfl) rfl rfl (by (try simp only [map_toArray, map_cons, map_nil]); first | done | rfl | (simp only [length_drop, length_take]; rfl)) ?_
             with_reducible refine (medlarref13_Open.calls k2 _ _ l0 ((rd_T65 l4 x38_2).f1.f0) ((rd_T65 l4 x38_2).f1.f1) ((rd_T65 l4 x38_2).f1.f2.f0) ((rd_T65 l4 x38_2).f1.f2.f1) ((rd_T65 l4 x38_2).f1.f3.f0.f0) ((rd_T65 l4 x38_2).f1.f3.f0.f1) ((rd_T65 l4 x38_2).f1.f3.f1.f0) ((rd_T65 l4 x38_2).f1.f3.f1.f1) ((rd_T65 l4 x38_2).f1.f4) false _ ?side1 ?side2 A26.out).mono ?_
             (case side1 => repeat (first | exact (Kd.C_below HR0.out HB.out) | (with_reducible refine Kd.C_alloc ?_ _) | (with_reducible refine Kd.C_drewN ?_ _) | (with_reducible refine Kd.C_drew ?_)))
             (case side2 => exact HC0.out)
             rintro e w47 ⟨rfl, hb⟩
             have HS11_ := (hb.cell (World.block_lt_of_cell? _ _ (hHeld.2.2.2.2.2.2.2.2.2.2.2.1))).trans (hHeld.2.2.2.2.2.2.2.2.2.2.2.1)
             have HS12_ := (hb.cell (World.block_lt_of_cell? _ _ (hHeld.2.2.2.2.2.2.2.2.2.2.2.2))).trans (hHeld.2.2.2.2.2.2.2.2.2.2.2.2)
             refine ⟨_, rfl, ?_⟩
             replace HO_11 := ak_ (Kd.R_below (rl_ HO_11) hb)
             replace BK323 := ak_ (kb_ (g := gb323) (o := .cells #[.int .u64 ((rd_T65 l4 x38_2).f0.f0), .int .u64 ((rd_T65 l4 x38_2).f0.f1), .bool ((rd_T65 l4 x38_2).f1.f0), .bool ((rd_T65 l4 x38_2).f1.f1), .int .u64 ((rd_T65 l4 x38_2).f1.f2.f0), .int .u64 ((rd_T65 l4 x38_2).f1.f2.f1), .int .u64 ((rd_T65 l4 x38_2).f1.f3.f0.f0), .int .u64 ((rd_T65 l4 x38_2).f1.f3.f0.f1), .int .u64 ((rd_T65 l4 x38_2).f1.f3.f1.f0), .int .u64 ((rd_T65 l4 x38_2).f1.f3.f1.f1), .int .i64 ((rd_T65 l4 x38_2).f1.f4)] 65 (0, 0)) (kl_ BK323) hb)
             replace HB := ak_ (bt_ (by repeat (first | (with_reducible first | exact HB.out | apply ba_ | apply bn_ | apply bd_ | refine below_set ?_ GE323.out) | exact HB.out)) hb)
             (try clear hb)
             (try clear hb2)
             (try clear hk)
             (try clear hi)
             refine hK.out _ _ ⟨(kc_ BK323.out 0).trans rfl, (kc_ BK323.out 1).trans rfl, (kc_ BK323.out 2).trans rfl, (kc_ BK323.out 3).trans rfl, (kc_ BK323.out 4).trans rfl, (kc_ BK323.out 5).trans rfl, (kc_ BK323.out 6).trans rfl, (kc_ BK323.out 7).trans rfl, (kc_ BK323.out 8).trans rfl, (kc_ BK323.out 9).trans rfl, (kc_ BK323.out 10).trans rfl, HS11_, HS12_⟩ (fun hHeld => ?_)
             clear hK K
             refine norm_ (a' := ?_) ?_ ?_
             rotate_left
             ·show Act.put _ (some 54) _ = _
              simp only [Act.put, setIfInBounds_toArray, set_cons_zero, set_cons_succ, i64_w, i32_w]
              rfl
             refine pu_ HT_ 12 (some 55) (bA6 13 25) ?_
             refine pu_ HT_ 13 (some 56) (bA6 14 25) ?_
             refine pu_ HT_ 14 (some 57) (bA6 15 25) ?_
             refine pure_ (i := 15) (N := some 58) (v := undef) (a' := ?_) (bA6 16 25) rfl rfl (any_of HT_.out (by kernel_rfl)) (fun _ _ _ h => h) (Or.inr ⟨by rfl, rfl⟩) ?_ ?_
             rotate_left
             ·simp only [Act.put, setIfInBounds_toArray, set_cons_zero, set_cons_succ, i64_w, i32_w]
              rfl
             refine pure_ (i := 16) (N := some 59) (v := undef) (a' := ?_) (bA6 17 25) rfl rfl (any_of HT_.out (by kernel_rfl)) (fun _ _ _ h => h) (Or.inr ⟨by rfl, rfl⟩) ?_ ?_
             rotate_left
             ·simp only [Act.put, setIfInBounds_toArray, set_cons_zero, set_cons_succ, i64_w, i32_w]
              rfl
             refine pure_ (i := 17) (N := some 60) (v := undef) (a' := ?_) (bA6 18 25) rfl rfl (any_of HT_.out (by kernel_rfl)) (fun _ _ _ h => h) (Or.inr ⟨by rfl, rfl⟩) ?_ ?_
             rotate_left
             ·simp only [Act.put, setIfInBounds_toArray, set_cons_zero, set_cons_succ, i64_w, i32_w]
              rfl
             refine pure_ (i := 18) (N := some 61) (v := undef) (a' := ?_) (bA6 19 25) rfl rfl (any_of HT_.out (by kernel_rfl)) (fun _ _ _ h => h) (Or.inr ⟨by rfl, rfl⟩) ?_ ?_
             rotate_left
             ·simp only [Act.put, setIfInBounds_toArray, set_cons_zero, set_cons_succ, i64_w, i32_w]
              rfl
             refine pure_ (i := 19) (N := some 62) (v := undef) (a' := ?_) (bA6 20 25) rfl rfl (any_of HT_.out (by kernel_rfl)) (fun _ _ _ h => h) (Or.inr ⟨by rfl, rfl⟩) ?_ ?_
             rotate_left
             ·simp only [Act.put, setIfInBounds_toArray, set_cons_zero, set_cons_succ, i64_w, i32_w]
              rfl
             refine pure_ (i := 20) (N := some 63) (v := undef) (a' := ?_) (bA6 21 25) rfl rfl (any_of HT_.out (by kernel_rfl)) (fun _ _ _ h => h) (Or.inr ⟨by rfl, rfl⟩) ?_ ?_
             rotate_left
             ·simp only [Act.put, setIfInBounds_toArray, set_cons_zero, set_cons_succ, i64_w, i32_w]
              rfl
             refine pure_ (i := 21) (N := some 64) (v := undef) (a' := ?_) (bA6 22 25) rfl rfl (any_of HT_.out (by kernel_rfl)) (fun _ _ _ h => h) (Or.inr ⟨by rfl, rfl⟩) ?_ ?_
             rotate_left
             ·simp only [Act.put, setIfInBounds_toArray, set_cons_zero, set_cons_succ, i64_w, i32_w]
              rfl
             refine pure_ (i := 22) (N := some 65) (v := undef) (a' := ?_) (bA6 23 25) rfl rfl (any_of HT_.out (by kernel_rfl)) (fun _ _ _ h => h) (Or.inr ⟨by rfl, rfl⟩) ?_ ?_
             rotate_left
             ·simp only [Act.put, setIfInBounds_toArray, set_cons_zero, set_cons_succ, i64_w, i32_w]
              rfl
             refine pure_ (i := 23) (N := some 66) (v := undef) (a' := ?_) (bA6 24 25) rfl rfl (any_of HT_.out (by kernel_rfl)) (fun _ _ _ h => h) (Or.inr ⟨by rfl, rfl⟩) ?_ ?_
             rotate_left
             ·simp only [Act.put, setIfInBounds_toArray, set_cons_zero, set_cons_succ, i64_w, i32_w]
              rfl
             refine pu_ HT_ 24 (some 67) (bA6 25 25) ?_
             refine done_ (done_of HT_.out (by kernel_rfl)) ?_
             try go_wp2
             go_ret
             exact ea_ (by repeat (first | (with_reducible first | exact HB.out | apply ba_ | apply bn_ | apply bd_ | refine below_set ?_ GE323.out) | exact HB.out))
          ·rw [if_neg c19] at H
           exact absurd H (by simp)
         ·rw [if_neg c18] at H
          exact absurd H (by simp)
        ·rw [if_neg c17] at H
         exact absurd H (by simp)
       ·rw [if_neg c16] at H
        have c16b0 := decide_eq_false c16
        clear c16
        obtain rfl := Option.some.inj H
        go_wp2
        go_ret
        exact ea_ (bl_ HB)
def medlarref17_put.l0 : Nat → Int → List Int → Int → Int → Option (List Int)
  | 0, _, _, _, _ => none
  | k + 1, x0, x5, x6, x7 => if x7 < x6 then (if x5.length < 140737488355328 then (medlarref17_put.l0 k (IntKind.u64.wrap (Int.tdiv x0 256)) (x5 ++ [(Int.tmod x0 256) % 256]) x6 (wrap64 (x7 + 1))) else (none)) else (some x5)
def medlarref17_put.f (k : Nat) (a0 : Int) (a1 : Int) : Option (List Int) := medlarref17_put.l0 k a0 ([] : List Int) a1 0
theorem medlarref17_put.mono_l : ∀ k, (∀ y0 y1 y2 y3, LeO (medlarref17_put.l0 k y0 y1 y2 y3) (medlarref17_put.l0 (k + 1) y0 y1 y2 y3))
  | 0 => fun _ _ _ _ r h => by simp [medlarref17_put.l0] at h
  | k + 1 => by
   have ih0 := medlarref17_put.mono_l k
   ·intro y0 y1 y2 y3
    unfold medlarref17_put.l0
    repeat' first
    | (with_reducible exact ih0 _ _ _ _)
    | (with_reducible exact LeO.refl _)
    | (with_reducible exact LeO.none _)
    | (with_reducible refine LeO.ite ?_ ?_)
    | (with_reducible refine LeO.bind ?_ (fun _ => ?_))
    | exact ih0 _ _ _ _
    | exact LeO.none _
    | refine LeO.ite ?_ ?_
    | refine LeO.bind ?_ (fun _ => ?_)
theorem medlarref17_put.mono : ∀ a0 a1 k, LeO (medlarref17_put.f k a0 a1) (medlarref17_put.f (k + 1) a0 a1) := by
  intro a0 a1 k
  have ih0 := medlarref17_put.mono_l k
  unfold medlarref17_put.f
  repeat' first
    | (with_reducible exact ih0 _ _ _ _)
    | (with_reducible exact LeO.refl _)
    | (with_reducible exact LeO.none _)
    | (with_reducible refine LeO.ite ?_ ?_)
    | (with_reducible refine LeO.bind ?_ (fun _ => ?_))
    | exact ih0 _ _ _ _
    | exact LeO.none _
    | refine LeO.ite ?_ ?_
    | refine LeO.bind ?_ (fun _ => ?_)
set_option maxHeartbeats 8000000 in
set_option maxRecDepth 100000 in
theorem medlarref17_put.calls (k : Nat) (a0 : Int) (a1 : Int) (r : List Int) (w : World) (h : medlarref17_put.f k a0 a1 = some r) :
   Calls Try.prog 68 #[.int .u64 a0, .int .i64 a1] w fun e w' => ∃ v0_ : Value, e = .returned (v0_) ∧ Kd.R (Kd.int .u8) 5 w' w.heap.size (fun _ => True) v0_ r ∧ Below w.heap.size w w' := by
  have HB := ak_ (Below.refl w.heap.size w)
  have H : (medlarref17_put.l0 k a0 ([] : List Int) a1 0) = some r := h
  clear h
  have H' := ak_ H
  clear H
  go_enter func68, ntmps68
  go_wp2
  go_loopg [0, 5, 7] k (fun kq v0 v5 v7 w' => ∃ (x0_1 : Int) (x5_1 : List Int) (x7_1 : Int), v0 = .int .u64 x0_1 ∧ v7 = .int .i64 x7_1 ∧ Aside0 (medlarref17_put.l0 kq x0_1 x5_1 a1 x7_1 = some r) ∧ Aside0 (kq ≤ k) ∧ Aside0 (Kd.R (Kd.int .u8) 5 w' w.heap.size (fun _ => True) v5 x5_1) ∧ Aside0 (Below w.heap.size w w'))
  case atStart => exact ⟨(a0), (([] : List Int)), (0), rf_, rf_, H', ⟨Nat.le_refl _⟩, ⟨by first | exact Kd.R_nil _ _ _ _ _ | exact Kd.N_nil _ _ _ _ _ | exact Kd.V_nil _ _ _ _ _ | exact Kd.Q_nil _ _ _ _ _ | exact Kd.S_nil _ _ _ _ _⟩, ⟨bl_ HB⟩⟩
  case round =>
   clear H'
   try clear p2
   obtain ⟨x0_1, x5_1, x7_1, rfl, rfl, HA, HK1, HO_5, HB⟩ := hrel
   cases gk with
   | zero => exact absurd HA.out (by simp [medlarref17_put.l0])
   | succ k1 =>
    have H := HA.out
    clear HA
    simp only [medlarref17_put.l0] at H
    by_cases c3 : x7_1 < a1
    ·rw [if_pos c3] at H
     have c3b0 := decide_eq_true c3
     clear c3
     by_cases c4 : x5_1.length < 140737488355328
     ·rw [if_pos c4] at H
      have LMc4 := ak_ c4
      clear c4
      obtain ⟨y327, hy327⟩ : ∃ y_ : List Int, y_ = (x5_1 ++ [(Int.tmod x0_1 256) % 256]) := ⟨_, rfl⟩
      replace H : (medlarref17_put.l0 k1 (IntKind.u64.wrap (Int.tdiv x0_1 256)) y327 a1 (wrap64 (x7_1 + 1))) = some r := by first | (rw [hy327]; with_reducible exact H) | (have H2_ := (Option.bind_some _ _).symm.trans H; rw [hy327]; with_reducible exact H2_) | (have H2_ := (Option.bind_some _ _).symm.trans H; with_reducible exact H2_) | with_reducible exact H | (rw [hy327]; exact H) | exact H
      have Ny327 := ak_ hy327
      clear hy327
      have H' := ak_ H
      clear H
      go_wp2_with (first | ((with_reducible refine gate_builtin (b := .append) (xs := #[.tmp 9, .tmp 13]) rfl ?_); at_builtin; refine Kd.R_append (Kd.int .u8) (w0 := w) w.heap.size rfl (.tmp 9) (.tmp 13) 35 5 (.int .u8 0) 1 rfl underlying35 info5 rfl (by decide) (by omega) u5 x5_1 ((Int.tmod x0_1 256) % 256) [.int .u8 ((Int.tmod x0_1 256) % 256)] (fun _ => True) (fun _ => False) rfl rfl ?aP (fun _ hk => hk.elim) ?aF ?aO ?aB ?aS ?aL ?_; (case aP => exact rfl); (case aB => exact (bl_ HB)); (case aF => exact (fun _ _ => trivial)); (case aO => exact (rl_ HO_5)); (case aS => exact (bz_ (bl_ HB))); (case aL => have := LMc4.out; omega); intro v328 w5 ho hb hg hat; rw [← Ny327.out] at ho; replace HB := ak_ hb; have HO329 := ak_ ho; clear HO_5; clear ho hb hg hat))
      go_roundg k1
      case measure => have := HK1.out; omega
      case rel => exact ⟨(IntKind.u64.wrap (Int.tdiv x0_1 256)), (y327), (wrap64 (x7_1 + 1)), rf_, rf_, H', ⟨by have := HK1.out; omega⟩, ⟨rl_ HO329⟩, ⟨bl_ HB⟩⟩
     ·rw [if_neg c4] at H
      exact absurd H (by simp)
    ·rw [if_neg c3] at H
     have c3b0 := decide_eq_false c3
     clear c3
     obtain rfl := Option.some.inj H
     go_wp2
     go_ret
     exact ⟨_, by first | rfl | (simp <;> rfl) | (simp [*] <;> rfl), by (with_reducible repeat (first | apply Kd.R_alloc | apply Kd.R_drewN | apply Kd.R_drew)); exact HO_5.out, bl_ HB⟩
mutual
def medlarref03_Octets.l0 : Nat → List Int → List Int → Int → Option (List Int)
  | 0, _, _, _ => none
  | k + 1, x3, x6, x7 => if x7 < 2 then (if 0 ≤ x7 then (if x7 < 2 then (medlarref03_Octets.l1 k x3 (rd x6 x7) x6 x7 0) else (none)) else (none)) else (some x3)
def medlarref03_Octets.l1 : Nat → List Int → Int → List Int → Int → Int → Option (List Int)
  | 0, _, _, _, _, _ => none
  | k + 1, x3, x5, x6, x7, x10 => if x10 < 8 then (if x3.length < 140737488355328 then (medlarref03_Octets.l1 k (x3 ++ [(Int.tmod x5 256) % 256]) (IntKind.u64.wrap (Int.tdiv x5 256)) x6 x7 (wrap64 (x10 + 1))) else (none)) else (medlarref03_Octets.l0 k x3 x6 (wrap64 (x7 + 1)))
end
def medlarref03_Octets.g (k : Nat) (l0 : List Int) : Option (List Int) := medlarref03_Octets.l0 k ([] : List Int) l0 0
def medlarref03_Octets.f (k : Nat) (a0_0 : Int) (a0_1 : Int) : Option (List Int) := medlarref03_Octets.g k [a0_0, a0_1]
theorem medlarref03_Octets.mono_l : ∀ k, (∀ y0 y1 y2, LeO (medlarref03_Octets.l0 k y0 y1 y2) (medlarref03_Octets.l0 (k + 1) y0 y1 y2)) ∧ (∀ y0 y1 y2 y3 y4, LeO (medlarref03_Octets.l1 k y0 y1 y2 y3 y4) (medlarref03_Octets.l1 (k + 1) y0 y1 y2 y3 y4))
  | 0 => ⟨fun _ _ _ r h => by simp [medlarref03_Octets.l0] at h, fun _ _ _ _ _ r h => by simp [medlarref03_Octets.l1] at h⟩
  | k + 1 => by
   obtain ⟨ih0, ih1⟩ := medlarref03_Octets.mono_l k
   refine ⟨?_, ?_⟩
   ·intro y0 y1 y2
    unfold medlarref03_Octets.l0
    repeat' first
    | (with_reducible exact ih0 _ _ _)
    | (with_reducible exact ih1 _ _ _ _ _)
    | (with_reducible exact LeO.refl _)
    | (with_reducible exact LeO.none _)
    | (with_reducible refine LeO.ite ?_ ?_)
    | (with_reducible refine LeO.bind ?_ (fun _ => ?_))
    | exact ih0 _ _ _
    | exact ih1 _ _ _ _ _
    | exact LeO.none _
    | refine LeO.ite ?_ ?_
    | refine LeO.bind ?_ (fun _ => ?_)
   ·intro y0 y1 y2 y3 y4
    unfold medlarref03_Octets.l1
    repeat' first
    | (with_reducible exact ih0 _ _ _)
    | (with_reducible exact ih1 _ _ _ _ _)
    | (with_reducible exact LeO.refl _)
    | (with_reducible exact LeO.none _)
    | (with_reducible refine LeO.ite ?_ ?_)
    | (with_reducible refine LeO.bind ?_ (fun _ => ?_))
    | exact ih0 _ _ _
    | exact ih1 _ _ _ _ _
    | exact LeO.none _
    | refine LeO.ite ?_ ?_
    | refine LeO.bind ?_ (fun _ => ?_)
theorem medlarref03_Octets.mono : ∀ a0 a1 k, LeO (medlarref03_Octets.f k a0 a1) (medlarref03_Octets.f (k + 1) a0 a1) := by
  intro a0 a1 k
  obtain ⟨ih0, ih1⟩ := medlarref03_Octets.mono_l k
  unfold medlarref03_Octets.f medlarref03_Octets.g
  repeat' first
    | (with_reducible exact ih0 _ _ _)
    | (with_reducible exact ih1 _ _ _ _ _)
    | (with_reducible exact LeO.refl _)
    | (with_reducible exact LeO.none _)
    | (with_reducible refine LeO.ite ?_ ?_)
    | (with_reducible refine LeO.bind ?_ (fun _ => ?_))
    | exact ih0 _ _ _
    | exact ih1 _ _ _ _ _
    | exact LeO.none _
    | refine LeO.ite ?_ ?_
    | refine LeO.bind ?_ (fun _ => ?_)
set_option maxHeartbeats 8000000 in
set_option maxRecDepth 100000 in
theorem medlarref03_Octets.calls (k : Nat) (a0_0 : Int) (a0_1 : Int) (r : List Int) (w : World) (h : medlarref03_Octets.f k a0_0 a0_1 = some r) :
   Calls Try.prog 76 #[.agg #[.int .u64 a0_0, .int .u64 a0_1]] w fun e w' => ∃ v0_ : Value, e = .returned (v0_) ∧ Kd.R (Kd.int .u8) 5 w' w.heap.size (fun _ => True) v0_ r ∧ Below w.heap.size w w' := by
  have hu_b := underlying25
  have HB := ak_ (Below.refl w.heap.size w)
  have H : (medlarref03_Octets.l0 k ([] : List Int) [a0_0, a0_1] 0) = some r := h
  clear h
  have H' := ak_ H
  clear H
  go_enter func76, ntmps76
  go_wp2_with (first | ((with_reducible refine gate_dst (N := 1) rfl ?_); refine bx_ 1 #[.int .u64 a0_0, .int .u64 a0_1] 25 ?_; intro gb0 hg wq hbox hb; have m_ := ak_ (bt_ HB.out hb); have hzb0 : wq.cell? ⟨gb0, 0, none⟩ = some (.int .u64 a0_0) := (kc_ hbox 0).trans rfl; have hzb1 : wq.cell? ⟨gb0, 1, none⟩ = some (.int .u64 a0_1) := (kc_ hbox 1).trans rfl; clear HB; have HB := m_; clear m_ hb hg))
  go_loopg [3, 7] k (fun kq v3 v7 w' => ∃ (x3_1 : List Int) (x7_1 : Int), v7 = .int .i64 x7_1 ∧ Aside0 (medlarref03_Octets.l0 kq x3_1 [a0_0, a0_1] x7_1 = some r) ∧ Aside0 (kq ≤ k) ∧ Aside0 (Kd.R (Kd.int .u8) 5 w' w.heap.size (fun _ => True) v3 x3_1) ∧ Aside0 (Below w.heap.size w w'))
  case atStart => exact ⟨(([] : List Int)), (0), rf_, H', ⟨Nat.le_refl _⟩, ⟨by first | exact Kd.R_nil _ _ _ _ _ | exact Kd.N_nil _ _ _ _ _ | exact Kd.V_nil _ _ _ _ _ | exact Kd.Q_nil _ _ _ _ _ | exact Kd.S_nil _ _ _ _ _⟩, ⟨bl_ HB⟩⟩
  case round =>
   clear H'
   obtain ⟨x3_1, x7_1, rfl, HA, HK1, HO_3, HB⟩ := hrel
   cases gk with
   | zero => exact absurd HA.out (by simp [medlarref03_Octets.l0])
   | succ k1 =>
    have H := HA.out
    clear HA
    simp only [medlarref03_Octets.l0] at H
    by_cases c2 : x7_1 < 2
    ·rw [if_pos c2] at H
     have c2b0 := decide_eq_true c2
     clear c2
     by_cases c3 : 0 ≤ x7_1
     ·rw [if_pos c3] at H
      have c3b0 := decide_eq_true c3
      clear c3
      by_cases c4 : x7_1 < 2
      ·rw [if_pos c4] at H
       have c4b0 := decide_eq_true c4
       clear c4
       have H' := ak_ H
       clear H
       have p330 : 0 ≤ (x7_1 : Int) := od_ (by first | (with_reducible assumption) | assumption)
       have q330 : x7_1 < 2 := od_ (by first | (with_reducible assumption) | assumption)
       have hx330_0 := arr_index2 underlying25 (by kernel_rfl) (by kernel_rfl) a0_0 a0_1 x7_1 p330 q330
       replace p330 := eq_true p330
       replace q330 := eq_true q330
       go_wp2
       go_loopg [3, 5, 10] k1 (fun kq v3 v5 v10 w' => ∃ (x3_2 : List Int) (x5_2 : Int) (x10_2 : Int), v5 = .int .u64 x5_2 ∧ v10 = .int .i64 x10_2 ∧ Aside0 (medlarref03_Octets.l1 kq x3_2 x5_2 [a0_0, a0_1] x7_1 x10_2 = some r) ∧ Aside0 (kq ≤ k1) ∧ Aside0 (Kd.R (Kd.int .u8) 5 w' w.heap.size (fun _ => True) v3 x3_2) ∧ Aside0 (Below w.heap.size w w'))
       case atStart => exact ⟨(x3_1), (rd [a0_0, a0_1] x7_1), (0), rf_, rf_, H', ⟨Nat.le_refl _⟩, ⟨rl_ HO_3⟩, ⟨bl_ HB⟩⟩
       case round =>
        clear H'
        try clear c2
        try clear c2b0
        try clear p2
        try clear c3
        try clear c3b0
        try clear p3
        try clear q3
        try clear hx3
        try clear c4
        try clear c4b0
        try clear hx330_0
        try clear p330
        try clear q330
        obtain ⟨x3_2, x5_2, x10_2, rfl, rfl, HA, HK2, HO_3, HB⟩ := hrel
        cases gk with
        | zero => exact absurd HA.out (by simp [medlarref03_Octets.l1])
        | succ k2 =>
         have H := HA.out
         clear HA
         simp only [medlarref03_Octets.l1] at H
         by_cases c5 : x10_2 < 8
         ·rw [if_pos c5] at H
          have c5b0 := decide_eq_true c5
          clear c5
          by_cases c6 : x3_2.length < 140737488355328
          ·rw [if_pos c6] at H
           have LMc6 := ak_ c6
           clear c6
           obtain ⟨y331, hy331⟩ : ∃ y_ : List Int, y_ = (x3_2 ++ [(Int.tmod x5_2 256) % 256]) := ⟨_, rfl⟩
           replace H : (medlarref03_Octets.l1 k2 y331 (IntKind.u64.wrap (Int.tdiv x5_2 256)) [a0_0, a0_1] x7_1 (wrap64 (x10_2 + 1))) = some r := by first | (rw [hy331]; with_reducible exact H) | (have H2_ := (Option.bind_some _ _).symm.trans H; rw [hy331]; with_reducible exact H2_) | (have H2_ := (Option.bind_some _ _).symm.trans H; with_reducible exact H2_) | with_reducible exact H | (rw [hy331]; exact H) | exact H
           have Ny331 := ak_ hy331
           clear hy331
           have H' := ak_ H
           clear H
           go_wp2_with (first | ((with_reducible refine gate_builtin (b := .append) (xs := #[.tmp 12, .tmp 16]) rfl ?_); at_builtin; refine Kd.R_append (Kd.int .u8) (w0 := w) w.heap.size rfl (.tmp 12) (.tmp 16) 35 5 (.int .u8 0) 1 rfl underlying35 info5 rfl (by decide) (by omega) u3 x3_2 ((Int.tmod x5_2 256) % 256) [.int .u8 ((Int.tmod x5_2 256) % 256)] (fun _ => True) (fun _ => False) rfl rfl ?aP (fun _ hk => hk.elim) ?aF ?aO ?aB ?aS ?aL ?_; (case aP => exact rfl); (case aB => exact (bl_ HB)); (case aF => exact (fun _ _ => trivial)); (case aO => exact (rl_ HO_3)); (case aS => exact (bz_ (bl_ HB))); (case aL => have := LMc6.out; omega); intro v332 w7 ho hb hg hat; rw [← Ny331.out] at ho; replace HB := ak_ hb; have HO333 := ak_ ho; clear HO_3; clear ho hb hg hat))
           go_roundg k2
           case measure => have := HK1.out; have := HK2.out; omega
           case rel => exact ⟨(y331), (IntKind.u64.wrap (Int.tdiv x5_2 256)), (wrap64 (x10_2 + 1)), rf_, rf_, H', ⟨by have := HK1.out; have := HK2.out; omega⟩, ⟨rl_ HO333⟩, ⟨bl_ HB⟩⟩
          ·rw [if_neg c6] at H
           exact absurd H (by simp)
         ·rw [if_neg c5] at H
          have c5b0 := decide_eq_false c5
          clear c5
          have H' := ak_ H
          clear H
          go_wp2
          go_roundg k2
          case measure => have := HK1.out; have := HK2.out; omega
          case rel => exact ⟨(x3_2), (wrap64 (x7_1 + 1)), rf_, H', ⟨by have := HK1.out; have := HK2.out; omega⟩, ⟨rl_ HO_3⟩, ⟨bl_ HB⟩⟩
      ·rw [if_neg c4] at H
       exact absurd H (by simp)
     ·rw [if_neg c3] at H
      exact absurd H (by simp)
    ·rw [if_neg c2] at H
     have c2b0 := decide_eq_false c2
     clear c2
     obtain rfl := Option.some.inj H
     go_wp2
     go_ret
     exact ⟨_, by first | rfl | (simp <;> rfl) | (simp [*] <;> rfl), by (with_reducible repeat (first | apply Kd.R_alloc | apply Kd.R_drewN | apply Kd.R_drew)); exact HO_3.out, bl_ HB⟩
def medlarref17_Store.l0 : Nat → List Int → List (S65) → Int → Int → Option (List Int × Int)
  | 0, _, _, _, _ => none
  | k + 1, x10, x27, x28, x29 => if x29 < x28 then (if 0 ≤ x29 then (if x29 < (x27.length : Int) then (if (rd_T65 x27 x29).f1.f0 = true then (some (([] : List Int), 1)) else ((medlarref03_Octets.f k ((rd_T65 x27 x29).f1.f2.f0) ((rd_T65 x27 x29).f1.f2.f1)).bind fun t346 => (if x10.length + t346.length < 140737488355328 then (medlarref17_Store.l0 k (x10 ++ t346) x27 x28 (wrap64 (x29 + 1))) else (none)))) else (none)) else (none)) else (some (x10, 0))
def medlarref17_Store.f (k : Nat) (a0 : Int) (a1 : Int) (a2 : Int) (l3 : List (S65)) : Option (List Int × Int) := (medlarref14_Check.f k ([] : List (S75)) a0 a1 a2 l3).bind fun t334 => (if t334 = 0 then ((some (([1, (a1) % 256, (a0) % 256] : List Int) : List Int)).bind fun y335 => ((medlarref17_put.f k a2 8).bind fun t338 => (if y335.length + t338.length < 140737488355328 then (medlarref17_Store.l0 k (y335 ++ t338) l3 (l3.length : Int) 0) else (none)))) else (some (([] : List Int), 1)))
theorem medlarref17_Store.mono_l : ∀ k, (∀ y0 y1 y2 y3, LeO (medlarref17_Store.l0 k y0 y1 y2 y3) (medlarref17_Store.l0 (k + 1) y0 y1 y2 y3))
  | 0 => fun _ _ _ _ r h => by simp [medlarref17_Store.l0] at h
  | k + 1 => by
   have ih0 := medlarref17_Store.mono_l k
   ·intro y0 y1 y2 y3
    unfold medlarref17_Store.l0
    repeat' first
    | (with_reducible exact ih0 _ _ _ _)
    | (with_reducible exact medlarref03_Octets.mono _ _ _)
    | (with_reducible exact medlarref14_Check.mono _ _ _ _ _ _)
    | (with_reducible exact medlarref17_put.mono _ _ _)
    | (with_reducible exact LeO.refl _)
    | (with_reducible exact LeO.none _)
    | (with_reducible refine LeO.ite ?_ ?_)
    | (with_reducible refine LeO.bind ?_ (fun _ => ?_))
    | exact ih0 _ _ _ _
    | exact medlarref03_Octets.mono _ _ _
    | exact medlarref14_Check.mono _ _ _ _ _ _
    | exact medlarref17_put.mono _ _ _
    | exact LeO.none _
    | refine LeO.ite ?_ ?_
    | refine LeO.bind ?_ (fun _ => ?_)
theorem medlarref17_Store.mono : ∀ a0 a1 a2 a3 k, LeO (medlarref17_Store.f k a0 a1 a2 a3) (medlarref17_Store.f (k + 1) a0 a1 a2 a3) := by
  intro a0 a1 a2 a3 k
  have ih0 := medlarref17_Store.mono_l k
  unfold medlarref17_Store.f
  repeat' first
    | (with_reducible exact ih0 _ _ _ _)
    | (with_reducible exact medlarref03_Octets.mono _ _ _)
    | (with_reducible exact medlarref14_Check.mono _ _ _ _ _ _)
    | (with_reducible exact medlarref17_put.mono _ _ _)
    | (with_reducible exact LeO.refl _)
    | (with_reducible exact LeO.none _)
    | (with_reducible refine LeO.ite ?_ ?_)
    | (with_reducible refine LeO.bind ?_ (fun _ => ?_))
    | exact ih0 _ _ _ _
    | exact medlarref03_Octets.mono _ _ _
    | exact medlarref14_Check.mono _ _ _ _ _ _
    | exact medlarref17_put.mono _ _ _
    | exact LeO.none _
    | refine LeO.ite ?_ ?_
    | refine LeO.bind ?_ (fun _ => ?_)
set_option maxHeartbeats 8000000 in
set_option maxRecDepth 100000 in
theorem medlarref17_Store.calls (k : Nat) (a0 : Int) (a1 : Int) (a2 : Int) (A3 : Option Addr) (c3 : Nat) (l3 : List (S65)) (r1 : List Int) (r2 : Int) (w : World) (hr3 : Kd.C k65 w A3 l3.length l3) (hc3 : l3.length ≤ c3) (h : medlarref17_Store.f k a0 a1 a2 l3 = some (r1, r2)) :
   Calls Try.prog 34 #[.int .i64 a0, .int .i64 a1, .int .u64 a2, .slice A3 l3.length c3] w fun e w' => ∃ v0_ : Value, e = .returned (.tuple #[v0_, .int .i64 r2]) ∧ Kd.R (Kd.int .u8) 5 w' w.heap.size (fun _ => True) v0_ r1 ∧ Below w.heap.size w w' := by
  have hu65 := underlying65
  have hu25 := underlying25
  have HR3 := ak_ hr3
  have HC3 := ak_ hc3
  clear hr3 hc3
  have HB := ak_ (Below.refl w.heap.size w)
  have H : ((medlarref14_Check.f k ([] : List (S75)) a0 a1 a2 l3).bind fun t334 => (if t334 = 0 then ((some (([1, (a1) % 256, (a0) % 256] : List Int) : List Int)).bind fun y335 => ((medlarref17_put.f k a2 8).bind fun t338 => (if y335.length + t338.length < 140737488355328 then (medlarref17_Store.l0 k (y335 ++ t338) l3 (l3.length : Int) 0) else (none)))) else (some (([] : List Int), 1)))) = some (r1, r2) := h
  clear h
  replace H := bind_eq_some_iff.mp H
  obtain ⟨t334, A50, H⟩ := H
  replace H : (if t334 = 0 then ((some (([1, (a1) % 256, (a0) % 256] : List Int) : List Int)).bind fun y335 => ((medlarref17_put.f k a2 8).bind fun t338 => (if y335.length + t338.length < 140737488355328 then (medlarref17_Store.l0 k (y335 ++ t338) l3 (l3.length : Int) 0) else (none)))) else (some (([] : List Int), 1))) = some (r1, r2) := H
  have A5 := ak_ A50
  clear A50
  by_cases c6 : t334 = 0
  ·rw [if_pos c6] at H
   have c6b0 : (t334 == 0) = true := beq_iff_eq.mpr c6
   have c6b1 : (t334 != 0) = false := bne_eq_false_iff_eq.mpr c6
   clear c6
   obtain ⟨y335, hy335⟩ : ∃ y_ : List Int, y_ = (([1, (a1) % 256, (a0) % 256] : List Int)) := ⟨_, rfl⟩
   replace H : ((medlarref17_put.f k a2 8).bind fun t338 => (if y335.length + t338.length < 140737488355328 then (medlarref17_Store.l0 k (y335 ++ t338) l3 (l3.length : Int) 0) else (none))) = some (r1, r2) := by first | (rw [hy335]; with_reducible exact H) | (have H2_ := (Option.bind_some _ _).symm.trans H; rw [hy335]; with_reducible exact H2_) | (have H2_ := (Option.bind_some _ _).symm.trans H; with_reducible exact H2_) | with_reducible exact H | (rw [hy335]; exact H) | exact H
   have Ny335 := ak_ hy335
   clear hy335
   replace H := bind_eq_some_iff.mp H
   obtain ⟨t338, A70, H⟩ := H
   replace H : (if y335.length + t338.length < 140737488355328 then (medlarref17_Store.l0 k (y335 ++ t338) l3 (l3.length : Int) 0) else (none)) = some (r1, r2) := H
   have A7 := ak_ A70
   clear A70
   by_cases c8 : y335.length + t338.length < 140737488355328
   ·rw [if_pos c8] at H
    have LMc8 := ak_ c8
    clear c8
    obtain ⟨y341, hy341⟩ : ∃ y_ : List Int, y_ = (y335 ++ t338) := ⟨_, rfl⟩
    replace H : (medlarref17_Store.l0 k y341 l3 (l3.length : Int) 0) = some (r1, r2) := by first | (rw [hy341]; with_reducible exact H) | (have H2_ := (Option.bind_some _ _).symm.trans H; rw [hy341]; with_reducible exact H2_) | (have H2_ := (Option.bind_some _ _).symm.trans H; with_reducible exact H2_) | with_reducible exact H | (rw [hy341]; exact H) | exact H
    have Ny341 := ak_ hy341
    clear hy341
    have H' := ak_ H
    clear H
    go_enter func34, ntmps34
    go_wp2_with (first | ((with_reducible refine gate_callee (f := 45) rfl ?_); refine gl_ (some 17) func45 #[.slice none 0 0, .int .i64 a0, .int .i64 a1, .int .u64 a2, .slice A3 l3.length c3] ?_; (refine (medlarref14_Check.calls k _ _ ([] : List (S75)) a0 a1 a2 _ _ l3 t334 _ ?side1 ?side2 ?side3 ?side4 A5.out).mono ?_); (case side1 => exact Kd.C_nil _ _); (case side2 => exact Nat.le_refl _); (case side3 => repeat (first | exact HR3.out | (with_reducible refine Kd.C_alloc ?_ _) | (with_reducible refine Kd.C_drewN ?_ _) | (with_reducible refine Kd.C_drew ?_))); (case side4 => exact HC3.out); rintro e w9 ⟨rfl, hb⟩; refine ⟨_, rfl, ?_⟩; replace HB := ak_ (bt_ (bl_ HB) hb); (try clear hb); (try clear hk)) | ((with_reducible refine gate_dst (N := 23) rfl ?_); refine Kd.R_lit (Kd.int .u8) _ 5 ?hg (N := 23) ?hd (xs := ([1, (a1) % 256, (a0) % 256] : List Int)) (inner := [.int .u8 1, .int .u8 ((a1) % 256), .int .u8 ((a0) % 256)]) (ok := fun _ => True) (okp := fun _ => True) ?hr ?hp (fun _ hk => hk) trivial (Below.refl _ _) (Nat.le_refl _) (by simp) ?_; (case hd => rfl); (case hg => rfl); (case hr => first | (go_simp; done) | (go_simp; rfl)); (case hp => exact (Reps.one (show Kd.M (Kd.int .u8) _ _ _ 1 [.int .u8 1] from rfl) (Reps.one (show Kd.M (Kd.int .u8) _ _ _ ((a1) % 256) [.int .u8 ((a1) % 256)] from rfl) (Reps.one (show Kd.M (Kd.int .u8) _ _ _ ((a0) % 256) [.int .u8 ((a0) % 256)] from rfl) (Reps.none _ _))))); intro v336 w10 ho11 hb hg_ hnew_; clear hg_ hnew_; (first | rw [← Ny335.out] at ho11 | (simp only [Int.reduceToNat] at ho11; rw [← Ny335.out] at ho11)); have HO337 := ak_ (Kd.R_lower ho11 (bz_ (bl_ HB))); replace HB := ak_ (bt_ (bl_ HB) hb); clear hb ho11) | ((with_reducible refine gate_callee (f := 68) rfl ?_); refine gl_ (some 25) func68 #[.int .u64 a2, .int .i64 8] ?_; (with_reducible refine (medlarref17_put.calls k a2 8 t338 _ A7.out).mono ?_); rintro e w12 ⟨v339, rfl, ho0, hb⟩; refine ⟨_, rfl, ?_⟩; have HO340 := ak_ (Kd.R_lower (Kd.R_new' ho0 (Kd.R_lt (rl_ HO337))) (bz_ (bl_ HB))); replace HO337 := ak_ (Kd.R_elder' (rl_ HO337) (Kd.R_base ho0) hb); replace HB := ak_ (bt_ (bl_ HB) hb); (try clear hb); (try clear hk); (try clear ho0); obtain ⟨Ao14, co14, eo14⟩ := Kd.R_slice HO340.out; subst eo14) | ((with_reducible refine gate_builtin (b := .append) (xs := #[.tmp 23, .tmp 25]) rfl ?_); at_builtin; refine Kd.R_append_rows (Kd.int .u8) (w0 := w) w.heap.size rfl (.tmp 23) (.tmp 25) 35 5 (.int .u8 0) 1 rfl underlying35 info5 rfl (by decide) (by omega) v336 y335 t338 _ _ _ (fun k_ => some k_ ≠ (.slice Ao14 t338.length co14 : Value).ownBlock) (fun _ => False) rfl rfl ?aO ?aR (fun _ _ h => h) (fun _ h => h.elim) ?aF ?aB ?aS ?aL ?_; (case aR => repeat (first | exact (Kd.R_reads' HO340.out).2.2 | (with_reducible refine Kd.C_alloc ?_ _) | (with_reducible refine Kd.C_drewN ?_ _) | (with_reducible refine Kd.C_drew ?_))); (case aB => exact (bl_ HB)); (case aF => exact (fun k_ hk => Kd.fresh' (Kd.R_lt (rl_ HO340)) k_ hk)); (case aO => exact (by (with_reducible repeat (first | apply Kd.R_alloc | apply Kd.R_drewN | apply Kd.R_drew)); exact Kd.R_mono HO337.out (fun _ hk => hk.2))); (case aS => exact (bz_ (bl_ HB))); (case aL => have := LMc8.out; omega); intro v342 w13 ho hb hg hat; rw [← Ny341.out] at ho; replace HO340 := ak_ (Kd.R_after (ok := (fun _ => True)) (rl_ HO340) hg hat); replace HB := ak_ hb; have HO343 := ak_ ho; clear HO337; clear ho hb hg hat))
    go_loopg [10, 29] k (fun kq v10 v29 w' => ∃ (x10_1 : List Int) (x29_1 : Int), v29 = .int .i64 x29_1 ∧ Aside0 (medlarref17_Store.l0 kq x10_1 l3 (l3.length : Int) x29_1 = some (r1, r2)) ∧ Aside0 (kq ≤ k) ∧ Aside0 (Kd.R (Kd.int .u8) 5 w' w.heap.size (fun _ => True) v10 x10_1) ∧ Aside0 (Below w.heap.size w w'))
    case atStart => exact ⟨(y341), (0), rf_, H', ⟨Nat.le_refl _⟩, ⟨by (with_reducible repeat (first | apply Kd.R_alloc | apply Kd.R_drewN | apply Kd.R_drew)); exact Kd.R_mono HO343.out (fun _ hk => trivial)⟩, ⟨bl_ HB⟩⟩
    case round =>
     clear H'
     try clear p2
     try clear c3
     try clear c4
     try clear c6
     try clear c6b0
     try clear c6b1
     try clear c8
     obtain ⟨x10_1, x29_1, rfl, HA, HK1, HO_10, HB⟩ := hrel
     cases gk with
     | zero => exact absurd HA.out (by simp [medlarref17_Store.l0])
     | succ k1 =>
      have H := HA.out
      clear HA
      simp only [medlarref17_Store.l0] at H
      by_cases c15 : x29_1 < (l3.length : Int)
      ·rw [if_pos c15] at H
       have c15b0 := decide_eq_true c15
       clear c15
       by_cases c16 : 0 ≤ x29_1
       ·rw [if_pos c16] at H
        have c16b0 := decide_eq_true c16
        clear c16
        by_cases c17 : x29_1 < (l3.length : Int)
        ·rw [if_pos c17] at H
         have c17b0 := decide_eq_true c17
         clear c17
         obtain ⟨bq18, hbq18⟩ : ∃ b_ : Bool, b_ = ((rd_T65 l3 x29_1).f1.f0) := ⟨_, rfl⟩
         replace H : (if bq18 = true then (some (([] : List Int), 1)) else ((medlarref03_Octets.f k1 ((rd_T65 l3 x29_1).f1.f2.f0) ((rd_T65 l3 x29_1).f1.f2.f1)).bind fun t346 => (if x10_1.length + t346.length < 140737488355328 then (medlarref17_Store.l0 k1 (x10_1 ++ t346) l3 (l3.length : Int) (wrap64 (x29_1 + 1))) else (none)))) = some (r1, r2) := by rw [← hbq18] at H; exact H
         have Nbq18 := ak_ hbq18
         clear hbq18
         by_cases c19 : bq18 = true
         ·subst c19
          have H1 : (some (([] : List Int), 1)) = some (r1, r2) := by rw [if_pos rfl] at H; exact H
          clear H
          have H := H1
          clear H1
          simp only [some.injEq, Prod.mk.injEq] at H
          obtain ⟨rfl, rfl⟩ := H
          have p344 : 0 ≤ (x29_1 : Int) := od_ (by first | (with_reducible assumption) | assumption)
          have q344 : x29_1 < (l3.length : Int) := od_ (by first | (with_reducible assumption) | assumption)
          obtain ⟨ad344, e344, hx344_0, hx344_1, hx344_2, hx344_3, hx344_4, hx344_5, hx344_6, hx344_7, hx344_8, hx344_9, hx344_10⟩ := at_T65 HR3.out x29_1 p344 q344
          (try rw [← Nbq18.out] at hx344_2)
          (try rw [← Nbq18.out] at hx344_3)
          cases e344
          replace hx344_0 := cx_ HB hx344_0
          replace hx344_1 := cx_ HB hx344_1
          replace hx344_2 := cx_ HB hx344_2
          replace hx344_3 := cx_ HB hx344_3
          replace hx344_4 := cx_ HB hx344_4
          replace hx344_5 := cx_ HB hx344_5
          replace hx344_6 := cx_ HB hx344_6
          replace hx344_7 := cx_ HB hx344_7
          replace hx344_8 := cx_ HB hx344_8
          replace hx344_9 := cx_ HB hx344_9
          replace hx344_10 := cx_ HB hx344_10
          replace p344 := eq_true p344
          replace q344 := eq_true q344
          go_wp2_with (first | ((with_reducible refine gate_dst (N := 12) rfl ?_); refine bx_ 12 #[.int .u64 0, .int .u64 0, .bool false, .bool false, .int .u64 0, .int .u64 0, .int .u64 0, .int .u64 0, .int .u64 0, .int .u64 0, .int .i64 0] 65 ?_; intro gb345 hg w20 hbox hb; replace HO_10 := ak_ (Kd.R_below (rl_ HO_10) hb); have BK345 := ak_ hbox; have GW345 := ak_ (gs_ hg HB); have GE345 := ak_ (gs_ hg HB); replace HB := ak_ (bt_ (bl_ HB) hb); clear hb hbox hg; have hcz21_0 := kq_ BK345.out 0 rfl; have hcz21_1 := kq_ BK345.out 1 rfl; have hcz21_2 := kq_ BK345.out 2 rfl; have hcz21_3 := kq_ BK345.out 3 rfl; have hcz21_4 := kq_ BK345.out 4 rfl; have hcz21_5 := kq_ BK345.out 5 rfl; have hcz21_6 := kq_ BK345.out 6 rfl; have hcz21_7 := kq_ BK345.out 7 rfl; have hcz21_8 := kq_ BK345.out 8 rfl; have hcz21_9 := kq_ BK345.out 9 rfl; have hcz21_10 := kq_ BK345.out 10 rfl; have hfz21_0 := kf_ BK345.out 0; have hfz21_1 := kf_ BK345.out 1; have hfz21_2 := kf_ BK345.out 2; have hfz21_3 := kf_ BK345.out 3; have hfz21_4 := kf_ BK345.out 4; have hfz21_5 := kf_ BK345.out 5; have hfz21_6 := kf_ BK345.out 6; have hfz21_7 := kf_ BK345.out 7; have hfz21_8 := kf_ BK345.out 8; have hfz21_9 := kf_ BK345.out 9; have hfz21_10 := kf_ BK345.out 10))
          go_ret2
          exact ⟨_, by first | rfl | (simp <;> rfl) | (simp [*] <;> rfl), by first | exact Kd.R_nil _ _ _ _ _ | exact Kd.N_nil _ _ _ _ _ | exact Kd.V_nil _ _ _ _ _ | exact Kd.Q_nil _ _ _ _ _ | exact Kd.S_nil _ _ _ _ _, by repeat (first | (with_reducible first | exact HB.out | apply ba_ | apply bn_ | apply bd_ | refine below_set ?_ GE345.out) | exact HB.out)⟩
         ·replace c19 := Bool.eq_false_iff.mpr c19
          subst c19
          have H1 : ((medlarref03_Octets.f k1 ((rd_T65 l3 x29_1).f1.f2.f0) ((rd_T65 l3 x29_1).f1.f2.f1)).bind fun t346 => (if x10_1.length + t346.length < 140737488355328 then (medlarref17_Store.l0 k1 (x10_1 ++ t346) l3 (l3.length : Int) (wrap64 (x29_1 + 1))) else (none))) = some (r1, r2) := by rw [if_neg (show ¬ (false = true) by decide)] at H; exact H
          clear H
          have H := H1
          clear H1
          replace H := bind_eq_some_iff.mp H
          obtain ⟨t346, A220, H⟩ := H
          replace H : (if x10_1.length + t346.length < 140737488355328 then (medlarref17_Store.l0 k1 (x10_1 ++ t346) l3 (l3.length : Int) (wrap64 (x29_1 + 1))) else (none)) = some (r1, r2) := H
          have A22 := ak_ A220
          clear A220
          by_cases c23 : x10_1.length + t346.length < 140737488355328
          ·rw [if_pos c23] at H
           have LMc23 := ak_ c23
           clear c23
           obtain ⟨y349, hy349⟩ : ∃ y_ : List Int, y_ = (x10_1 ++ t346) := ⟨_, rfl⟩
           replace H : (medlarref17_Store.l0 k1 y349 l3 (l3.length : Int) (wrap64 (x29_1 + 1))) = some (r1, r2) := by first | (rw [hy349]; with_reducible exact H) | (have H2_ := (Option.bind_some _ _).symm.trans H; rw [hy349]; with_reducible exact H2_) | (have H2_ := (Option.bind_some _ _).symm.trans H; with_reducible exact H2_) | with_reducible exact H | (rw [hy349]; exact H) | exact H
           have Ny349 := ak_ hy349
           clear hy349
           have H' := ak_ H
           clear H
           have p344 : 0 ≤ (x29_1 : Int) := od_ (by first | (with_reducible assumption) | assumption)
           have q344 : x29_1 < (l3.length : Int) := od_ (by first | (with_reducible assumption) | assumption)
           obtain ⟨ad344, e344, hx344_0, hx344_1, hx344_2, hx344_3, hx344_4, hx344_5, hx344_6, hx344_7, hx344_8, hx344_9, hx344_10⟩ := at_T65 HR3.out x29_1 p344 q344
           (try rw [← Nbq18.out] at hx344_2)
           (try rw [← Nbq18.out] at hx344_3)
           cases e344
           replace hx344_0 := cx_ HB hx344_0
           replace hx344_1 := cx_ HB hx344_1
           replace hx344_2 := cx_ HB hx344_2
           replace hx344_3 := cx_ HB hx344_3
           replace hx344_4 := cx_ HB hx344_4
           replace hx344_5 := cx_ HB hx344_5
           replace hx344_6 := cx_ HB hx344_6
           replace hx344_7 := cx_ HB hx344_7
           replace hx344_8 := cx_ HB hx344_8
           replace hx344_9 := cx_ HB hx344_9
           replace hx344_10 := cx_ HB hx344_10
           replace p344 := eq_true p344
           replace q344 := eq_true q344
           go_wp2_with (first | ((with_reducible refine gate_dst (N := 12) rfl ?_); refine bx_ 12 #[.int .u64 0, .int .u64 0, .bool false, .bool false, .int .u64 0, .int .u64 0, .int .u64 0, .int .u64 0, .int .u64 0, .int .u64 0, .int .i64 0] 65 ?_; intro gb345 hg w24 hbox hb; replace HO_10 := ak_ (Kd.R_below (rl_ HO_10) hb); have BK345 := ak_ hbox; have GW345 := ak_ (gs_ hg HB); have GE345 := ak_ (gs_ hg HB); replace HB := ak_ (bt_ (bl_ HB) hb); clear hb hbox hg; have hcz25_0 := kq_ BK345.out 0 rfl; have hcz25_1 := kq_ BK345.out 1 rfl; have hcz25_2 := kq_ BK345.out 2 rfl; have hcz25_3 := kq_ BK345.out 3 rfl; have hcz25_4 := kq_ BK345.out 4 rfl; have hcz25_5 := kq_ BK345.out 5 rfl; have hcz25_6 := kq_ BK345.out 6 rfl; have hcz25_7 := kq_ BK345.out 7 rfl; have hcz25_8 := kq_ BK345.out 8 rfl; have hcz25_9 := kq_ BK345.out 9 rfl; have hcz25_10 := kq_ BK345.out 10 rfl; have hfz25_0 := kf_ BK345.out 0; have hfz25_1 := kf_ BK345.out 1; have hfz25_2 := kf_ BK345.out 2; have hfz25_3 := kf_ BK345.out 3; have hfz25_4 := kf_ BK345.out 4; have hfz25_5 := kf_ BK345.out 5; have hfz25_6 := kf_ BK345.out 6; have hfz25_7 := kf_ BK345.out 7; have hfz25_8 := kf_ BK345.out 8; have hfz25_9 := kf_ BK345.out 9; have hfz25_10 := kf_ BK345.out 10) | ((with_reducible refine gate_callee (f := 76) rfl ?_); refine gl_ (some 40) func76 #[.agg #[.int .u64 ((rd_T65 l3 x29_1).f1.f2.f0), .int .u64 ((rd_T65 l3 x29_1).f1.f2.f1)]] ?_; (with_reducible refine (medlarref03_Octets.calls k1 ((rd_T65 l3 x29_1).f1.f2.f0) ((rd_T65 l3 x29_1).f1.f2.f1) t346 _ A22.out).mono ?_); rintro e w26 ⟨v347, rfl, ho0, hb⟩; refine ⟨_, rfl, ?_⟩; have HO348 := ak_ (Kd.R_lower (Kd.R_new' ho0 (Kd.R_lt (by (with_reducible repeat (first | apply Kd.R_alloc | apply Kd.R_drewN | apply Kd.R_drew)); exact (Kd.R_mono (Kd.R_far (p := ⟨gb345, 10, none⟩) (Kd.R_far (p := ⟨gb345, 9, none⟩) (Kd.R_far (p := ⟨gb345, 8, none⟩) (Kd.R_far (p := ⟨gb345, 7, none⟩) (Kd.R_far (p := ⟨gb345, 6, none⟩) (Kd.R_far (p := ⟨gb345, 5, none⟩) (Kd.R_far (p := ⟨gb345, 4, none⟩) (Kd.R_far (p := ⟨gb345, 3, none⟩) (Kd.R_far (p := ⟨gb345, 2, none⟩) (Kd.R_far (p := ⟨gb345, 1, none⟩) (Kd.R_far (p := ⟨gb345, 0, none⟩) (Kd.R_types HO_10.out BK345.out (by decide)) (fun _ hk => hk.2) (.int .u64 ((rd_T65 l3 x29_1).f0.f0))) (fun _ hk => hk.2) (.int .u64 ((rd_T65 l3 x29_1).f0.f1))) (fun _ hk => hk.2) (.bool false)) (fun _ hk => hk.2) (.bool ((rd_T65 l3 x29_1).f1.f1))) (fun _ hk => hk.2) (.int .u64 ((rd_T65 l3 x29_1).f1.f2.f0))) (fun _ hk => hk.2) (.int .u64 ((rd_T65 l3 x29_1).f1.f2.f1))) (fun _ hk => hk.2) (.int .u64 ((rd_T65 l3 x29_1).f1.f3.f0.f0))) (fun _ hk => hk.2) (.int .u64 ((rd_T65 l3 x29_1).f1.f3.f0.f1))) (fun _ hk => hk.2) (.int .u64 ((rd_T65 l3 x29_1).f1.f3.f1.f0))) (fun _ hk => hk.2) (.int .u64 ((rd_T65 l3 x29_1).f1.f3.f1.f1))) (fun _ hk => hk.2) (.int .i64 ((rd_T65 l3 x29_1).f1.f4))) (fun _ h_ => h_.1))))) (bz_ (by repeat (first | (with_reducible first | exact HB.out | apply ba_ | apply bn_ | apply bd_ | refine below_set ?_ GE345.out) | exact HB.out)))); replace HO_10 := ak_ (Kd.R_elder' (by (with_reducible repeat (first | apply Kd.R_alloc | apply Kd.R_drewN | apply Kd.R_drew)); exact (Kd.R_mono (Kd.R_far (p := ⟨gb345, 10, none⟩) (Kd.R_far (p := ⟨gb345, 9, none⟩) (Kd.R_far (p := ⟨gb345, 8, none⟩) (Kd.R_far (p := ⟨gb345, 7, none⟩) (Kd.R_far (p := ⟨gb345, 6, none⟩) (Kd.R_far (p := ⟨gb345, 5, none⟩) (Kd.R_far (p := ⟨gb345, 4, none⟩) (Kd.R_far (p := ⟨gb345, 3, none⟩) (Kd.R_far (p := ⟨gb345, 2, none⟩) (Kd.R_far (p := ⟨gb345, 1, none⟩) (Kd.R_far (p := ⟨gb345, 0, none⟩) (Kd.R_types HO_10.out BK345.out (by decide)) (fun _ hk => hk.2) (.int .u64 ((rd_T65 l3 x29_1).f0.f0))) (fun _ hk => hk.2) (.int .u64 ((rd_T65 l3 x29_1).f0.f1))) (fun _ hk => hk.2) (.bool false)) (fun _ hk => hk.2) (.bool ((rd_T65 l3 x29_1).f1.f1))) (fun _ hk => hk.2) (.int .u64 ((rd_T65 l3 x29_1).f1.f2.f0))) (fun _ hk => hk.2) (.int .u64 ((rd_T65 l3 x29_1).f1.f2.f1))) (fun _ hk => hk.2) (.int .u64 ((rd_T65 l3 x29_1).f1.f3.f0.f0))) (fun _ hk => hk.2) (.int .u64 ((rd_T65 l3 x29_1).f1.f3.f0.f1))) (fun _ hk => hk.2) (.int .u64 ((rd_T65 l3 x29_1).f1.f3.f1.f0))) (fun _ hk => hk.2) (.int .u64 ((rd_T65 l3 x29_1).f1.f3.f1.f1))) (fun _ hk => hk.2) (.int .i64 ((rd_T65 l3 x29_1).f1.f4))) (fun _ h_ => h_.1))) (Kd.R_base ho0) hb); replace BK345 := ak_ (kb_ (g := gb345) (o := .cells #[.int .u64 ((rd_T65 l3 x29_1).f0.f0), .int .u64 ((rd_T65 l3 x29_1).f0.f1), .bool false, .bool ((rd_T65 l3 x29_1).f1.f1), .int .u64 ((rd_T65 l3 x29_1).f1.f2.f0), .int .u64 ((rd_T65 l3 x29_1).f1.f2.f1), .int .u64 ((rd_T65 l3 x29_1).f1.f3.f0.f0), .int .u64 ((rd_T65 l3 x29_1).f1.f3.f0.f1), .int .u64 ((rd_T65 l3 x29_1).f1.f3.f1.f0), .int .u64 ((rd_T65 l3 x29_1).f1.f3.f1.f1), .int .i64 ((rd_T65 l3 x29_1).f1.f4)] 65 (0, 0)) (by (with_reducible repeat (first | refine kn_ ?_ _ | refine kd_ ?_ | refine ka_ ?_ _)); refine blk_put (cs := #[.int .u64 ((rd_T65 l3 x29_1).f0.f0), .int .u64 ((rd_T65 l3 x29_1).f0.f1), .bool false, .bool ((rd_T65 l3 x29_1).f1.f1), .int .u64 ((rd_T65 l3 x29_1).f1.f2.f0), .int .u64 ((rd_T65 l3 x29_1).f1.f2.f1), .int .u64 ((rd_T65 l3 x29_1).f1.f3.f0.f0), .int .u64 ((rd_T65 l3 x29_1).f1.f3.f0.f1), .int .u64 ((rd_T65 l3 x29_1).f1.f3.f1.f0), .int .u64 ((rd_T65 l3 x29_1).f1.f3.f1.f1), .int .i64 0]) ?_ 10 _ rfl; (with_reducible repeat (first | refine kn_ ?_ _ | refine kd_ ?_ | refine ka_ ?_ _)); refine blk_put (cs := #[.int .u64 ((rd_T65 l3 x29_1).f0.f0), .int .u64 ((rd_T65 l3 x29_1).f0.f1), .bool false, .bool ((rd_T65 l3 x29_1).f1.f1), .int .u64 ((rd_T65 l3 x29_1).f1.f2.f0), .int .u64 ((rd_T65 l3 x29_1).f1.f2.f1), .int .u64 ((rd_T65 l3 x29_1).f1.f3.f0.f0), .int .u64 ((rd_T65 l3 x29_1).f1.f3.f0.f1), .int .u64 ((rd_T65 l3 x29_1).f1.f3.f1.f0), .int .u64 0, .int .i64 0]) ?_ 9 _ rfl; (with_reducible repeat (first | refine kn_ ?_ _ | refine kd_ ?_ | refine ka_ ?_ _)); refine blk_put (cs := #[.int .u64 ((rd_T65 l3 x29_1).f0.f0), .int .u64 ((rd_T65 l3 x29_1).f0.f1), .bool false, .bool ((rd_T65 l3 x29_1).f1.f1), .int .u64 ((rd_T65 l3 x29_1).f1.f2.f0), .int .u64 ((rd_T65 l3 x29_1).f1.f2.f1), .int .u64 ((rd_T65 l3 x29_1).f1.f3.f0.f0), .int .u64 ((rd_T65 l3 x29_1).f1.f3.f0.f1), .int .u64 0, .int .u64 0, .int .i64 0]) ?_ 8 _ rfl; (with_reducible repeat (first | refine kn_ ?_ _ | refine kd_ ?_ | refine ka_ ?_ _)); refine blk_put (cs := #[.int .u64 ((rd_T65 l3 x29_1).f0.f0), .int .u64 ((rd_T65 l3 x29_1).f0.f1), .bool false, .bool ((rd_T65 l3 x29_1).f1.f1), .int .u64 ((rd_T65 l3 x29_1).f1.f2.f0), .int .u64 ((rd_T65 l3 x29_1).f1.f2.f1), .int .u64 ((rd_T65 l3 x29_1).f1.f3.f0.f0), .int .u64 0, .int .u64 0, .int .u64 0, .int .i64 0]) ?_ 7 _ rfl; (with_reducible repeat (first | refine kn_ ?_ _ | refine kd_ ?_ | refine ka_ ?_ _)); refine blk_put (cs := #[.int .u64 ((rd_T65 l3 x29_1).f0.f0), .int .u64 ((rd_T65 l3 x29_1).f0.f1), .bool false, .bool ((rd_T65 l3 x29_1).f1.f1), .int .u64 ((rd_T65 l3 x29_1).f1.f2.f0), .int .u64 ((rd_T65 l3 x29_1).f1.f2.f1), .int .u64 0, .int .u64 0, .int .u64 0, .int .u64 0, .int .i64 0]) ?_ 6 _ rfl; (with_reducible repeat (first | refine kn_ ?_ _ | refine kd_ ?_ | refine ka_ ?_ _)); refine blk_put (cs := #[.int .u64 ((rd_T65 l3 x29_1).f0.f0), .int .u64 ((rd_T65 l3 x29_1).f0.f1), .bool false, .bool ((rd_T65 l3 x29_1).f1.f1), .int .u64 ((rd_T65 l3 x29_1).f1.f2.f0), .int .u64 0, .int .u64 0, .int .u64 0, .int .u64 0, .int .u64 0, .int .i64 0]) ?_ 5 _ rfl; (with_reducible repeat (first | refine kn_ ?_ _ | refine kd_ ?_ | refine ka_ ?_ _)); refine blk_put (cs := #[.int .u64 ((rd_T65 l3 x29_1).f0.f0), .int .u64 ((rd_T65 l3 x29_1).f0.f1), .bool false, .bool ((rd_T65 l3 x29_1).f1.f1), .int .u64 0, .int .u64 0, .int .u64 0, .int .u64 0, .int .u64 0, .int .u64 0, .int .i64 0]) ?_ 4 _ rfl; (with_reducible repeat (first | refine kn_ ?_ _ | refine kd_ ?_ | refine ka_ ?_ _)); refine blk_put (cs := #[.int .u64 ((rd_T65 l3 x29_1).f0.f0), .int .u64 ((rd_T65 l3 x29_1).f0.f1), .bool false, .bool false, .int .u64 0, .int .u64 0, .int .u64 0, .int .u64 0, .int .u64 0, .int .u64 0, .int .i64 0]) ?_ 3 _ rfl; (with_reducible repeat (first | refine kn_ ?_ _ | refine kd_ ?_ | refine ka_ ?_ _)); refine blk_put (cs := #[.int .u64 ((rd_T65 l3 x29_1).f0.f0), .int .u64 ((rd_T65 l3 x29_1).f0.f1), .bool false, .bool false, .int .u64 0, .int .u64 0, .int .u64 0, .int .u64 0, .int .u64 0, .int .u64 0, .int .i64 0]) ?_ 2 _ rfl; (with_reducible repeat (first | refine kn_ ?_ _ | refine kd_ ?_ | refine ka_ ?_ _)); refine blk_put (cs := #[.int .u64 ((rd_T65 l3 x29_1).f0.f0), .int .u64 0, .bool false, .bool false, .int .u64 0, .int .u64 0, .int .u64 0, .int .u64 0, .int .u64 0, .int .u64 0, .int .i64 0]) ?_ 1 _ rfl; (with_reducible repeat (first | refine kn_ ?_ _ | refine kd_ ?_ | refine ka_ ?_ _)); refine blk_put (cs := #[.int .u64 0, .int .u64 0, .bool false, .bool false, .int .u64 0, .int .u64 0, .int .u64 0, .int .u64 0, .int .u64 0, .int .u64 0, .int .i64 0]) ?_ 0 _ rfl; (with_reducible repeat (first | refine kn_ ?_ _ | refine kd_ ?_ | refine ka_ ?_ _)); exact BK345.out) hb); replace HB := ak_ (bt_ (by repeat (first | (with_reducible first | exact HB.out | apply ba_ | apply bn_ | apply bd_ | refine below_set ?_ GE345.out) | exact HB.out)) hb); (try clear hb); (try clear hk); (try clear ho0); obtain ⟨Ao28, co28, eo28⟩ := Kd.R_slice HO348.out; subst eo28) | ((with_reducible refine gate_builtin (b := .append) (xs := #[.tmp 36, .tmp 40]) rfl ?_); at_builtin; refine Kd.R_append_rows (Kd.int .u8) (w0 := w) w.heap.size rfl (.tmp 36) (.tmp 40) 35 5 (.int .u8 0) 1 rfl underlying35 info5 rfl (by decide) (by omega) u10 x10_1 t346 _ _ _ (fun k_ => some k_ ≠ (.slice Ao28 t346.length co28 : Value).ownBlock) (fun _ => False) rfl rfl ?aO ?aR (fun _ _ h => h) (fun _ h => h.elim) ?aF ?aB ?aS ?aL ?_; (case aR => repeat (first | exact (Kd.R_reads' HO348.out).2.2 | (with_reducible refine Kd.C_alloc ?_ _) | (with_reducible refine Kd.C_drewN ?_ _) | (with_reducible refine Kd.C_drew ?_))); (case aB => exact (by repeat (first | (with_reducible first | exact HB.out | apply ba_ | apply bn_ | apply bd_ | refine below_set ?_ GE345.out) | exact HB.out))); (case aF => exact (fun k_ hk => Kd.fresh' (Kd.R_lt (rl_ HO348)) k_ hk)); (case aO => exact (by (with_reducible repeat (first | apply Kd.R_alloc | apply Kd.R_drewN | apply Kd.R_drew)); exact Kd.R_mono HO_10.out (fun _ hk => hk.2))); (case aS => exact (bz_ (by repeat (first | (with_reducible first | exact HB.out | apply ba_ | apply bn_ | apply bd_ | refine below_set ?_ GE345.out) | exact HB.out)))); (case aL => have := LMc23.out; omega); intro v350 w27 ho hb hg hat; rw [← Ny349.out] at ho; replace BK345 := ak_ (blk_grown (g := gb345) (o := .cells #[.int .u64 ((rd_T65 l3 x29_1).f0.f0), .int .u64 ((rd_T65 l3 x29_1).f0.f1), .bool false, .bool ((rd_T65 l3 x29_1).f1.f1), .int .u64 ((rd_T65 l3 x29_1).f1.f2.f0), .int .u64 ((rd_T65 l3 x29_1).f1.f2.f1), .int .u64 ((rd_T65 l3 x29_1).f1.f3.f0.f0), .int .u64 ((rd_T65 l3 x29_1).f1.f3.f0.f1), .int .u64 ((rd_T65 l3 x29_1).f1.f3.f1.f0), .int .u64 ((rd_T65 l3 x29_1).f1.f3.f1.f1), .int .i64 ((rd_T65 l3 x29_1).f1.f4)] 65 (0, 0)) (kl_ BK345) hg (Kd.R_ne HO_10.out BK345.out (by decide))); replace HO348 := ak_ (Kd.R_after (ok := (fun _ => True)) (rl_ HO348) hg hat); replace HB := ak_ hb; have HO351 := ak_ ho; clear HO_10; clear ho hb hg hat))
           go_roundg k1
           case measure => have := HK1.out; omega
           case rel => exact ⟨(y349), (wrap64 (x29_1 + 1)), rf_, H', ⟨by have := HK1.out; omega⟩, ⟨by (with_reducible repeat (first | apply Kd.R_alloc | apply Kd.R_drewN | apply Kd.R_drew)); exact Kd.R_mono HO351.out (fun _ hk => trivial)⟩, ⟨by repeat (first | (with_reducible first | exact HB.out | apply ba_ | apply bn_ | apply bd_ | refine below_set ?_ GE345.out) | exact HB.out)⟩⟩
          ·rw [if_neg c23] at H
           exact absurd H (by simp)
        ·rw [if_neg c17] at H
         exact absurd H (by simp)
       ·rw [if_neg c16] at H
        exact absurd H (by simp)
      ·rw [if_neg c15] at H
       have c15b0 := decide_eq_false c15
       clear c15
       simp only [some.injEq, Prod.mk.injEq] at H
       obtain ⟨rfl, rfl⟩ := H
       go_wp2
       go_ret2
       exact ⟨_, by first | rfl | (simp <;> rfl) | (simp [*] <;> rfl), by (with_reducible repeat (first | apply Kd.R_alloc | apply Kd.R_drewN | apply Kd.R_drew)); exact HO_10.out, bl_ HB⟩
   ·rw [if_neg c8] at H
    exact absurd H (by simp)
  ·rw [if_neg c6] at H
   have c6b0 : (t334 == 0) = false := beq_eq_false_iff_ne.mpr c6
   have c6b1 : (t334 != 0) = true := bne_iff_ne.mpr c6
   simp only [some.injEq, Prod.mk.injEq] at H
   obtain ⟨rfl, rfl⟩ := H
   go_enter func34, ntmps34
   go_wp2_with (first | ((with_reducible refine gate_callee (f := 45) rfl ?_); refine gl_ (some 17) func45 #[.slice none 0 0, .int .i64 a0, .int .i64 a1, .int .u64 a2, .slice A3 l3.length c3] ?_; (refine (medlarref14_Check.calls k _ _ ([] : List (S75)) a0 a1 a2 _ _ l3 t334 _ ?side1 ?side2 ?side3 ?side4 A5.out).mono ?_); (case side1 => exact Kd.C_nil _ _); (case side2 => exact Nat.le_refl _); (case side3 => repeat (first | exact HR3.out | (with_reducible refine Kd.C_alloc ?_ _) | (with_reducible refine Kd.C_drewN ?_ _) | (with_reducible refine Kd.C_drew ?_))); (case side4 => exact HC3.out); rintro e w29 ⟨rfl, hb⟩; refine ⟨_, rfl, ?_⟩; replace HB := ak_ (bt_ (bl_ HB) hb); (try clear hb); (try clear hk)))
   go_ret2
   exact ⟨_, by first | rfl | (simp <;> rfl) | (simp [*] <;> rfl), by first | exact Kd.R_nil _ _ _ _ _ | exact Kd.N_nil _ _ _ _ _ | exact Kd.V_nil _ _ _ _ _ | exact Kd.Q_nil _ _ _ _ _ | exact Kd.S_nil _ _ _ _ _, bl_ HB⟩
def medlarref17_take.l0 : Nat → List Int → Int → Int → Option (Int)
  | 0, _, _, _ => none
  | k + 1, x0, x3, x4 => if x4 ≥ 0 then (if 0 ≤ x4 then (if x4 < (x0.length : Int) then (medlarref17_take.l0 k x0 (IntKind.u64.wrap ((IntKind.u64.wrap (256 * x3)) + (IntKind.u64.wrap (rd x0 x4)))) (wrap64 (x4 - 1))) else (none)) else (none)) else (some x3)
def medlarref17_take.f (k : Nat) (l0 : List Int) : Option (Int) := medlarref17_take.l0 k l0 0 (wrap64 ((l0.length : Int) - 1))
theorem medlarref17_take.mono_l : ∀ k, (∀ y0 y1 y2, LeO (medlarref17_take.l0 k y0 y1 y2) (medlarref17_take.l0 (k + 1) y0 y1 y2))
  | 0 => fun _ _ _ r h => by simp [medlarref17_take.l0] at h
  | k + 1 => by
   have ih0 := medlarref17_take.mono_l k
   ·intro y0 y1 y2
    unfold medlarref17_take.l0
    repeat' first
    | (with_reducible exact ih0 _ _ _)
    | (with_reducible exact LeO.refl _)
    | (with_reducible exact LeO.none _)
    | (with_reducible refine LeO.ite ?_ ?_)
    | (with_reducible refine LeO.bind ?_ (fun _ => ?_))
    | exact ih0 _ _ _
    | exact LeO.none _
    | refine LeO.ite ?_ ?_
    | refine LeO.bind ?_ (fun _ => ?_)
theorem medlarref17_take.mono : ∀ a0 k, LeO (medlarref17_take.f k a0) (medlarref17_take.f (k + 1) a0) := by
  intro a0 k
  have ih0 := medlarref17_take.mono_l k
  unfold medlarref17_take.f
  repeat' first
    | (with_reducible exact ih0 _ _ _)
    | (with_reducible exact LeO.refl _)
    | (with_reducible exact LeO.none _)
    | (with_reducible refine LeO.ite ?_ ?_)
    | (with_reducible refine LeO.bind ?_ (fun _ => ?_))
    | exact ih0 _ _ _
    | exact LeO.none _
    | refine LeO.ite ?_ ?_
    | refine LeO.bind ?_ (fun _ => ?_)
set_option maxHeartbeats 8000000 in
set_option maxRecDepth 100000 in
theorem medlarref17_take.calls (k : Nat) (A0 : Option Addr) (c0 : Nat) (l0 : List Int) (r : Int) (w : World) (hr0 : Kd.C (Kd.int .u8) w A0 l0.length l0) (hc0 : l0.length ≤ c0) (h : medlarref17_take.f k l0 = some r) :
   Calls Try.prog 72 #[.slice A0 l0.length c0] w fun e w' => e = .returned (.int .u64 r) ∧ Drawn0 w w' := by
  have HR0 := ak_ hr0
  have HC0 := ak_ hc0
  clear hr0 hc0
  have H : (medlarref17_take.l0 k l0 0 (wrap64 ((l0.length : Int) - 1))) = some r := h
  clear h
  have H' := ak_ H
  clear H
  go_enter func72, ntmps72
  go_wp2
  go_loopg [3, 4] k (fun kq v3 v4 w' => ∃ (x3_1 : Int) (x4_1 : Int), v3 = .int .u64 x3_1 ∧ v4 = .int .i64 x4_1 ∧ Aside0 (medlarref17_take.l0 kq l0 x3_1 x4_1 = some r) ∧ Aside0 (kq ≤ k) ∧ Drawn0 w w')
  case atStart => exact ⟨(0), (wrap64 ((l0.length : Int) - 1)), rf_, rf_, H', ⟨Nat.le_refl _⟩, by repeat (first | exact Drawn0.refl _ | apply Drawn0.step)⟩
  case round =>
   clear H'
   obtain ⟨x3_1, x4_1, rfl, rfl, HA, HK1, ⟨m1, rfl⟩⟩ := hrel
   cases gk with
   | zero => exact absurd HA.out (by simp [medlarref17_take.l0])
   | succ k1 =>
    have H := HA.out
    clear HA
    simp only [medlarref17_take.l0] at H
    by_cases c2 : x4_1 ≥ 0
    ·rw [if_pos c2] at H
     have c2b0 : decide (0 ≤ x4_1) = true := decide_eq_true c2
     clear c2
     by_cases c3 : 0 ≤ x4_1
     ·rw [if_pos c3] at H
      have c3b0 := decide_eq_true c3
      clear c3
      by_cases c4 : x4_1 < (l0.length : Int)
      ·rw [if_pos c4] at H
       have c4b0 := decide_eq_true c4
       clear c4
       have H' := ak_ H
       clear H
       have p375 : 0 ≤ (x4_1 : Int) := od_ (by first | (with_reducible assumption) | assumption)
       have q375 : x4_1 < (l0.length : Int) := od_ (by first | (with_reducible assumption) | assumption)
       obtain ⟨ad375, e375, hx375_0⟩ := Kd.at_int HR0.out x4_1 p375 q375
       cases e375
       replace p375 := eq_true p375
       replace q375 := eq_true q375
       go_wp2
       go_roundg k1
       case measure => have := HK1.out; omega
       case rel => exact ⟨(IntKind.u64.wrap ((IntKind.u64.wrap (256 * x3_1)) + (IntKind.u64.wrap (rd l0 x4_1)))), (wrap64 (x4_1 - 1)), rf_, rf_, H', ⟨by have := HK1.out; omega⟩, by repeat (first | exact Drawn0.refl _ | apply Drawn0.step)⟩
      ·rw [if_neg c4] at H
       exact absurd H (by simp)
     ·rw [if_neg c3] at H
      exact absurd H (by simp)
    ·rw [if_neg c2] at H
     have c2b0 : decide (0 ≤ x4_1) = false := decide_eq_false c2
     clear c2
     obtain rfl := Option.some.inj H
     go_wp2
     go_ret
     exact ⟨by first | rfl | (simp; done) | (simp [*]; done), by repeat (first | exact Drawn0.refl _ | apply Drawn0.step)⟩
def medlarref03_number.l0 : Nat → List Int → Int → Int → Option (Int)
  | 0, _, _, _ => none
  | k + 1, x0, x3, x4 => if x4 ≥ 0 then (if 0 ≤ x4 then (if x4 < (x0.length : Int) then (medlarref03_number.l0 k x0 (IntKind.u64.wrap ((IntKind.u64.wrap (256 * x3)) + (IntKind.u64.wrap (rd x0 x4)))) (wrap64 (x4 - 1))) else (none)) else (none)) else (some x3)
def medlarref03_number.f (k : Nat) (l0 : List Int) : Option (Int) := medlarref03_number.l0 k l0 0 (wrap64 ((l0.length : Int) - 1))
theorem medlarref03_number.mono_l : ∀ k, (∀ y0 y1 y2, LeO (medlarref03_number.l0 k y0 y1 y2) (medlarref03_number.l0 (k + 1) y0 y1 y2))
  | 0 => fun _ _ _ r h => by simp [medlarref03_number.l0] at h
  | k + 1 => by
   have ih0 := medlarref03_number.mono_l k
   ·intro y0 y1 y2
    unfold medlarref03_number.l0
    repeat' first
    | (with_reducible exact ih0 _ _ _)
    | (with_reducible exact LeO.refl _)
    | (with_reducible exact LeO.none _)
    | (with_reducible refine LeO.ite ?_ ?_)
    | (with_reducible refine LeO.bind ?_ (fun _ => ?_))
    | exact ih0 _ _ _
    | exact LeO.none _
    | refine LeO.ite ?_ ?_
    | refine LeO.bind ?_ (fun _ => ?_)
theorem medlarref03_number.mono : ∀ a0 k, LeO (medlarref03_number.f k a0) (medlarref03_number.f (k + 1) a0) := by
  intro a0 k
  have ih0 := medlarref03_number.mono_l k
  unfold medlarref03_number.f
  repeat' first
    | (with_reducible exact ih0 _ _ _)
    | (with_reducible exact LeO.refl _)
    | (with_reducible exact LeO.none _)
    | (with_reducible refine LeO.ite ?_ ?_)
    | (with_reducible refine LeO.bind ?_ (fun _ => ?_))
    | exact ih0 _ _ _
    | exact LeO.none _
    | refine LeO.ite ?_ ?_
    | refine LeO.bind ?_ (fun _ => ?_)
set_option maxHeartbeats 8000000 in
set_option maxRecDepth 100000 in
theorem medlarref03_number.calls (k : Nat) (A0 : Option Addr) (c0 : Nat) (l0 : List Int) (r : Int) (w : World) (hr0 : Kd.C (Kd.int .u8) w A0 l0.length l0) (hc0 : l0.length ≤ c0) (h : medlarref03_number.f k l0 = some r) :
   Calls Try.prog 118 #[.slice A0 l0.length c0] w fun e w' => e = .returned (.int .u64 r) ∧ Drawn0 w w' := by
  have HR0 := ak_ hr0
  have HC0 := ak_ hc0
  clear hr0 hc0
  have H : (medlarref03_number.l0 k l0 0 (wrap64 ((l0.length : Int) - 1))) = some r := h
  clear h
  have H' := ak_ H
  clear H
  go_enter func118, ntmps118
  go_wp2
  go_loopg [3, 4] k (fun kq v3 v4 w' => ∃ (x3_1 : Int) (x4_1 : Int), v3 = .int .u64 x3_1 ∧ v4 = .int .i64 x4_1 ∧ Aside0 (medlarref03_number.l0 kq l0 x3_1 x4_1 = some r) ∧ Aside0 (kq ≤ k) ∧ Drawn0 w w')
  case atStart => exact ⟨(0), (wrap64 ((l0.length : Int) - 1)), rf_, rf_, H', ⟨Nat.le_refl _⟩, by repeat (first | exact Drawn0.refl _ | apply Drawn0.step)⟩
  case round =>
   clear H'
   try clear c1
   obtain ⟨x3_1, x4_1, rfl, rfl, HA, HK1, ⟨m1, rfl⟩⟩ := hrel
   cases gk with
   | zero => exact absurd HA.out (by simp [medlarref03_number.l0])
   | succ k1 =>
    have H := HA.out
    clear HA
    simp only [medlarref03_number.l0] at H
    by_cases c2 : x4_1 ≥ 0
    ·rw [if_pos c2] at H
     have c2b0 : decide (0 ≤ x4_1) = true := decide_eq_true c2
     clear c2
     by_cases c3 : 0 ≤ x4_1
     ·rw [if_pos c3] at H
      have c3b0 := decide_eq_true c3
      clear c3
      by_cases c4 : x4_1 < (l0.length : Int)
      ·rw [if_pos c4] at H
       have c4b0 := decide_eq_true c4
       clear c4
       have H' := ak_ H
       clear H
       have p376 : 0 ≤ (x4_1 : Int) := od_ (by first | (with_reducible assumption) | assumption)
       have q376 : x4_1 < (l0.length : Int) := od_ (by first | (with_reducible assumption) | assumption)
       obtain ⟨ad376, e376, hx376_0⟩ := Kd.at_int HR0.out x4_1 p376 q376
       cases e376
       replace p376 := eq_true p376
       replace q376 := eq_true q376
       go_wp2
       go_roundg k1
       case measure => have := HK1.out; omega
       case rel => exact ⟨(IntKind.u64.wrap ((IntKind.u64.wrap (256 * x3_1)) + (IntKind.u64.wrap (rd l0 x4_1)))), (wrap64 (x4_1 - 1)), rf_, rf_, H', ⟨by have := HK1.out; omega⟩, by repeat (first | exact Drawn0.refl _ | apply Drawn0.step)⟩
      ·rw [if_neg c4] at H
       exact absurd H (by simp)
     ·rw [if_neg c3] at H
      exact absurd H (by simp)
    ·rw [if_neg c2] at H
     have c2b0 : decide (0 ≤ x4_1) = false := decide_eq_false c2
     clear c2
     obtain rfl := Option.some.inj H
     go_wp2
     go_ret
     exact ⟨by first | rfl | (simp; done) | (simp [*]; done), by repeat (first | exact Drawn0.refl _ | apply Drawn0.step)⟩
def medlarref03_Of.f (k : Nat) (l0 : List Int) : Option (Int × Int × Int) := if (l0.length : Int) = 16 then (if 8 ≤ (l0.length : Int) then ((medlarref03_number.f k (l0.take 8)).bind fun t379 => ((medlarref03_number.f k (l0.drop 8)).bind fun t381 => (some (t379, t381, 0)))) else (none)) else (some (0, 0, 2))
theorem medlarref03_Of.mono : ∀ a0 k, LeO (medlarref03_Of.f k a0) (medlarref03_Of.f (k + 1) a0) := by
  intro a0 k
  unfold medlarref03_Of.f
  repeat' first
    | (with_reducible exact medlarref03_number.mono _ _)
    | (with_reducible exact LeO.refl _)
    | (with_reducible exact LeO.none _)
    | (with_reducible refine LeO.ite ?_ ?_)
    | (with_reducible refine LeO.bind ?_ (fun _ => ?_))
    | exact medlarref03_number.mono _ _
    | exact LeO.none _
    | refine LeO.ite ?_ ?_
    | refine LeO.bind ?_ (fun _ => ?_)
def medlarref03_Of.T3 : Bool × List (List Nat × List Nat) := (true, [([], []), ([0], [0]), ([1], [1]), ([], []), ([3], [3]), ([4, 2], [4]), ([2, 5], [2, 5]), ([6, 5, 0, 1, 2, 3, 4, 5, 6], [6]), ([7, 0, 1, 2, 3, 4, 5, 6, 7], [])])
def medlarref03_Of.B3 : List Nat := [0, 1, 3, 0, 8, 31, 63, 127, 255]
theorem medlarref03_Of.tab3 : rtab .any (opsOf Try.f81 3) = medlarref03_Of.T3 := by kernel_rfl
theorem medlarref03_Of.bits3 : waitsOk medlarref03_Of.T3.2 medlarref03_Of.B3 = true := by kernel_rfl
set_option maxHeartbeats 8000000 in
set_option maxRecDepth 100000 in
theorem medlarref03_Of.calls (k : Nat) (A0 : Option Addr) (c0 : Nat) (l0 : List Int) (r1 : Int) (r2 : Int) (r3 : Int) (w : World) (hr0 : Kd.C (Kd.int .u8) w A0 l0.length l0) (hc0 : l0.length ≤ c0) (h : medlarref03_Of.f k l0 = some (r1, r2, r3)) :
   Calls Try.prog 81 #[.slice A0 l0.length c0] w fun e w' => e = .returned (.tuple #[.agg #[.int .u64 r1, .int .u64 r2], .int .i64 r3]) ∧ Below w.heap.size w w' := by
  have hu25 := underlying25
  have HR0 := ak_ hr0
  have HC0 := ak_ hc0
  clear hr0 hc0
  have HB := ak_ (Below.refl w.heap.size w)
  have H : (if (l0.length : Int) = 16 then (if 8 ≤ (l0.length : Int) then ((medlarref03_number.f k (l0.take 8)).bind fun t379 => ((medlarref03_number.f k (l0.drop 8)).bind fun t381 => (some (t379, t381, 0)))) else (none)) else (some (0, 0, 2))) = some (r1, r2, r3) := h
  clear h
  by_cases c2 : (l0.length : Int) = 16
  ·rw [if_pos c2] at H
   have c2b0 : ((l0.length : Int) == 16) = true := beq_iff_eq.mpr c2
   have c2b1 : ((l0.length : Int) != 16) = false := bne_eq_false_iff_eq.mpr c2
   clear c2
   by_cases c3 : 8 ≤ (l0.length : Int)
   ·rw [if_pos c3] at H
    have c3b0 := eq_true c3
    have c3b1 := decide_eq_true c3
    clear c3
    replace H := bind_eq_some_iff.mp H
    obtain ⟨t379, A40, H⟩ := H
    replace H : ((medlarref03_number.f k (l0.drop 8)).bind fun t381 => (some (t379, t381, 0))) = some (r1, r2, r3) := H
    have A4 := ak_ A40
    clear A40
    have c5b0 := eq_true (od_ (by first | (with_reducible assumption) | assumption) : 8 ≤ (l0.length : Int))
    replace H := bind_eq_some_iff.mp H
    obtain ⟨t381, A60, H⟩ := H
    replace H : (some (t379, t381, 0)) = some (r1, r2, r3) := H
    have A6 := ak_ A60
    clear A60
    simp only [some.injEq, Prod.mk.injEq] at H
    obtain ⟨rfl, rfl, rfl⟩ := H
    go_enter func81, ntmps81
    try go_wp2_with (first | ((with_reducible refine gate_dst (N := 2) rfl ?_); refine bx_ 2 #[.int .u64 0, .int .u64 0] 25 ?_; intro gb377 hg w7 hbox hb; have BK377 := ak_ hbox; have GW377 := ak_ (gs_ hg HB); have GE377 := ak_ (gs_ hg HB); replace HB := ak_ (bt_ (bl_ HB) hb); clear hb hbox hg))
    replace BK377 := ak_ (kd_ BK377.out)
    replace HB := ak_ (bd_ HB.out)
    obtain ⟨i09, hi09, _, hsz9, _⟩ := info_parts info5
    obtain ⟨hcut9, hA9, hC9⟩ := print_take_of (P := Try.prog) (Value.int .u8) 0 35 5 .i64 underlying35 hi09 hsz9 A0 c0 l0 8 (by omega) (od_ (by first | (with_reducible assumption) | assumption)) HC0.out
    have HR378 := ak_ (Kd.C_of_reads (h1 := fun _ => rfl) (hA9 _ (Kd.reads_of_C HR0.out)))
    have HC378 := ak_ hC9
    clear hA9 hC9 hi09 hsz9
    obtain ⟨i010, hi010, _, hsz10, _⟩ := info_parts info5
    obtain ⟨A10, hcut10, hA10, hC10⟩ := print_drop_of (P := Try.prog) (Value.int .u8) 0 35 5 .i64 underlying35 hi010 hsz10 A0 c0 l0 8 (by omega) (od_ (by first | (with_reducible assumption) | assumption)) HC0.out
    have HR380 := ak_ (Kd.C_of_reads (h1 := fun _ => rfl) (hA10 _ (Kd.reads_of_C HR0.out)))
    have HC380 := ak_ hC10
    clear hA10 hC10 hi010 hsz10
    refine start_ (n := 9) (S := fun w' => True) (ds := []) #[false, false, false, false, false, false, false, false, false] (by kernel_rfl) rfl rfl trivial (fun hHeld => ?_); refine with_tabW medlarref03_Of.tab3 medlarref03_Of.bits3 (fun HT_ HW_ => ?_)
    generalize w7.drew = w8 at BK377 HB HR378 HR380 hHeld ⊢
    refine pu_ HT_ 0 (some 8) #[true, false, false, false, false, false, false, false, false] ?_
    refine pu_ HT_ 1 (some 9) #[true, true, false, false, false, false, false, false, false] ?_
    refine pu_ HT_ 3 (some 11) #[true, true, false, true, false, false, false, false, false] ?_
    refine pu_ HT_ 4 (some 12) #[true, true, false, true, true, false, false, false, false] ?_
    refine one_ (i := 2) (N := some 10) #[true, true, true, true, true, false, false, false, false] rfl rfl (one_of HT_.out (by kernel_rfl)) (by decide) (fun K hK => ?_)
    refine goes_ func118 (by kernel_rfl) rfl #[.slice A0 (l0.take 8).length c0] (by rfl) rfl rfl (by (try simp only [map_toArray, map_cons, map_nil]); first | done | (rw [show (l0.take 8).length = 8 from (by rw [List.length_take]; have h_ : (8 : Int) ≤ (l0.length : Int) := od_ (by first | (with_reducible assumption) | assumption); omega)] <;> rfl) | rfl | (simp only [length_drop, length_take]; rfl)) ?_
    with_reducible refine (medlarref03_number.calls k _ _ (l0.take 8) t379 _ ?side1 ?side2 A4.out).mono ?_
    (case side1 => repeat (first | exact (Kd.C_below HR378.out HB.out) | (with_reducible refine Kd.C_alloc ?_ _) | (with_reducible refine Kd.C_drewN ?_ _) | (with_reducible refine Kd.C_drew ?_)))
    (case side2 => exact HC378.out)
    rintro e w' ⟨rfl, ⟨nd, rfl⟩⟩
    refine ⟨_, rfl, ?_⟩
    refine hK.out _ _ trivial (fun hHeld => ?_)
    clear hK K
    refine norm_ (a' := ?_) ?_ ?_
    rotate_left
    ·show Act.put _ (some 10) _ = _
     simp only [Act.put, setIfInBounds_toArray, set_cons_zero, set_cons_succ, i64_w, i32_w]
     rfl
    refine one_ (i := 5) (N := some 13) #[true, true, true, true, true, true, false, false, false] rfl rfl (one_of HT_.out (by kernel_rfl)) (by decide) (fun K hK => ?_)
    refine goes_ func118 (by kernel_rfl) rfl #[.slice A10 (l0.drop 8).length (c0 - 8)] (by rfl) rfl rfl (by (try simp only [map_toArray, map_cons, map_nil]); first | done | (rw [show (l0.drop 8).length = (l0.length - 8) from List.length_drop] <;> rfl) | rfl | (simp only [length_drop, length_take]; rfl)) ?_
    with_reducible refine (medlarref03_number.calls k _ _ (l0.drop 8) t381 _ ?side1 ?side2 A6.out).mono ?_
    (case side1 => repeat (first | exact (Kd.C_below HR380.out (by repeat (first | (with_reducible first | exact HB.out | apply ba_ | apply bn_ | apply bd_ | refine below_set ?_ GE377.out) | exact HB.out))) | (with_reducible refine Kd.C_alloc ?_ _) | (with_reducible refine Kd.C_drewN ?_ _) | (with_reducible refine Kd.C_drew ?_)))
    (case side2 => exact HC380.out)
    rintro e w' ⟨rfl, ⟨nd, rfl⟩⟩
    refine ⟨_, rfl, ?_⟩
    refine hK.out _ _ trivial (fun hHeld => ?_)
    clear hK K
    refine norm_ (a' := ?_) ?_ ?_
    rotate_left
    ·show Act.put _ (some 13) _ = _
     simp only [Act.put, setIfInBounds_toArray, set_cons_zero, set_cons_succ, i64_w, i32_w]
     rfl
    refine pu_ HT_ 6 (some 14) #[true, true, true, true, true, true, true, false, false] ?_
    refine one_ (i := 7) (N := none) #[true, true, true, true, true, true, true, true, false] rfl rfl (one_of HT_.out (by kernel_rfl)) (by decide) (fun K hK => ?_)
    have hs11 : w8.cell? ⟨gb377, 0, none⟩ = some (.int .u64 0) := (kc_ BK377.out 0).trans rfl
    have hfs11 := kf_ BK377.out 0
    have hs12 : w8.cell? ⟨gb377, 1, none⟩ = some (.int .u64 0) := (kc_ BK377.out 1).trans rfl
    have hfs12 := kf_ BK377.out 1
    refine skip_ (w1 := ?_) (by rfl) rfl ?_ ?_
    rotate_left
    ·go_simp
     rfl
    refine hK.out _ _ trivial (fun hHeld => ?_)
    clear hK K
    refine pu_ HT_ 8 (some 3) #[true, true, true, true, true, true, true, true, true] ?_
    refine done_ (done_of HT_.out (by kernel_rfl)) ?_
    try go_wp2
    refine bodyPost_ret (results_ct rfl _ _ gb377 25 #[.int .u64 t379, .int .u64 t381] (0, 0) _ rfl (by (with_reducible repeat (first | refine kn_ ?_ _ | refine kd_ ?_ | refine ka_ ?_ _)); refine blk_put (cs := #[.int .u64 t379, .int .u64 0]) ?_ 1 _ rfl; (with_reducible repeat (first | refine kn_ ?_ _ | refine kd_ ?_ | refine ka_ ?_ _)); refine blk_put (cs := #[.int .u64 0, .int .u64 0]) ?_ 0 _ rfl; (with_reducible repeat (first | refine kn_ ?_ _ | refine kd_ ?_ | refine ka_ ?_ _)); exact BK377.out) underlying25 rfl (by kernel_rfl)) rfl ?_
    exact ea_ (by repeat (first | (with_reducible first | exact HB.out | apply ba_ | apply bn_ | apply bd_ | refine below_set ?_ GE377.out) | exact HB.out))
   ·rw [if_neg c3] at H
    exact absurd H (by simp)
  ·rw [if_neg c2] at H
   have c2b0 : ((l0.length : Int) == 16) = false := beq_eq_false_iff_ne.mpr c2
   have c2b1 : ((l0.length : Int) != 16) = true := bne_iff_ne.mpr c2
   simp only [some.injEq, Prod.mk.injEq] at H
   obtain ⟨rfl, rfl, rfl⟩ := H
   go_enter func81, ntmps81
   go_wp2_with (first | ((with_reducible refine gate_dst (N := 2) rfl ?_); refine bx_ 2 #[.int .u64 0, .int .u64 0] 25 ?_; intro gb377 hg w13 hbox hb; have BK377 := ak_ hbox; have GW377 := ak_ (gs_ hg HB); have GE377 := ak_ (gs_ hg HB); replace HB := ak_ (bt_ (bl_ HB) hb); clear hb hbox hg; have hcz14_0 := kq_ BK377.out 0 rfl; have hcz14_1 := kq_ BK377.out 1 rfl; have hfz14_0 := kf_ BK377.out 0; have hfz14_1 := kf_ BK377.out 1))
   refine bodyPost_ret (results_ct rfl _ _ gb377 25 #[.int .u64 0, .int .u64 0] (0, 0) _ rfl (by (with_reducible repeat (first | refine kn_ ?_ _ | refine kd_ ?_ | refine ka_ ?_ _)); refine blk_put (cs := #[.int .u64 0, .int .u64 0]) ?_ 1 _ rfl; (with_reducible repeat (first | refine kn_ ?_ _ | refine kd_ ?_ | refine ka_ ?_ _)); refine blk_put (cs := #[.int .u64 0, .int .u64 0]) ?_ 0 _ rfl; (with_reducible repeat (first | refine kn_ ?_ _ | refine kd_ ?_ | refine ka_ ?_ _)); exact BK377.out) underlying25 rfl (by kernel_rfl)) rfl ?_
   exact ea_ (by repeat (first | (with_reducible first | exact HB.out | apply ba_ | apply bn_ | apply bd_ | refine below_set ?_ GE377.out) | exact HB.out))
end Go.Proofs.Ytoljdfgkkkpnbaa.MP
