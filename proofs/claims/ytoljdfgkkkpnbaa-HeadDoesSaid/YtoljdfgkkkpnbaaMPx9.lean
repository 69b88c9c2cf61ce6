-- written by a program of this session (wip/tools/mprint.sh) for this seat
import Derived.Test.YtoljdfgkkkpnbaaMPx0
import Derived.Test.YtoljdfgkkkpnbaaMPx1
import Derived.Test.YtoljdfgkkkpnbaaMPx8
namespace Go.Proofs.Ytoljdfgkkkpnbaa.MP
open Go.RowKit Go.Proofs.YtoljdfgkkkpnbaaW.PrintWords Go.Proofs.YtoljdfgkkkpnbaaW.PrintLast Go.Proofs.YtoljdfgkkkpnbaaW.PrintMore
open Option (bind_eq_some_iff some.injEq)
open _root_.Go.Proofs.Try
open List (setIfInBounds_toArray set_cons_zero set_cons_succ map_toArray map_cons map_nil length_drop length_take)
attribute [local go_sem] max2_int min2_int max_two min_two max_three min_three max_four min_four
set_option linter.unusedVariables false
set_option linter.unusedSimpArgs false
attribute [local go_sem high] eqA29
def head_Same.f (k : Nat) (a0_0 : Int) (a0_1 : Int) (a0_2 : Int) (l0_3 : List (S41)) (a0_4 : Bool) (a0_5 : Bool) (a0_6 : Int) (a0_7 : Int) (a0_8 : Int) (a0_9 : Int) (a0_10 : Int) (a0_11 : Int) (a0_12 : Int) (a1_0 : Int) (a1_1 : Int) (a1_2 : Int) (l1_3 : List (S41)) (a1_4 : Bool) (a1_5 : Bool) (a1_6 : Int) (a1_7 : Int) (a1_8 : Int) (a1_9 : Int) (a1_10 : Int) (a1_11 : Int) (a1_12 : Int) : Option (Bool) := if a0_0 = a1_0 then (if a0_1 = a1_1 then (if a0_2 = a1_2 then (if (a0_4 == a1_4 && (a0_5 == a1_5 && ((a0_6 == a1_6 && (a0_7 == a1_7)) && (((a0_8 == a1_8 && (a0_9 == a1_9)) && ((a0_10 == a1_10 && (a0_11 == a1_11)))) && (a0_12 == a1_12))))) = true then ((api_Part.f k l0_3 l1_3).bind fun t415 => (some t415)) else (some false)) else (some false)) else (some false)) else (some false)
theorem head_Same.mono : ∀ a0 a1 a2 a3 a4 a5 a6 a7 a8 a9 a10 a11 a12 a13 a14 a15 a16 a17 a18 a19 a20 a21 a22 a23 a24 a25 k, LeO (head_Same.f k a0 a1 a2 a3 a4 a5 a6 a7 a8 a9 a10 a11 a12 a13 a14 a15 a16 a17 a18 a19 a20 a21 a22 a23 a24 a25) (head_Same.f (k + 1) a0 a1 a2 a3 a4 a5 a6 a7 a8 a9 a10 a11 a12 a13 a14 a15 a16 a17 a18 a19 a20 a21 a22 a23 a24 a25) := by
  intro a0 a1 a2 a3 a4 a5 a6 a7 a8 a9 a10 a11 a12 a13 a14 a15 a16 a17 a18 a19 a20 a21 a22 a23 a24 a25 k
  unfold head_Same.f
  repeat' first | (with_reducible first | exact api_Part.mono .. | exact LeO.refl _ | exact LeO.none _ | refine LeO.ite ?_ ?_ | refine LeO.bind ?_ (fun _ => ?_)) | exact api_Part.mono .. | refine LeO.ite ?_ ?_ | refine LeO.bind ?_ (fun _ => ?_)
set_option maxHeartbeats 8000000 in
set_option maxRecDepth 100000 in
theorem head_Same.calls (k : Nat) (a0_0 : Int) (a0_1 : Int) (a0_2 : Int) (A0_3 : Option Addr) (c0_3 : Nat) (l0_3 : List (S41)) (a0_4 : Bool) (a0_5 : Bool) (a0_6 : Int) (a0_7 : Int) (a0_8 : Int) (a0_9 : Int) (a0_10 : Int) (a0_11 : Int) (a0_12 : Int) (a1_0 : Int) (a1_1 : Int) (a1_2 : Int) (A1_3 : Option Addr) (c1_3 : Nat) (l1_3 : List (S41)) (a1_4 : Bool) (a1_5 : Bool) (a1_6 : Int) (a1_7 : Int) (a1_8 : Int) (a1_9 : Int) (a1_10 : Int) (a1_11 : Int) (a1_12 : Int) (r : Bool) (w : World) (hr0_3 : Kd.C k41 w A0_3 l0_3.length l0_3) (hc0_3 : l0_3.length ≤ c0_3) (hr1_3 : Kd.C k41 w A1_3 l1_3.length l1_3) (hc1_3 : l1_3.length ≤ c1_3) (h : head_Same.f k a0_0 a0_1 a0_2 l0_3 a0_4 a0_5 a0_6 a0_7 a0_8 a0_9 a0_10 a0_11 a0_12 a1_0 a1_1 a1_2 l1_3 a1_4 a1_5 a1_6 a1_7 a1_8 a1_9 a1_10 a1_11 a1_12 = some r) :
   Calls Try.prog 26 #[.agg #[.int .i64 a0_0, .int .i64 a0_1, .int .i64 a0_2, .slice A0_3 l0_3.length c0_3, .bool a0_4, .bool a0_5, .int .u64 a0_6, .int .u64 a0_7, .int .u64 a0_8, .int .u64 a0_9, .int .u64 a0_10, .int .u64 a0_11, .int .i64 a0_12], .agg #[.int .i64 a1_0, .int .i64 a1_1, .int .i64 a1_2, .slice A1_3 l1_3.length c1_3, .bool a1_4, .bool a1_5, .int .u64 a1_6, .int .u64 a1_7, .int .u64 a1_8, .int .u64 a1_9, .int .u64 a1_10, .int .u64 a1_11, .int .i64 a1_12]] w fun e w' => e = .returned (.bool r) ∧ Below w.heap.size w w' := by
  have hu31 := underlying31
  have hu29 := underlying29
  have HR0_3 := ak_ hr0_3
  have HC0_3 := ak_ hc0_3
  clear hr0_3 hc0_3
  have HR1_3 := ak_ hr1_3
  have HC1_3 := ak_ hc1_3
  clear hr1_3 hc1_3
  have HB := ak_ (Below.refl w.heap.size w)
  have H : (if a0_0 = a1_0 then (if a0_1 = a1_1 then (if a0_2 = a1_2 then (if (a0_4 == a1_4 && (a0_5 == a1_5 && ((a0_6 == a1_6 && (a0_7 == a1_7)) && (((a0_8 == a1_8 && (a0_9 == a1_9)) && ((a0_10 == a1_10 && (a0_11 == a1_11)))) && (a0_12 == a1_12))))) = true then ((api_Part.f k l0_3 l1_3).bind fun t415 => (some t415)) else (some false)) else (some false)) else (some false)) else (some false)) = some r := h
  clear h
  by_cases c3 : a0_0 = a1_0
  ·rw [if_pos c3] at H
   have c3b0 : (a0_0 == a1_0) = true := beq_iff_eq.mpr c3
   have c3b1 : (a0_0 != a1_0) = false := bne_eq_false_iff_eq.mpr c3
   clear c3
   by_cases c4 : a0_1 = a1_1
   ·rw [if_pos c4] at H
    have c4b0 : (a0_1 == a1_1) = true := beq_iff_eq.mpr c4
    have c4b1 : (a0_1 != a1_1) = false := bne_eq_false_iff_eq.mpr c4
    clear c4
    by_cases c5 : a0_2 = a1_2
    ·rw [if_pos c5] at H
     have c5b0 : (a0_2 == a1_2) = true := beq_iff_eq.mpr c5
     have c5b1 : (a0_2 != a1_2) = false := bne_eq_false_iff_eq.mpr c5
     clear c5
     by_cases c6 : (a0_4 == a1_4 && (a0_5 == a1_5 && ((a0_6 == a1_6 && (a0_7 == a1_7)) && (((a0_8 == a1_8 && (a0_9 == a1_9)) && ((a0_10 == a1_10 && (a0_11 == a1_11)))) && (a0_12 == a1_12))))) = true
     ·rw [if_pos c6] at H
      have c6b0 : (a0_4 == a1_4 && (a0_5 == a1_5 && ((a0_6 == a1_6 && (a0_7 == a1_7)) && (((a0_8 == a1_8 && (a0_9 == a1_9)) && ((a0_10 == a1_10 && (a0_11 == a1_11)))) && (a0_12 == a1_12))))) = true := c6
      (try (have c6b1 : decide (a0_4 = a1_4 && (a0_5 == a1_5 && ((a0_6 == a1_6 && (a0_7 == a1_7)) && (((a0_8 == a1_8 && (a0_9 == a1_9)) && ((a0_10 == a1_10 && (a0_11 == a1_11)))) && (a0_12 == a1_12))))) = true := by simpa using c6))
      (try (have c6b2 : (a0_4 == a1_4 && (a0_5 == a1_5 && ((a0_6 == a1_6 && (a0_7 == a1_7)) && (((a0_8 == a1_8 && (a0_9 == a1_9)) && ((a0_10 == a1_10 && (a0_11 == a1_11)))) && (a0_12 == a1_12))))) = true := by simpa using c6))
      clear c6
      replace H := bind_eq_some_iff.mp H
      obtain ⟨t415, A70, H⟩ := H
      replace H : (some t415) = some r := H
      have A7 := ak_ A70
      clear A70
      obtain rfl := Option.some.inj H
      go_enter func26, ntmps26
      go_wp2_with (first | ((with_reducible refine gate_dst (N := 2) rfl ?_); refine bx_ 2 #[.int .i64 a0_0, .int .i64 a0_1, .int .i64 a0_2, .slice A0_3 l0_3.length c0_3, .bool a0_4, .bool a0_5, .int .u64 a0_6, .int .u64 a0_7, .int .u64 a0_8, .int .u64 a0_9, .int .u64 a0_10, .int .u64 a0_11, .int .i64 a0_12] 31 ?_; intro gb413 hg w8 hbox hb; have BK413 := ak_ hbox; have GW413 := ak_ (gs_ hg HB); have GE413 := ak_ (gs_ hg HB); replace HB := ak_ (bt_ (bl_ HB) hb); clear hb hbox hg) | ((with_reducible refine gate_dst (N := 3) rfl ?_); refine bx_ 3 #[.int .i64 a1_0, .int .i64 a1_1, .int .i64 a1_2, .slice A1_3 l1_3.length c1_3, .bool a1_4, .bool a1_5, .int .u64 a1_6, .int .u64 a1_7, .int .u64 a1_8, .int .u64 a1_9, .int .u64 a1_10, .int .u64 a1_11, .int .i64 a1_12] 31 ?_; intro gb414 hg w9 hbox hb; have BK414 := ak_ hbox; have GW414 := ak_ (gw1_ HB GE413 hg); have GE414 := ak_ (gw1_ HB GE413 hg); replace HB := ak_ (bt_ (bw1_ HB GE413) hb); have NB413_414 := ak_ (nl_ hg BK413); have NB414_413 := ak_ (nr_ hg BK413); replace BK413 := ak_ (kb_ (kl_ BK413) hb); clear hb hbox hg; have hnb10 := NB413_414.out; have hnc10 := NB414_413.out; obtain ⟨hcz11_0, hcz11_1, hcz11_2, hcz11_3, hcz11_4, hcz11_5, hcz11_6, hcz11_7, hcz11_8, hcz11_9, hcz11_10, hcz11_11, hcz11_12, hfz11_0, hfz11_1, hfz11_2, hfz11_3, hfz11_4, hfz11_5, hfz11_6, hfz11_7, hfz11_8, hfz11_9, hfz11_10, hfz11_11, hfz11_12⟩ := kc13_ BK413.out; obtain ⟨hcz12_0, hcz12_1, hcz12_2, hcz12_3, hcz12_4, hcz12_5, hcz12_6, hcz12_7, hcz12_8, hcz12_9, hcz12_10, hcz12_11, hcz12_12, hfz12_0, hfz12_1, hfz12_2, hfz12_3, hfz12_4, hfz12_5, hfz12_6, hfz12_7, hfz12_8, hfz12_9, hfz12_10, hfz12_11, hfz12_12⟩ := kc13_ BK414.out) | (go_at_call 64; (with_reducible refine (api_Part.calls k _ _ l0_3 _ _ l1_3 t415 _ ?side1 ?side2 ?side3 ?side4 A7.out).mono ?_); (case side1 => repeat (first | exact (Kd.C_below HR0_3.out HB.out) | (with_reducible refine Kd.C_alloc ?_ _) | (with_reducible refine Kd.C_drewN ?_ _) | (with_reducible refine Kd.C_drew ?_))); (case side2 => exact HC0_3.out); (case side3 => repeat (first | exact (Kd.C_below HR1_3.out HB.out) | (with_reducible refine Kd.C_alloc ?_ _) | (with_reducible refine Kd.C_drewN ?_ _) | (with_reducible refine Kd.C_drew ?_))); (case side4 => exact HC1_3.out); rintro e w' ⟨rfl, ⟨nd, rfl⟩⟩))
      go_ret
      exact ea_ (bw2_ HB GE413 GE414)
     ·rw [if_neg c6] at H
      have c6b0 : (a0_4 == a1_4 && (a0_5 == a1_5 && ((a0_6 == a1_6 && (a0_7 == a1_7)) && (((a0_8 == a1_8 && (a0_9 == a1_9)) && ((a0_10 == a1_10 && (a0_11 == a1_11)))) && (a0_12 == a1_12))))) = false := by simpa using c6
      (try (have c6b1 : decide (a0_4 = a1_4 && (a0_5 == a1_5 && ((a0_6 == a1_6 && (a0_7 == a1_7)) && (((a0_8 == a1_8 && (a0_9 == a1_9)) && ((a0_10 == a1_10 && (a0_11 == a1_11)))) && (a0_12 == a1_12))))) = false := by simpa using c6))
      (try (have c6b2 : (a0_4 == a1_4 && (a0_5 == a1_5 && ((a0_6 == a1_6 && (a0_7 == a1_7)) && (((a0_8 == a1_8 && (a0_9 == a1_9)) && ((a0_10 == a1_10 && (a0_11 == a1_11)))) && (a0_12 == a1_12))))) = false := by simpa using c6))
      (try (have c6b3 : ¬ (a0_4 = a1_4 && (a0_5 == a1_5 && ((a0_6 == a1_6 && (a0_7 == a1_7)) && (((a0_8 == a1_8 && (a0_9 == a1_9)) && ((a0_10 == a1_10 && (a0_11 == a1_11)))) && (a0_12 == a1_12))))) := by simpa using c6))
      clear c6
      obtain rfl := Option.some.inj H
      go_enter func26, ntmps26
      go_wp2_with (first | ((with_reducible refine gate_dst (N := 2) rfl ?_); refine bx_ 2 #[.int .i64 a0_0, .int .i64 a0_1, .int .i64 a0_2, .slice A0_3 l0_3.length c0_3, .bool a0_4, .bool a0_5, .int .u64 a0_6, .int .u64 a0_7, .int .u64 a0_8, .int .u64 a0_9, .int .u64 a0_10, .int .u64 a0_11, .int .i64 a0_12] 31 ?_; intro gb413 hg w13 hbox hb; have BK413 := ak_ hbox; have GW413 := ak_ (gs_ hg HB); have GE413 := ak_ (gs_ hg HB); replace HB := ak_ (bt_ (bl_ HB) hb); clear hb hbox hg) | ((with_reducible refine gate_dst (N := 3) rfl ?_); refine bx_ 3 #[.int .i64 a1_0, .int .i64 a1_1, .int .i64 a1_2, .slice A1_3 l1_3.length c1_3, .bool a1_4, .bool a1_5, .int .u64 a1_6, .int .u64 a1_7, .int .u64 a1_8, .int .u64 a1_9, .int .u64 a1_10, .int .u64 a1_11, .int .i64 a1_12] 31 ?_; intro gb414 hg w14 hbox hb; have BK414 := ak_ hbox; have GW414 := ak_ (gw1_ HB GE413 hg); have GE414 := ak_ (gw1_ HB GE413 hg); replace HB := ak_ (bt_ (bw1_ HB GE413) hb); have NB413_414 := ak_ (nl_ hg BK413); have NB414_413 := ak_ (nr_ hg BK413); replace BK413 := ak_ (kb_ (kl_ BK413) hb); clear hb hbox hg; have hnb15 := NB413_414.out; have hnc15 := NB414_413.out; obtain ⟨hcz16_0, hcz16_1, hcz16_2, hcz16_3, hcz16_4, hcz16_5, hcz16_6, hcz16_7, hcz16_8, hcz16_9, hcz16_10, hcz16_11, hcz16_12, hfz16_0, hfz16_1, hfz16_2, hfz16_3, hfz16_4, hfz16_5, hfz16_6, hfz16_7, hfz16_8, hfz16_9, hfz16_10, hfz16_11, hfz16_12⟩ := kc13_ BK413.out; obtain ⟨hcz17_0, hcz17_1, hcz17_2, hcz17_3, hcz17_4, hcz17_5, hcz17_6, hcz17_7, hcz17_8, hcz17_9, hcz17_10, hcz17_11, hcz17_12, hfz17_0, hfz17_1, hfz17_2, hfz17_3, hfz17_4, hfz17_5, hfz17_6, hfz17_7, hfz17_8, hfz17_9, hfz17_10, hfz17_11, hfz17_12⟩ := kc13_ BK414.out))
      go_ret
      exact ea_ (bw2_ HB GE413 GE414)
    ·rw [if_neg c5] at H
     have c5b0 : (a0_2 == a1_2) = false := beq_eq_false_iff_ne.mpr c5
     have c5b1 : (a0_2 != a1_2) = true := bne_iff_ne.mpr c5
     obtain rfl := Option.some.inj H
     go_enter func26, ntmps26
     go_wp2_with (first | ((with_reducible refine gate_dst (N := 2) rfl ?_); refine bx_ 2 #[.int .i64 a0_0, .int .i64 a0_1, .int .i64 a0_2, .slice A0_3 l0_3.length c0_3, .bool a0_4, .bool a0_5, .int .u64 a0_6, .int .u64 a0_7, .int .u64 a0_8, .int .u64 a0_9, .int .u64 a0_10, .int .u64 a0_11, .int .i64 a0_12] 31 ?_; intro gb413 hg w18 hbox hb; have BK413 := ak_ hbox; have GW413 := ak_ (gs_ hg HB); have GE413 := ak_ (gs_ hg HB); replace HB := ak_ (bt_ (bl_ HB) hb); clear hb hbox hg) | ((with_reducible refine gate_dst (N := 3) rfl ?_); refine bx_ 3 #[.int .i64 a1_0, .int .i64 a1_1, .int .i64 a1_2, .slice A1_3 l1_3.length c1_3, .bool a1_4, .bool a1_5, .int .u64 a1_6, .int .u64 a1_7, .int .u64 a1_8, .int .u64 a1_9, .int .u64 a1_10, .int .u64 a1_11, .int .i64 a1_12] 31 ?_; intro gb414 hg w19 hbox hb; have BK414 := ak_ hbox; have GW414 := ak_ (gw1_ HB GE413 hg); have GE414 := ak_ (gw1_ HB GE413 hg); replace HB := ak_ (bt_ (bw1_ HB GE413) hb); have NB413_414 := ak_ (nl_ hg BK413); have NB414_413 := ak_ (nr_ hg BK413); replace BK413 := ak_ (kb_ (kl_ BK413) hb); clear hb hbox hg; have hnb20 := NB413_414.out; have hnc20 := NB414_413.out; obtain ⟨hcz21_0, hcz21_1, hcz21_2, hcz21_3, hcz21_4, hcz21_5, hcz21_6, hcz21_7, hcz21_8, hcz21_9, hcz21_10, hcz21_11, hcz21_12, hfz21_0, hfz21_1, hfz21_2, hfz21_3, hfz21_4, hfz21_5, hfz21_6, hfz21_7, hfz21_8, hfz21_9, hfz21_10, hfz21_11, hfz21_12⟩ := kc13_ BK413.out; obtain ⟨hcz22_0, hcz22_1, hcz22_2, hcz22_3, hcz22_4, hcz22_5, hcz22_6, hcz22_7, hcz22_8, hcz22_9, hcz22_10, hcz22_11, hcz22_12, hfz22_0, hfz22_1, hfz22_2, hfz22_3, hfz22_4, hfz22_5, hfz22_6, hfz22_7, hfz22_8, hfz22_9, hfz22_10, hfz22_11, hfz22_12⟩ := kc13_ BK414.out))
     go_ret
     exact ea_ (bw2_ HB GE413 GE414)
   ·rw [if_neg c4] at H
    have c4b0 : (a0_1 == a1_1) = false := beq_eq_false_iff_ne.mpr c4
    have c4b1 : (a0_1 != a1_1) = true := bne_iff_ne.mpr c4
    obtain rfl := Option.some.inj H
    go_enter func26, ntmps26
    go_wp2_with (first | ((with_reducible refine gate_dst (N := 2) rfl ?_); refine bx_ 2 #[.int .i64 a0_0, .int .i64 a0_1, .int .i64 a0_2, .slice A0_3 l0_3.length c0_3, .bool a0_4, .bool a0_5, .int .u64 a0_6, .int .u64 a0_7, .int .u64 a0_8, .int .u64 a0_9, .int .u64 a0_10, .int .u64 a0_11, .int .i64 a0_12] 31 ?_; intro gb413 hg w23 hbox hb; have BK413 := ak_ hbox; have GW413 := ak_ (gs_ hg HB); have GE413 := ak_ (gs_ hg HB); replace HB := ak_ (bt_ (bl_ HB) hb); clear hb hbox hg) | ((with_reducible refine gate_dst (N := 3) rfl ?_); refine bx_ 3 #[.int .i64 a1_0, .int .i64 a1_1, .int .i64 a1_2, .slice A1_3 l1_3.length c1_3, .bool a1_4, .bool a1_5, .int .u64 a1_6, .int .u64 a1_7, .int .u64 a1_8, .int .u64 a1_9, .int .u64 a1_10, .int .u64 a1_11, .int .i64 a1_12] 31 ?_; intro gb414 hg w24 hbox hb; have BK414 := ak_ hbox; have GW414 := ak_ (gw1_ HB GE413 hg); have GE414 := ak_ (gw1_ HB GE413 hg); replace HB := ak_ (bt_ (bw1_ HB GE413) hb); have NB413_414 := ak_ (nl_ hg BK413); have NB414_413 := ak_ (nr_ hg BK413); replace BK413 := ak_ (kb_ (kl_ BK413) hb); clear hb hbox hg; have hnb25 := NB413_414.out; have hnc25 := NB414_413.out; obtain ⟨hcz26_0, hcz26_1, hcz26_2, hcz26_3, hcz26_4, hcz26_5, hcz26_6, hcz26_7, hcz26_8, hcz26_9, hcz26_10, hcz26_11, hcz26_12, hfz26_0, hfz26_1, hfz26_2, hfz26_3, hfz26_4, hfz26_5, hfz26_6, hfz26_7, hfz26_8, hfz26_9, hfz26_10, hfz26_11, hfz26_12⟩ := kc13_ BK413.out; obtain ⟨hcz27_0, hcz27_1, hcz27_2, hcz27_3, hcz27_4, hcz27_5, hcz27_6, hcz27_7, hcz27_8, hcz27_9, hcz27_10, hcz27_11, hcz27_12, hfz27_0, hfz27_1, hfz27_2, hfz27_3, hfz27_4, hfz27_5, hfz27_6, hfz27_7, hfz27_8, hfz27_9, hfz27_10, hfz27_11, hfz27_12⟩ := kc13_ BK414.out))
    go_ret
    exact ea_ (bw2_ HB GE413 GE414)
  ·rw [if_neg c3] at H
   have c3b0 : (a0_0 == a1_0) = false := beq_eq_false_iff_ne.mpr c3
   have c3b1 : (a0_0 != a1_0) = true := bne_iff_ne.mpr c3
   obtain rfl := Option.some.inj H
   go_enter func26, ntmps26
   go_wp2_with (first | ((with_reducible refine gate_dst (N := 2) rfl ?_); refine bx_ 2 #[.int .i64 a0_0, .int .i64 a0_1, .int .i64 a0_2, .slice A0_3 l0_3.length c0_3, .bool a0_4, .bool a0_5, .int .u64 a0_6, .int .u64 a0_7, .int .u64 a0_8, .int .u64 a0_9, .int .u64 a0_10, .int .u64 a0_11, .int .i64 a0_12] 31 ?_; intro gb413 hg w28 hbox hb; have BK413 := ak_ hbox; have GW413 := ak_ (gs_ hg HB); have GE413 := ak_ (gs_ hg HB); replace HB := ak_ (bt_ (bl_ HB) hb); clear hb hbox hg) | ((with_reducible refine gate_dst (N := 3) rfl ?_); refine bx_ 3 #[.int .i64 a1_0, .int .i64 a1_1, .int .i64 a1_2, .slice A1_3 l1_3.length c1_3, .bool a1_4, .bool a1_5, .int .u64 a1_6, .int .u64 a1_7, .int .u64 a1_8, .int .u64 a1_9, .int .u64 a1_10, .int .u64 a1_11, .int .i64 a1_12] 31 ?_; intro gb414 hg w29 hbox hb; have BK414 := ak_ hbox; have GW414 := ak_ (gw1_ HB GE413 hg); have GE414 := ak_ (gw1_ HB GE413 hg); replace HB := ak_ (bt_ (bw1_ HB GE413) hb); have NB413_414 := ak_ (nl_ hg BK413); have NB414_413 := ak_ (nr_ hg BK413); replace BK413 := ak_ (kb_ (kl_ BK413) hb); clear hb hbox hg; have hnb30 := NB413_414.out; have hnc30 := NB414_413.out; obtain ⟨hcz31_0, hcz31_1, hcz31_2, hcz31_3, hcz31_4, hcz31_5, hcz31_6, hcz31_7, hcz31_8, hcz31_9, hcz31_10, hcz31_11, hcz31_12, hfz31_0, hfz31_1, hfz31_2, hfz31_3, hfz31_4, hfz31_5, hfz31_6, hfz31_7, hfz31_8, hfz31_9, hfz31_10, hfz31_11, hfz31_12⟩ := kc13_ BK413.out; obtain ⟨hcz32_0, hcz32_1, hcz32_2, hcz32_3, hcz32_4, hcz32_5, hcz32_6, hcz32_7, hcz32_8, hcz32_9, hcz32_10, hcz32_11, hcz32_12, hfz32_0, hfz32_1, hfz32_2, hfz32_3, hfz32_4, hfz32_5, hfz32_6, hfz32_7, hfz32_8, hfz32_9, hfz32_10, hfz32_11, hfz32_12⟩ := kc13_ BK414.out))
   go_ret
   exact ea_ (bw2_ HB GE413 GE414)
end Go.Proofs.Ytoljdfgkkkpnbaa.MP
