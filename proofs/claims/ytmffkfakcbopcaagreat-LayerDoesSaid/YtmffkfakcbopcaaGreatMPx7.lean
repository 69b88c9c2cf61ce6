-- written by a program of this session (wip/tools/mprint.sh) for this seat
import Derived.Test.YtmffkfakcbopcaaGreatMPx0
import Derived.Test.YtmffkfakcbopcaaGreatMPx4
import Derived.Test.YtmffkfakcbopcaaGreatMPx6
namespace Go.Proofs.YtmffkfakcbopcaaGreat.MP
open Go.RowKit Go.Proofs.YtmffkfakcbopcaaGreatW.PrintWords Go.Proofs.YtmffkfakcbopcaaGreatW.PrintLast Go.Proofs.YtmffkfakcbopcaaGreatW.PrintMore
open Option (bind_eq_some_iff some.injEq)
open _root_.Go.Proofs.Tryz
open List (setIfInBounds_toArray set_cons_zero set_cons_succ map_toArray map_cons map_nil length_drop length_take)
attribute [local go_sem] max2_int min2_int max_two min_two max_three min_three max_four min_four
set_option linter.unusedVariables false
set_option linter.unusedSimpArgs false
def medlarlaw12_LayerDoes.f (k : Nat) (a0 : Int) (a1 : Int) (l2 : List Int) (a3 : Int) (a4_0 : Int) (a4_1 : Int) : Option (Bool) := (medlarlaw12_live.f k).bind fun t590 => (if (l2.length : Int) > 30 then (some t590) else ((layer_Cover.f k a0 a1 l2).bind fun bt591 => ((medlarref12_Cover.f k a0 a1 l2).bind fun bt595 => ((layer_Bound.f k a0 a1 a3).bind fun bt599 => ((medlarref12_Bound.f k a0 a1 a3).bind fun bt601 => ((layer_May.f k a0 a1 a4_0 a4_1).bind fun bt603 => ((medlarref12_May.f k a0 a1 a4_0 a4_1).bind fun bt605 => ((layer_Pairs.f k a0).bind fun bt607 => ((medlarref12_Pairs.f k a0).bind fun bt609 => (if t590 = true then ((medlarref08_Same.f k bt591.1 bt595.1).bind fun t611 => (if t611 = true then (if bt591.2 = bt595.2 then (if bt599.1 = bt601.1 then (if bt599.2 = bt601.2 then (if (bt603.1 == bt605.1) = true then (if bt603.2 = bt605.2 then (if bt607.1 = bt609.1 then (some (bt607.2 == bt609.2)) else (some false)) else (some false)) else (some false)) else (some false)) else (some false)) else (some false)) else (some false))) else (some false)))))))))))
set_option maxHeartbeats 8000000 in
set_option maxRecDepth 100000 in
theorem medlarlaw12_LayerDoes.calls (k : Nat) (a0 : Int) (a1 : Int) (A2 : Option Addr) (c2 : Nat) (l2 : List Int) (a3 : Int) (a4_0 : Int) (a4_1 : Int) (r : Bool) (w : World) (hr2 : Kd.C (Kd.int .u64) w A2 l2.length l2) (hc2 : l2.length ≤ c2) (h : medlarlaw12_LayerDoes.f k a0 a1 l2 a3 a4_0 a4_1 = some r) (hT : Aside0 (r = true)) :
   Calls Tryz.prog 3 #[.int .i64 a0, .int .i64 a1, .slice A2 l2.length c2, .int .i64 a3, .agg #[.int .u64 a4_0, .int .u64 a4_1]] w fun e w' => e = .returned (.bool r) ∧ Below w.heap.size w w' := by
  have hu25 := underlying25
  have HR2 := ak_ hr2
  have HC2 := ak_ hc2
  clear hr2 hc2
  have HB := ak_ (Below.refl w.heap.size w)
  have H : ((medlarlaw12_live.f k).bind fun t590 => (if (l2.length : Int) > 30 then (some t590) else ((layer_Cover.f k a0 a1 l2).bind fun bt591 => ((medlarref12_Cover.f k a0 a1 l2).bind fun bt595 => ((layer_Bound.f k a0 a1 a3).bind fun bt599 => ((medlarref12_Bound.f k a0 a1 a3).bind fun bt601 => ((layer_May.f k a0 a1 a4_0 a4_1).bind fun bt603 => ((medlarref12_May.f k a0 a1 a4_0 a4_1).bind fun bt605 => ((layer_Pairs.f k a0).bind fun bt607 => ((medlarref12_Pairs.f k a0).bind fun bt609 => (if t590 = true then ((medlarref08_Same.f k bt591.1 bt595.1).bind fun t611 => (if t611 = true then (if bt591.2 = bt595.2 then (if bt599.1 = bt601.1 then (if bt599.2 = bt601.2 then (if (bt603.1 == bt605.1) = true then (if bt603.2 = bt605.2 then (if bt607.1 = bt609.1 then (some (bt607.2 == bt609.2)) else (some false)) else (some false)) else (some false)) else (some false)) else (some false)) else (some false)) else (some false))) else (some false)))))))))))) = some r := h
  clear h
  replace H := bind_eq_some_iff.mp H
  obtain ⟨t590, A60, H⟩ := H
  replace H : (if (l2.length : Int) > 30 then (some t590) else ((layer_Cover.f k a0 a1 l2).bind fun bt591 => ((medlarref12_Cover.f k a0 a1 l2).bind fun bt595 => ((layer_Bound.f k a0 a1 a3).bind fun bt599 => ((medlarref12_Bound.f k a0 a1 a3).bind fun bt601 => ((layer_May.f k a0 a1 a4_0 a4_1).bind fun bt603 => ((medlarref12_May.f k a0 a1 a4_0 a4_1).bind fun bt605 => ((layer_Pairs.f k a0).bind fun bt607 => ((medlarref12_Pairs.f k a0).bind fun bt609 => (if t590 = true then ((medlarref08_Same.f k bt591.1 bt595.1).bind fun t611 => (if t611 = true then (if bt591.2 = bt595.2 then (if bt599.1 = bt601.1 then (if bt599.2 = bt601.2 then (if (bt603.1 == bt605.1) = true then (if bt603.2 = bt605.2 then (if bt607.1 = bt609.1 then (some (bt607.2 == bt609.2)) else (some false)) else (some false)) else (some false)) else (some false)) else (some false)) else (some false)) else (some false))) else (some false))))))))))) = some r := H
  have A6 := ak_ A60
  clear A60
  by_cases c7 : (l2.length : Int) > 30
  ·rw [if_pos c7] at H
   have c7b0 : decide (30 < (l2.length : Int)) = true := decide_eq_true c7
   have c7b1 : decide (30 < l2.length) = true := decide_eq_true (by omega)
   clear c7
   obtain rfl := Option.some.inj H
   go_enter func3, ntmps3
   go_wp2_with (first | ((with_reducible refine gate_dst (N := 9) rfl ?_); refine box_event ?hg (N := 9) ?hd (cs := #[.int .u64 a4_0, .int .u64 a4_1]) (t := 25) ?hr ?_; (case hd => rfl); (case hg => rfl); (case hr => first | (go_simp; done) | (go_simp; rfl)); intro gb589 hg w8 hbox hb; have n0_ := ak_ (bt_ (bl_ HB) hb); have n1_ := ak_ (hbox); have n2_ := ak_ ((gs_ hg HB)); have n3_ := ak_ ((gs_ hg HB)); clear HB; have HB := n0_; have BK589 := n1_; have GW589 := n2_; have GE589 := n3_; clear n0_ n1_ n2_ n3_; clear hb hbox hg) | ((with_reducible refine gate_callee (f := 4) rfl ?_); refine goesL_ (some 28) rfl rfl func4 (by kernel_rfl) rfl #[] rfl (by (try simp only [map_toArray, map_cons, map_nil]); first | done | rfl) ?_; (with_reducible refine (medlarlaw12_live.calls k  t590 _ A6.out).mono ?_); rintro e w9 ⟨rfl, hb⟩; refine ⟨_, rfl, ?_⟩; have n0_ := ak_ (kb_ (g := gb589) (o := .cells #[.int .u64 a4_0, .int .u64 a4_1] 25 (0, 0)) (kl_ BK589) hb); have n1_ := ak_ (bt_ (by repeat (first | (with_reducible first | exact HB.out | apply ba_ | apply bn_ | apply bd_ | refine below_set ?_ GE589.out) | exact HB.out)) hb); clear BK589; clear HB; have BK589 := n0_; have HB := n1_; clear n0_ n1_; (try clear hb); (try clear hk)))
   go_ret
   exact ⟨by first | rfl | (simp <;> rfl) | (simp [*] <;> rfl), by repeat (first | (with_reducible first | exact HB.out | apply ba_ | apply bn_ | apply bd_ | refine below_set ?_ GE589.out) | exact HB.out)⟩
  ·rw [if_neg c7] at H
   have c7b0 : decide (30 < (l2.length : Int)) = false := decide_eq_false c7
   have c7b1 : decide (30 < l2.length) = false := decide_eq_false (by omega)
   clear c7
   replace H := bind_eq_some_iff.mp H
   obtain ⟨⟨t591, t592⟩, A100, H⟩ := H
   replace H : ((medlarref12_Cover.f k a0 a1 l2).bind fun bt595 => ((layer_Bound.f k a0 a1 a3).bind fun bt599 => ((medlarref12_Bound.f k a0 a1 a3).bind fun bt601 => ((layer_May.f k a0 a1 a4_0 a4_1).bind fun bt603 => ((medlarref12_May.f k a0 a1 a4_0 a4_1).bind fun bt605 => ((layer_Pairs.f k a0).bind fun bt607 => ((medlarref12_Pairs.f k a0).bind fun bt609 => (if t590 = true then ((medlarref08_Same.f k t591 bt595.1).bind fun t611 => (if t611 = true then (if t592 = bt595.2 then (if bt599.1 = bt601.1 then (if bt599.2 = bt601.2 then (if (bt603.1 == bt605.1) = true then (if bt603.2 = bt605.2 then (if bt607.1 = bt609.1 then (some (bt607.2 == bt609.2)) else (some false)) else (some false)) else (some false)) else (some false)) else (some false)) else (some false)) else (some false))) else (some false))))))))) = some r := H
   have A10 := ak_ A100
   clear A100
   replace H := bind_eq_some_iff.mp H
   obtain ⟨⟨t595, t596⟩, A110, H⟩ := H
   replace H : ((layer_Bound.f k a0 a1 a3).bind fun bt599 => ((medlarref12_Bound.f k a0 a1 a3).bind fun bt601 => ((layer_May.f k a0 a1 a4_0 a4_1).bind fun bt603 => ((medlarref12_May.f k a0 a1 a4_0 a4_1).bind fun bt605 => ((layer_Pairs.f k a0).bind fun bt607 => ((medlarref12_Pairs.f k a0).bind fun bt609 => (if t590 = true then ((medlarref08_Same.f k t591 t595).bind fun t611 => (if t611 = true then (if t592 = t596 then (if bt599.1 = bt601.1 then (if bt599.2 = bt601.2 then (if (bt603.1 == bt605.1) = true then (if bt603.2 = bt605.2 then (if bt607.1 = bt609.1 then (some (bt607.2 == bt609.2)) else (some false)) else (some false)) else (some false)) else (some false)) else (some false)) else (some false)) else (some false))) else (some false)))))))) = some r := H
   have A11 := ak_ A110
   clear A110
   replace H := bind_eq_some_iff.mp H
   obtain ⟨⟨t599, t600⟩, A120, H⟩ := H
   replace H : ((medlarref12_Bound.f k a0 a1 a3).bind fun bt601 => ((layer_May.f k a0 a1 a4_0 a4_1).bind fun bt603 => ((medlarref12_May.f k a0 a1 a4_0 a4_1).bind fun bt605 => ((layer_Pairs.f k a0).bind fun bt607 => ((medlarref12_Pairs.f k a0).bind fun bt609 => (if t590 = true then ((medlarref08_Same.f k t591 t595).bind fun t611 => (if t611 = true then (if t592 = t596 then (if t599 = bt601.1 then (if t600 = bt601.2 then (if (bt603.1 == bt605.1) = true then (if bt603.2 = bt605.2 then (if bt607.1 = bt609.1 then (some (bt607.2 == bt609.2)) else (some false)) else (some false)) else (some false)) else (some false)) else (some false)) else (some false)) else (some false))) else (some false))))))) = some r := H
   have A12 := ak_ A120
   clear A120
   replace H := bind_eq_some_iff.mp H
   obtain ⟨⟨t601, t602⟩, A130, H⟩ := H
   replace H : ((layer_May.f k a0 a1 a4_0 a4_1).bind fun bt603 => ((medlarref12_May.f k a0 a1 a4_0 a4_1).bind fun bt605 => ((layer_Pairs.f k a0).bind fun bt607 => ((medlarref12_Pairs.f k a0).bind fun bt609 => (if t590 = true then ((medlarref08_Same.f k t591 t595).bind fun t611 => (if t611 = true then (if t592 = t596 then (if t599 = t601 then (if t600 = t602 then (if (bt603.1 == bt605.1) = true then (if bt603.2 = bt605.2 then (if bt607.1 = bt609.1 then (some (bt607.2 == bt609.2)) else (some false)) else (some false)) else (some false)) else (some false)) else (some false)) else (some false)) else (some false))) else (some false)))))) = some r := H
   have A13 := ak_ A130
   clear A130
   replace H := bind_eq_some_iff.mp H
   obtain ⟨⟨t603, t604⟩, A140, H⟩ := H
   replace H : ((medlarref12_May.f k a0 a1 a4_0 a4_1).bind fun bt605 => ((layer_Pairs.f k a0).bind fun bt607 => ((medlarref12_Pairs.f k a0).bind fun bt609 => (if t590 = true then ((medlarref08_Same.f k t591 t595).bind fun t611 => (if t611 = true then (if t592 = t596 then (if t599 = t601 then (if t600 = t602 then (if (t603 == bt605.1) = true then (if t604 = bt605.2 then (if bt607.1 = bt609.1 then (some (bt607.2 == bt609.2)) else (some false)) else (some false)) else (some false)) else (some false)) else (some false)) else (some false)) else (some false))) else (some false))))) = some r := H
   have A14 := ak_ A140
   clear A140
   replace H := bind_eq_some_iff.mp H
   obtain ⟨⟨t605, t606⟩, A150, H⟩ := H
   replace H : ((layer_Pairs.f k a0).bind fun bt607 => ((medlarref12_Pairs.f k a0).bind fun bt609 => (if t590 = true then ((medlarref08_Same.f k t591 t595).bind fun t611 => (if t611 = true then (if t592 = t596 then (if t599 = t601 then (if t600 = t602 then (if (t603 == t605) = true then (if t604 = t606 then (if bt607.1 = bt609.1 then (some (bt607.2 == bt609.2)) else (some false)) else (some false)) else (some false)) else (some false)) else (some false)) else (some false)) else (some false))) else (some false)))) = some r := H
   have A15 := ak_ A150
   clear A150
   replace H := bind_eq_some_iff.mp H
   obtain ⟨⟨t607, t608⟩, A160, H⟩ := H
   replace H : ((medlarref12_Pairs.f k a0).bind fun bt609 => (if t590 = true then ((medlarref08_Same.f k t591 t595).bind fun t611 => (if t611 = true then (if t592 = t596 then (if t599 = t601 then (if t600 = t602 then (if (t603 == t605) = true then (if t604 = t606 then (if t607 = bt609.1 then (some (t608 == bt609.2)) else (some false)) else (some false)) else (some false)) else (some false)) else (some false)) else (some false)) else (some false))) else (some false))) = some r := H
   have A16 := ak_ A160
   clear A160
   replace H := bind_eq_some_iff.mp H
   obtain ⟨⟨t609, t610⟩, A170, H⟩ := H
   replace H : (if t590 = true then ((medlarref08_Same.f k t591 t595).bind fun t611 => (if t611 = true then (if t592 = t596 then (if t599 = t601 then (if t600 = t602 then (if (t603 == t605) = true then (if t604 = t606 then (if t607 = t609 then (some (t608 == t610)) else (some false)) else (some false)) else (some false)) else (some false)) else (some false)) else (some false)) else (some false))) else (some false)) = some r := H
   have A17 := ak_ A170
   clear A170
   by_cases c18 : t590 = true
   ·subst c18
    have H1 : ((medlarref08_Same.f k t591 t595).bind fun t611 => (if t611 = true then (if t592 = t596 then (if t599 = t601 then (if t600 = t602 then (if (t603 == t605) = true then (if t604 = t606 then (if t607 = t609 then (some (t608 == t610)) else (some false)) else (some false)) else (some false)) else (some false)) else (some false)) else (some false)) else (some false))) = some r := by rw [if_pos rfl] at H; exact H
    clear H
    have H := H1
    clear H1
    replace H := bind_eq_some_iff.mp H
    obtain ⟨t611, A190, H⟩ := H
    replace H : (if t611 = true then (if t592 = t596 then (if t599 = t601 then (if t600 = t602 then (if (t603 == t605) = true then (if t604 = t606 then (if t607 = t609 then (some (t608 == t610)) else (some false)) else (some false)) else (some false)) else (some false)) else (some false)) else (some false)) else (some false)) = some r := H
    have A19 := ak_ A190
    clear A190
    by_cases c20 : t611 = true
    ·subst c20
     have H1 : (if t592 = t596 then (if t599 = t601 then (if t600 = t602 then (if (t603 == t605) = true then (if t604 = t606 then (if t607 = t609 then (some (t608 == t610)) else (some false)) else (some false)) else (some false)) else (some false)) else (some false)) else (some false)) = some r := by rw [if_pos rfl] at H; exact H
     clear H
     have H := H1
     clear H1
     by_cases c21 : t592 = t596
     ·rw [if_pos c21] at H
      have c21b0 : (t592 == t596) = true := beq_iff_eq.mpr c21
      have c21b1 : (t592 != t596) = false := bne_eq_false_iff_eq.mpr c21
      clear c21
      by_cases c22 : t599 = t601
      ·rw [if_pos c22] at H
       have c22b0 : (t599 == t601) = true := beq_iff_eq.mpr c22
       have c22b1 : (t599 != t601) = false := bne_eq_false_iff_eq.mpr c22
       clear c22
       by_cases c23 : t600 = t602
       ·rw [if_pos c23] at H
        have c23b0 : (t600 == t602) = true := beq_iff_eq.mpr c23
        have c23b1 : (t600 != t602) = false := bne_eq_false_iff_eq.mpr c23
        clear c23
        by_cases c24 : (t603 == t605) = true
        ·rw [if_pos c24] at H
         have c24b0 : (t603 == t605) = true := c24
         (try (have c24b1 : decide (t603 = t605) = true := by simpa using c24))
         (try (have c24b2 : (t603 == t605) = true := by simpa using c24))
         clear c24
         by_cases c25 : t604 = t606
         ·rw [if_pos c25] at H
          have c25b0 : (t604 == t606) = true := beq_iff_eq.mpr c25
          have c25b1 : (t604 != t606) = false := bne_eq_false_iff_eq.mpr c25
          clear c25
          by_cases c26 : t607 = t609
          ·rw [if_pos c26] at H
           have c26b0 : (t607 == t609) = true := beq_iff_eq.mpr c26
           have c26b1 : (t607 != t609) = false := bne_eq_false_iff_eq.mpr c26
           clear c26
           obtain rfl := Option.some.inj H
           go_enter func3, ntmps3
           go_wp2_with (first | ((with_reducible refine gate_dst (N := 9) rfl ?_); refine box_event ?hg (N := 9) ?hd (cs := #[.int .u64 a4_0, .int .u64 a4_1]) (t := 25) ?hr ?_; (case hd => rfl); (case hg => rfl); (case hr => first | (go_simp; done) | (go_simp; rfl)); intro gb589 hg w27 hbox hb; have n0_ := ak_ (bt_ (bl_ HB) hb); have n1_ := ak_ (hbox); have n2_ := ak_ ((gs_ hg HB)); have n3_ := ak_ ((gs_ hg HB)); clear HB; have HB := n0_; have BK589 := n1_; have GW589 := n2_; have GE589 := n3_; clear n0_ n1_ n2_ n3_; clear hb hbox hg) | ((with_reducible refine gate_callee (f := 4) rfl ?_); refine goesL_ (some 28) rfl rfl func4 (by kernel_rfl) rfl #[] rfl (by (try simp only [map_toArray, map_cons, map_nil]); first | done | rfl) ?_; (with_reducible refine (medlarlaw12_live.calls k  true _ A6.out).mono ?_); rintro e w28 ⟨rfl, hb⟩; refine ⟨_, rfl, ?_⟩; have n0_ := ak_ (kb_ (g := gb589) (o := .cells #[.int .u64 a4_0, .int .u64 a4_1] 25 (0, 0)) (kl_ BK589) hb); have n1_ := ak_ (bt_ (by repeat (first | (with_reducible first | exact HB.out | apply ba_ | apply bn_ | apply bd_ | refine below_set ?_ GE589.out) | exact HB.out)) hb); clear BK589; clear HB; have BK589 := n0_; have HB := n1_; clear n0_ n1_; (try clear hb); (try clear hk)) | ((with_reducible refine gate_callee (f := 5) rfl ?_); refine goesL_ (some 37) rfl rfl func5 (by kernel_rfl) rfl #[.int .i64 a0, .int .i64 a1, .slice A2 l2.length c2] rfl (by (try simp only [map_toArray, map_cons, map_nil]); first | done | rfl) ?_; (with_reducible refine (layer_Cover.calls k a0 a1 _ _ l2 t591 t592 _ ?side1 ?side2 A10.out).mono ?_); (case side1 => repeat (first | exact (Kd.C_below HR2.out HB.out) | (with_reducible refine Kd.C_alloc ?_ _) | (with_reducible refine Kd.C_drewN ?_ _) | (with_reducible refine Kd.C_drew ?_))); (case side2 => exact HC2.out); rintro e w29 ⟨v593, rfl, ho0, hb⟩; refine ⟨_, rfl, ?_⟩; have n0_ := ak_ (Kd.R_lower (Kd.R_newB ho0 (g := gb589) (o := .cells #[.int .u64 a4_0, .int .u64 a4_1] 25 (0, 0)) (kl_ BK589)) (bz_ (by repeat (first | (with_reducible first | exact HB.out | apply ba_ | apply bn_ | apply bd_ | refine below_set ?_ GE589.out) | exact HB.out)))); have n1_ := ak_ (kb_ (g := gb589) (o := .cells #[.int .u64 a4_0, .int .u64 a4_1] 25 (0, 0)) (kl_ BK589) hb); have n2_ := ak_ (bt_ (by repeat (first | (with_reducible first | exact HB.out | apply ba_ | apply bn_ | apply bd_ | refine below_set ?_ GE589.out) | exact HB.out)) hb); clear BK589; clear HB; have HO594 := n0_; have BK589 := n1_; have HB := n2_; clear n0_ n1_ n2_; (try clear hb); (try clear hk); (try clear ho0)) | ((with_reducible refine gate_callee (f := 6) rfl ?_); refine goesL_ (some 44) rfl rfl func6 (by kernel_rfl) rfl #[.int .i64 a0, .int .i64 a1, .slice A2 l2.length c2] rfl (by (try simp only [map_toArray, map_cons, map_nil]); first | done | rfl) ?_; (with_reducible refine (medlarref12_Cover.calls k a0 a1 _ _ l2 t595 t596 _ ?side1 ?side2 A11.out).mono ?_); (case side1 => repeat (first | exact (Kd.C_below HR2.out HB.out) | (with_reducible refine Kd.C_alloc ?_ _) | (with_reducible refine Kd.C_drewN ?_ _) | (with_reducible refine Kd.C_drew ?_))); (case side2 => exact HC2.out); rintro e w30 ⟨v597, rfl, ho0, hb⟩; refine ⟨_, rfl, ?_⟩; have n0_ := ak_ (Kd.R_elder' (rl_ HO594) (Kd.R_base ho0) hb); have n1_ := ak_ (Kd.R_lower (Kd.R_newB (Kd.R_new' ho0 (Kd.R_lt (rl_ HO594))) (g := gb589) (o := .cells #[.int .u64 a4_0, .int .u64 a4_1] 25 (0, 0)) (kl_ BK589)) (bz_ (by repeat (first | (with_reducible first | exact HB.out | apply ba_ | apply bn_ | apply bd_ | refine below_set ?_ GE589.out) | exact HB.out)))); have n2_ := ak_ (kb_ (g := gb589) (o := .cells #[.int .u64 a4_0, .int .u64 a4_1] 25 (0, 0)) (kl_ BK589) hb); have n3_ := ak_ (bt_ (by repeat (first | (with_reducible first | exact HB.out | apply ba_ | apply bn_ | apply bd_ | refine below_set ?_ GE589.out) | exact HB.out)) hb); clear HO594; clear BK589; clear HB; have HO594 := n0_; have HO598 := n1_; have BK589 := n2_; have HB := n3_; clear n0_ n1_ n2_ n3_; (try clear hb); (try clear hk); (try clear ho0)) | ((with_reducible refine gate_callee (f := 7) rfl ?_); refine goesL_ (some 51) rfl rfl func7 (by kernel_rfl) rfl #[.int .i64 a0, .int .i64 a1, .int .i64 a3] rfl (by (try simp only [map_toArray, map_cons, map_nil]); first | done | rfl) ?_; (with_reducible refine (layer_Bound.calls k a0 a1 a3 t599 t600 _ A12.out).mono ?_); rintro e w31 ⟨rfl, hb⟩; refine ⟨_, rfl, ?_⟩; have n0_ := ak_ (Kd.R_below (rl_ HO594) hb); have n1_ := ak_ (Kd.R_below (rl_ HO598) hb); have n2_ := ak_ (kb_ (g := gb589) (o := .cells #[.int .u64 a4_0, .int .u64 a4_1] 25 (0, 0)) (kl_ BK589) hb); have n3_ := ak_ (bt_ (by repeat (first | (with_reducible first | exact HB.out | apply ba_ | apply bn_ | apply bd_ | refine below_set ?_ GE589.out) | exact HB.out)) hb); clear HO594; clear HO598; clear BK589; clear HB; have HO594 := n0_; have HO598 := n1_; have BK589 := n2_; have HB := n3_; clear n0_ n1_ n2_ n3_; (try clear hb); (try clear hk)) | ((with_reducible refine gate_callee (f := 8) rfl ?_); refine goesL_ (some 58) rfl rfl func8 (by kernel_rfl) rfl #[.int .i64 a0, .int .i64 a1, .int .i64 a3] rfl (by (try simp only [map_toArray, map_cons, map_nil]); first | done | rfl) ?_; (with_reducible refine (medlarref12_Bound.calls k a0 a1 a3 t601 t602 _ A13.out).mono ?_); rintro e w32 ⟨rfl, hb⟩; refine ⟨_, rfl, ?_⟩; have n0_ := ak_ (Kd.R_below (rl_ HO594) hb); have n1_ := ak_ (Kd.R_below (rl_ HO598) hb); have n2_ := ak_ (kb_ (g := gb589) (o := .cells #[.int .u64 a4_0, .int .u64 a4_1] 25 (0, 0)) (kl_ BK589) hb); have n3_ := ak_ (bt_ (by repeat (first | (with_reducible first | exact HB.out | apply ba_ | apply bn_ | apply bd_ | refine below_set ?_ GE589.out) | exact HB.out)) hb); clear HO594; clear HO598; clear BK589; clear HB; have HO594 := n0_; have HO598 := n1_; have BK589 := n2_; have HB := n3_; clear n0_ n1_ n2_ n3_; (try clear hb); (try clear hk); have hcz33_0 : w32.cell? ⟨gb589, 0, none⟩ = some (.int .u64 a4_0) := (kc_ BK589.out 0).trans rfl; have hcz33_1 : w32.cell? ⟨gb589, 1, none⟩ = some (.int .u64 a4_1) := (kc_ BK589.out 1).trans rfl; have hfz33_0 := kf_ BK589.out 0; have hfz33_1 := kf_ BK589.out 1) | ((with_reducible refine gate_callee (f := 9) rfl ?_); refine goesL_ (some 65) rfl rfl func9 (by kernel_rfl) rfl #[.int .i64 a0, .int .i64 a1, .agg #[.int .u64 a4_0, .int .u64 a4_1]] rfl (by (try simp only [map_toArray, map_cons, map_nil]); first | done | rfl) ?_; (with_reducible refine (layer_May.calls k a0 a1 a4_0 a4_1 t603 t604 _ A14.out).mono ?_); rintro e w34 ⟨rfl, hb⟩; refine ⟨_, rfl, ?_⟩; have n0_ := ak_ (Kd.R_below (rl_ HO594) hb); have n1_ := ak_ (Kd.R_below (rl_ HO598) hb); have n2_ := ak_ (kb_ (g := gb589) (o := .cells #[.int .u64 a4_0, .int .u64 a4_1] 25 (0, 0)) (kl_ BK589) hb); have n3_ := ak_ (bt_ (by repeat (first | (with_reducible first | exact HB.out | apply ba_ | apply bn_ | apply bd_ | refine below_set ?_ GE589.out) | exact HB.out)) hb); clear HO594; clear HO598; clear BK589; clear HB; have HO594 := n0_; have HO598 := n1_; have BK589 := n2_; have HB := n3_; clear n0_ n1_ n2_ n3_; (try clear hb); (try clear hk); have hcz35_0 : w34.cell? ⟨gb589, 0, none⟩ = some (.int .u64 a4_0) := (kc_ BK589.out 0).trans rfl; have hcz35_1 : w34.cell? ⟨gb589, 1, none⟩ = some (.int .u64 a4_1) := (kc_ BK589.out 1).trans rfl; have hfz35_0 := kf_ BK589.out 0; have hfz35_1 := kf_ BK589.out 1) | ((with_reducible refine gate_callee (f := 10) rfl ?_); refine goesL_ (some 72) rfl rfl func10 (by kernel_rfl) rfl #[.int .i64 a0, .int .i64 a1, .agg #[.int .u64 a4_0, .int .u64 a4_1]] rfl (by (try simp only [map_toArray, map_cons, map_nil]); first | done | rfl) ?_; (with_reducible refine (medlarref12_May.calls k a0 a1 a4_0 a4_1 t605 t606 _ A15.out).mono ?_); rintro e w36 ⟨rfl, hb⟩; refine ⟨_, rfl, ?_⟩; have n0_ := ak_ (Kd.R_below (rl_ HO594) hb); have n1_ := ak_ (Kd.R_below (rl_ HO598) hb); have n2_ := ak_ (kb_ (g := gb589) (o := .cells #[.int .u64 a4_0, .int .u64 a4_1] 25 (0, 0)) (kl_ BK589) hb); have n3_ := ak_ (bt_ (by repeat (first | (with_reducible first | exact HB.out | apply ba_ | apply bn_ | apply bd_ | refine below_set ?_ GE589.out) | exact HB.out)) hb); clear HO594; clear HO598; clear BK589; clear HB; have HO594 := n0_; have HO598 := n1_; have BK589 := n2_; have HB := n3_; clear n0_ n1_ n2_ n3_; (try clear hb); (try clear hk)) | ((with_reducible refine gate_callee (f := 11) rfl ?_); refine goesL_ (some 77) rfl rfl func11 (by kernel_rfl) rfl #[.int .i64 a0] rfl (by (try simp only [map_toArray, map_cons, map_nil]); first | done | rfl) ?_; (with_reducible refine (layer_Pairs.calls k a0 t607 t608 _ A16.out).mono ?_); rintro e w37 ⟨rfl, hb⟩; refine ⟨_, rfl, ?_⟩; have n0_ := ak_ (Kd.R_below (rl_ HO594) hb); have n1_ := ak_ (Kd.R_below (rl_ HO598) hb); have n2_ := ak_ (kb_ (g := gb589) (o := .cells #[.int .u64 a4_0, .int .u64 a4_1] 25 (0, 0)) (kl_ BK589) hb); have n3_ := ak_ (bt_ (by repeat (first | (with_reducible first | exact HB.out | apply ba_ | apply bn_ | apply bd_ | refine below_set ?_ GE589.out) | exact HB.out)) hb); clear HO594; clear HO598; clear BK589; clear HB; have HO594 := n0_; have HO598 := n1_; have BK589 := n2_; have HB := n3_; clear n0_ n1_ n2_ n3_; (try clear hb); (try clear hk)) | ((with_reducible refine gate_callee (f := 12) rfl ?_); refine goesL_ (some 82) rfl rfl func12 (by kernel_rfl) rfl #[.int .i64 a0] rfl (by (try simp only [map_toArray, map_cons, map_nil]); first | done | rfl) ?_; (with_reducible refine (medlarref12_Pairs.calls k a0 t609 t610 _ A17.out).mono ?_); rintro e w38 ⟨rfl, hb⟩; refine ⟨_, rfl, ?_⟩; have n0_ := ak_ (Kd.R_below (rl_ HO594) hb); have n1_ := ak_ (Kd.R_below (rl_ HO598) hb); have n2_ := ak_ (kb_ (g := gb589) (o := .cells #[.int .u64 a4_0, .int .u64 a4_1] 25 (0, 0)) (kl_ BK589) hb); have n3_ := ak_ (bt_ (by repeat (first | (with_reducible first | exact HB.out | apply ba_ | apply bn_ | apply bd_ | refine below_set ?_ GE589.out) | exact HB.out)) hb); clear HO594; clear HO598; clear BK589; clear HB; have HO594 := n0_; have HO598 := n1_; have BK589 := n2_; have HB := n3_; clear n0_ n1_ n2_ n3_; (try clear hb); (try clear hk); obtain ⟨Ao39, co39, eo39⟩ := Kd.R_slice HO594.out; subst eo39; obtain ⟨Ao40, co40, eo40⟩ := Kd.R_slice HO598.out; subst eo40) | (go_at_call 13; (with_reducible refine (medlarref08_Same.calls k _ _ t591 _ _ t595 true _ ?side1 ?side2 ?side3 ?side4 A19.out).mono ?_); (case side1 => repeat (first | exact (Kd.R_reads' HO594.out).2.2 | (with_reducible refine Kd.C_alloc ?_ _) | (with_reducible refine Kd.C_drewN ?_ _) | (with_reducible refine Kd.C_drew ?_))); (case side2 => exact (Kd.R_reads' HO594.out).2.1); (case side3 => repeat (first | exact (Kd.R_reads' HO598.out).2.2 | (with_reducible refine Kd.C_alloc ?_ _) | (with_reducible refine Kd.C_drewN ?_ _) | (with_reducible refine Kd.C_drew ?_))); (case side4 => exact (Kd.R_reads' HO598.out).2.1); rintro e w' ⟨rfl, ⟨nd, rfl⟩⟩))
           go_ret
           exact ⟨by first | rfl | (simp <;> rfl) | (simp [*] <;> rfl), by repeat (first | (with_reducible first | exact HB.out | apply ba_ | apply bn_ | apply bd_ | refine below_set ?_ GE589.out) | exact HB.out)⟩
          ·rw [if_neg c26] at H
           have c26b0 : (t607 == t609) = false := beq_eq_false_iff_ne.mpr c26
           have c26b1 : (t607 != t609) = true := bne_iff_ne.mpr c26
           exact absurd ((Option.some.inj H).trans hT.out) Bool.false_ne_true
         ·rw [if_neg c25] at H
          have c25b0 : (t604 == t606) = false := beq_eq_false_iff_ne.mpr c25
          have c25b1 : (t604 != t606) = true := bne_iff_ne.mpr c25
          exact absurd ((Option.some.inj H).trans hT.out) Bool.false_ne_true
        ·rw [if_neg c24] at H
         have c24b0 : (t603 == t605) = false := by simpa using c24
         (try (have c24b1 : decide (t603 = t605) = false := by simpa using c24))
         (try (have c24b2 : (t603 == t605) = false := by simpa using c24))
         (try (have c24b3 : ¬ (t603 = t605) := by simpa using c24))
         clear c24
         exact absurd ((Option.some.inj H).trans hT.out) Bool.false_ne_true
       ·rw [if_neg c23] at H
        have c23b0 : (t600 == t602) = false := beq_eq_false_iff_ne.mpr c23
        have c23b1 : (t600 != t602) = true := bne_iff_ne.mpr c23
        exact absurd ((Option.some.inj H).trans hT.out) Bool.false_ne_true
      ·rw [if_neg c22] at H
       have c22b0 : (t599 == t601) = false := beq_eq_false_iff_ne.mpr c22
       have c22b1 : (t599 != t601) = true := bne_iff_ne.mpr c22
       exact absurd ((Option.some.inj H).trans hT.out) Bool.false_ne_true
     ·rw [if_neg c21] at H
      have c21b0 : (t592 == t596) = false := beq_eq_false_iff_ne.mpr c21
      have c21b1 : (t592 != t596) = true := bne_iff_ne.mpr c21
      exact absurd ((Option.some.inj H).trans hT.out) Bool.false_ne_true
    ·replace c20 := Bool.eq_false_iff.mpr c20
     subst c20
     have H1 : (some false) = some r := by rw [if_neg (show ¬ (false = true) by decide)] at H; exact H
     clear H
     have H := H1
     clear H1
     exact absurd ((Option.some.inj H).trans hT.out) Bool.false_ne_true
   ·replace c18 := Bool.eq_false_iff.mpr c18
    subst c18
    have H1 : (some false) = some r := by rw [if_neg (show ¬ (false = true) by decide)] at H; exact H
    clear H
    have H := H1
    clear H1
    exact absurd ((Option.some.inj H).trans hT.out) Bool.false_ne_true
def medlarlaw12_LayerDoes.Pure : Prop := ∀ (a0 : Int) (a1 : Int) (l2 : List Int) (a3 : Int) (a4_0 : Int) (a4_1 : Int), (Lit.int .i64 a0).wf = true → (Lit.int .i64 a1).wf = true → l2.length ≤ maxLen → l2.length * 8 ≤ 140737488351232 → (∀ x ∈ l2, (Lit.int .u64 x).wf = true) → (Lit.int .i64 a3).wf = true → (Lit.int .u64 a4_0).wf = true → (Lit.int .u64 a4_1).wf = true → ∃ k, medlarlaw12_LayerDoes.f k a0 a1 l2 a3 a4_0 a4_1 = some true
theorem medlarlaw12_LayerDoes.walk (P : medlarlaw12_LayerDoes.Pure) (a0 : Int) (a1 : Int) (a2 : Option Addr) (len2 cap2 : Nat) (z2 : List Int) (a3 : Int) (a4_0 : Int) (a4_1 : Int) (w : World) (w0 : (Lit.int .i64 a0).wf = true) (w1 : (Lit.int .i64 a1).wf = true) (w2 : (a2 = none ∧ len2 = 0 ∧ cap2 = 0 ∧ z2 = []) ∨ ∃ x, a2 = some x ∧ len2 ≤ cap2 ∧ cap2 ≤ maxLen ∧ z2.length = cap2 ∧ (∀ i, i < z2.length → w.cell? (x.add i) = some (.int .u64 (z2.getD i 0))) ∧ ∀ n ∈ z2, (Lit.int .u64 n).wf = true) (y2 : len2 * 8 ≤ 140737488351232) (w3 : (Lit.int .i64 a3).wf = true) (w4_0 : (Lit.int .u64 a4_0).wf = true) (w4_1 : (Lit.int .u64 a4_1).wf = true) :
   Calls Tryz.prog 3 #[.int .i64 a0, .int .i64 a1, .slice a2 len2 cap2, .int .i64 a3, .agg #[.int .u64 a4_0, .int .u64 a4_1]] w fun e w' => e = .returned (.bool true) ∧ Below w.heap.size w w' := by
  obtain ⟨l2, rfl, hr2, hm2, hw2, hc2⟩ := ReadsInt.ofRowC w2
  obtain ⟨k, h⟩ := P a0 a1 l2 a3 a4_0 a4_1 w0 w1 hm2 y2 hw2 w3 w4_0 w4_1
  refine (medlarlaw12_LayerDoes.calls k a0 a1 _ _ l2 a3 a4_0 a4_1 true w (Kd.C_of_reads (d := (0 : Int)) (h1 := fun _ => rfl) hr2) hc2 h ⟨rfl⟩).mono ?_
  rintro e w' ⟨rfl, hd⟩
  exact ⟨rfl, hd⟩
end Go.Proofs.YtmffkfakcbopcaaGreat.MP
