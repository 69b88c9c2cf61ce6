-- written by a program of this session (wip/tools/mprint.sh) for this seat
import Derived.Test.YtnbiddloiiljjaaMPx0
import Derived.Test.YtnbiddloiiljjaaMPx1
import Derived.Test.YtnbiddloiiljjaaMPx3
import Derived.Test.YtnbiddloiiljjaaMPx4
import Derived.Test.YtnbiddloiiljjaaMPx5
import Derived.Test.YtnbiddloiiljjaaMPx6
import Derived.Test.YtnbiddloiiljjaaMPx7
namespace Go.Proofs.Ytnbiddloiiljjaa.MP
open Go.RowKit Go.Proofs.YtnbiddloiiljjaaW.PrintWords Go.Proofs.YtnbiddloiiljjaaW.PrintLast Go.Proofs.YtnbiddloiiljjaaW.PrintMore
open Option (bind_eq_some_iff some.injEq)
open _root_.Go.Proofs.Try
open List (setIfInBounds_toArray set_cons_zero set_cons_succ map_toArray map_cons map_nil length_drop length_take)
attribute [local go_sem] max2_int min2_int max_two min_two max_three min_three max_four min_four
set_option linter.unusedVariables false
set_option linter.unusedSimpArgs false
attribute [local go_sem high] eqA48
def medlarlaw23_TraceDoes.l0 : Nat → Int → Int → Bool → Bool → Int → Bool → Int → Int → Int → Int → Int → Int → Int → List (S24) → Int → Int → Bool → Int → Int → Bool → Int → Int → Option (Bool)
  | 0, _, _, _, _, _, _, _, _, _, _, _, _, _, _, _, _, _, _, _, _, _, _ => none
  | k + 1, x0, x1, x13, x14, x15, x16, x17, x18, x19, x20, x21, x23, x25, x82, x83, x84, x423000, x423001, x423002, x428000, x428001, x428002 => if x84 < x83 then (if 0 ≤ x84 then (if x84 < (x82.length : Int) then ((trace_Halves.f k x0 x1 ((rd_T24 x82 x84).f0) ((rd_T24 x82 x84).f1)).bind fun bt430 => ((medlarref23_Halves.f k x0 x1 ((rd_T24 x82 x84).f0) ((rd_T24 x82 x84).f1)).bind fun bt434 => ((medlarref08_Same.f k bt430.1 bt434.1).bind fun t438 => (if t438 = true then (if bt430.2 = bt434.2 then (medlarlaw23_TraceDoes.l0 k x0 x1 x13 x14 x15 x16 x17 x18 x19 x20 x21 x23 x25 x82 x83 (wrap64 (x84 + 1)) x423000 x423001 x423002 x428000 x428001 x428002) else (some false)) else (some false))))) else (none)) else (none)) else (if x13 = true then (if (x14 == x16) = true then (if x15 = x17 then (if x18 = x20 then (if x19 = x21 then (if (x423000 == x428000 && (x423001 == x428001 && (x423002 == x428002))) = true then (some (x23 == x25)) else (some false)) else (some false)) else (some false)) else (some false)) else (some false)) else (some false))
def medlarlaw23_TraceDoes.f (k : Nat) (a0 : Int) (a1 : Int) (l2 : List (S24)) (a3_0 : Bool) (l3_1 : List Int) (l3_2 : List Bool) (a4 : Int) (a5 : Int) : Option (Bool) := (medlarlaw23_live.f k).bind fun t408 => ((medlarlaw23_few.f a3_0 l3_1 l3_2 l2).bind fun t409 => (if t409 = true then ((trace_Ask.f k a0 a3_0 l3_1 l3_2 a4 l2).bind fun bt410 => ((medlarref23_Ask.f k a0 a3_0 l3_1 l3_2 a4 l2).bind fun bt412 => ((trace_Bound.f k a0 a5).bind fun bt414 => ((medlarref23_Bound.f k a0 a5).bind fun bt416 => ((trace_Trace.f k a0 a1 l2 a3_0 l3_1 l3_2).bind fun bt418 => ((medlarref23_Trace.f k a0 a1 l2 a3_0 l3_1 l3_2).bind fun bt423 => (medlarlaw23_TraceDoes.l0 k a0 a1 t408 bt410.1 bt410.2 bt412.1 bt412.2 bt414.1 bt414.2 bt416.1 bt416.2 bt418.2.2.2 bt423.2.2.2 l2 (l2.length : Int) 0 bt418.1 bt418.2.1 bt418.2.2.1 bt423.1 bt423.2.1 bt423.2.2.1))))))) else (some t408)))
set_option maxHeartbeats 8000000 in
set_option maxRecDepth 100000 in
theorem medlarlaw23_TraceDoes.calls (k : Nat) (a0 : Int) (a1 : Int) (A2 : Option Addr) (c2 : Nat) (l2 : List (S24)) (a3_0 : Bool) (A3_1 : Option Addr) (c3_1 : Nat) (l3_1 : List Int) (A3_2 : Option Addr) (c3_2 : Nat) (l3_2 : List Bool) (a4 : Int) (a5 : Int) (r : Bool) (w : World) (hr2 : Kd.C k24 w A2 l2.length l2) (hc2 : l2.length ≤ c2) (hr3_1 : Kd.C (Kd.int .u64) w A3_1 l3_1.length l3_1) (hc3_1 : l3_1.length ≤ c3_1) (hr3_2 : Kd.C Kd.bool w A3_2 l3_2.length l3_2) (hc3_2 : l3_2.length ≤ c3_2) (h : medlarlaw23_TraceDoes.f k a0 a1 l2 a3_0 l3_1 l3_2 a4 a5 = some r) (hT : Aside0 (r = true)) :
   Calls Try.prog 4 #[.int .i64 a0, .int .i64 a1, .slice A2 l2.length c2, .agg #[.bool a3_0, .slice A3_1 l3_1.length c3_1, .slice A3_2 l3_2.length c3_2], .int .i64 a4, .int .i64 a5] w fun e w' => e = .returned (.bool r) ∧ Below w.heap.size w w' := by
  have hu42 := underlying42
  have hu48 := underlying48
  have hu24 := underlying24
  have HR2 := ak_ hr2
  have HC2 := ak_ hc2
  clear hr2 hc2
  have HR3_1 := ak_ hr3_1
  have HC3_1 := ak_ hc3_1
  clear hr3_1 hc3_1
  have HR3_2 := ak_ hr3_2
  have HC3_2 := ak_ hc3_2
  clear hr3_2 hc3_2
  have HB := ak_ (Below.refl w.heap.size w)
  have H : ((medlarlaw23_live.f k).bind fun t408 => ((medlarlaw23_few.f a3_0 l3_1 l3_2 l2).bind fun t409 => (if t409 = true then ((trace_Ask.f k a0 a3_0 l3_1 l3_2 a4 l2).bind fun bt410 => ((medlarref23_Ask.f k a0 a3_0 l3_1 l3_2 a4 l2).bind fun bt412 => ((trace_Bound.f k a0 a5).bind fun bt414 => ((medlarref23_Bound.f k a0 a5).bind fun bt416 => ((trace_Trace.f k a0 a1 l2 a3_0 l3_1 l3_2).bind fun bt418 => ((medlarref23_Trace.f k a0 a1 l2 a3_0 l3_1 l3_2).bind fun bt423 => (medlarlaw23_TraceDoes.l0 k a0 a1 t408 bt410.1 bt410.2 bt412.1 bt412.2 bt414.1 bt414.2 bt416.1 bt416.2 bt418.2.2.2 bt423.2.2.2 l2 (l2.length : Int) 0 bt418.1 bt418.2.1 bt418.2.2.1 bt423.1 bt423.2.1 bt423.2.2.1))))))) else (some t408)))) = some r := h
  clear h
  replace H := bind_eq_some_iff.mp H
  obtain ⟨t408, A70, H⟩ := H
  replace H : ((medlarlaw23_few.f a3_0 l3_1 l3_2 l2).bind fun t409 => (if t409 = true then ((trace_Ask.f k a0 a3_0 l3_1 l3_2 a4 l2).bind fun bt410 => ((medlarref23_Ask.f k a0 a3_0 l3_1 l3_2 a4 l2).bind fun bt412 => ((trace_Bound.f k a0 a5).bind fun bt414 => ((medlarref23_Bound.f k a0 a5).bind fun bt416 => ((trace_Trace.f k a0 a1 l2 a3_0 l3_1 l3_2).bind fun bt418 => ((medlarref23_Trace.f k a0 a1 l2 a3_0 l3_1 l3_2).bind fun bt423 => (medlarlaw23_TraceDoes.l0 k a0 a1 t408 bt410.1 bt410.2 bt412.1 bt412.2 bt414.1 bt414.2 bt416.1 bt416.2 bt418.2.2.2 bt423.2.2.2 l2 (l2.length : Int) 0 bt418.1 bt418.2.1 bt418.2.2.1 bt423.1 bt423.2.1 bt423.2.2.1))))))) else (some t408))) = some r := H
  have A7 := ak_ A70
  clear A70
  replace H := bind_eq_some_iff.mp H
  obtain ⟨t409, A80, H⟩ := H
  replace H : (if t409 = true then ((trace_Ask.f k a0 a3_0 l3_1 l3_2 a4 l2).bind fun bt410 => ((medlarref23_Ask.f k a0 a3_0 l3_1 l3_2 a4 l2).bind fun bt412 => ((trace_Bound.f k a0 a5).bind fun bt414 => ((medlarref23_Bound.f k a0 a5).bind fun bt416 => ((trace_Trace.f k a0 a1 l2 a3_0 l3_1 l3_2).bind fun bt418 => ((medlarref23_Trace.f k a0 a1 l2 a3_0 l3_1 l3_2).bind fun bt423 => (medlarlaw23_TraceDoes.l0 k a0 a1 t408 bt410.1 bt410.2 bt412.1 bt412.2 bt414.1 bt414.2 bt416.1 bt416.2 bt418.2.2.2 bt423.2.2.2 l2 (l2.length : Int) 0 bt418.1 bt418.2.1 bt418.2.2.1 bt423.1 bt423.2.1 bt423.2.2.1))))))) else (some t408)) = some r := H
  have A8 := ak_ A80
  clear A80
  by_cases c9 : t409 = true
  ·subst c9
   have H1 : ((trace_Ask.f k a0 a3_0 l3_1 l3_2 a4 l2).bind fun bt410 => ((medlarref23_Ask.f k a0 a3_0 l3_1 l3_2 a4 l2).bind fun bt412 => ((trace_Bound.f k a0 a5).bind fun bt414 => ((medlarref23_Bound.f k a0 a5).bind fun bt416 => ((trace_Trace.f k a0 a1 l2 a3_0 l3_1 l3_2).bind fun bt418 => ((medlarref23_Trace.f k a0 a1 l2 a3_0 l3_1 l3_2).bind fun bt423 => (medlarlaw23_TraceDoes.l0 k a0 a1 t408 bt410.1 bt410.2 bt412.1 bt412.2 bt414.1 bt414.2 bt416.1 bt416.2 bt418.2.2.2 bt423.2.2.2 l2 (l2.length : Int) 0 bt418.1 bt418.2.1 bt418.2.2.1 bt423.1 bt423.2.1 bt423.2.2.1))))))) = some r := by rw [if_pos rfl] at H; exact H
   clear H
   have H := H1
   clear H1
   replace H := bind_eq_some_iff.mp H
   obtain ⟨⟨t410, t411⟩, A100, H⟩ := H
   replace H : ((medlarref23_Ask.f k a0 a3_0 l3_1 l3_2 a4 l2).bind fun bt412 => ((trace_Bound.f k a0 a5).bind fun bt414 => ((medlarref23_Bound.f k a0 a5).bind fun bt416 => ((trace_Trace.f k a0 a1 l2 a3_0 l3_1 l3_2).bind fun bt418 => ((medlarref23_Trace.f k a0 a1 l2 a3_0 l3_1 l3_2).bind fun bt423 => (medlarlaw23_TraceDoes.l0 k a0 a1 t408 t410 t411 bt412.1 bt412.2 bt414.1 bt414.2 bt416.1 bt416.2 bt418.2.2.2 bt423.2.2.2 l2 (l2.length : Int) 0 bt418.1 bt418.2.1 bt418.2.2.1 bt423.1 bt423.2.1 bt423.2.2.1)))))) = some r := H
   have A10 := ak_ A100
   clear A100
   replace H := bind_eq_some_iff.mp H
   obtain ⟨⟨t412, t413⟩, A110, H⟩ := H
   replace H : ((trace_Bound.f k a0 a5).bind fun bt414 => ((medlarref23_Bound.f k a0 a5).bind fun bt416 => ((trace_Trace.f k a0 a1 l2 a3_0 l3_1 l3_2).bind fun bt418 => ((medlarref23_Trace.f k a0 a1 l2 a3_0 l3_1 l3_2).bind fun bt423 => (medlarlaw23_TraceDoes.l0 k a0 a1 t408 t410 t411 t412 t413 bt414.1 bt414.2 bt416.1 bt416.2 bt418.2.2.2 bt423.2.2.2 l2 (l2.length : Int) 0 bt418.1 bt418.2.1 bt418.2.2.1 bt423.1 bt423.2.1 bt423.2.2.1))))) = some r := H
   have A11 := ak_ A110
   clear A110
   replace H := bind_eq_some_iff.mp H
   obtain ⟨⟨t414, t415⟩, A120, H⟩ := H
   replace H : ((medlarref23_Bound.f k a0 a5).bind fun bt416 => ((trace_Trace.f k a0 a1 l2 a3_0 l3_1 l3_2).bind fun bt418 => ((medlarref23_Trace.f k a0 a1 l2 a3_0 l3_1 l3_2).bind fun bt423 => (medlarlaw23_TraceDoes.l0 k a0 a1 t408 t410 t411 t412 t413 t414 t415 bt416.1 bt416.2 bt418.2.2.2 bt423.2.2.2 l2 (l2.length : Int) 0 bt418.1 bt418.2.1 bt418.2.2.1 bt423.1 bt423.2.1 bt423.2.2.1)))) = some r := H
   have A12 := ak_ A120
   clear A120
   replace H := bind_eq_some_iff.mp H
   obtain ⟨⟨t416, t417⟩, A130, H⟩ := H
   replace H : ((trace_Trace.f k a0 a1 l2 a3_0 l3_1 l3_2).bind fun bt418 => ((medlarref23_Trace.f k a0 a1 l2 a3_0 l3_1 l3_2).bind fun bt423 => (medlarlaw23_TraceDoes.l0 k a0 a1 t408 t410 t411 t412 t413 t414 t415 t416 t417 bt418.2.2.2 bt423.2.2.2 l2 (l2.length : Int) 0 bt418.1 bt418.2.1 bt418.2.2.1 bt423.1 bt423.2.1 bt423.2.2.1))) = some r := H
   have A13 := ak_ A130
   clear A130
   replace H := bind_eq_some_iff.mp H
   obtain ⟨⟨t418, t419, t420, t421⟩, A140, H⟩ := H
   replace H : ((medlarref23_Trace.f k a0 a1 l2 a3_0 l3_1 l3_2).bind fun bt423 => (medlarlaw23_TraceDoes.l0 k a0 a1 t408 t410 t411 t412 t413 t414 t415 t416 t417 t421 bt423.2.2.2 l2 (l2.length : Int) 0 t418 t419 t420 bt423.1 bt423.2.1 bt423.2.2.1)) = some r := H
   have A14 := ak_ A140
   clear A140
   replace H := bind_eq_some_iff.mp H
   obtain ⟨⟨t423, t424, t425, t426⟩, A150, H⟩ := H
   replace H : (medlarlaw23_TraceDoes.l0 k a0 a1 t408 t410 t411 t412 t413 t414 t415 t416 t417 t421 t426 l2 (l2.length : Int) 0 t418 t419 t420 t423 t424 t425) = some r := H
   have A15 := ak_ A150
   clear A150
   have H' := ak_ H
   clear H
   go_enter func4, ntmps4
   go_wp2_with (first | ((with_reducible refine gate_dst (N := 9) rfl ?_); refine box_event ?hg (N := 9) ?hd (cs := #[.bool a3_0, .slice A3_1 l3_1.length c3_1, .slice A3_2 l3_2.length c3_2]) (t := 42) ?hr ?_; (case hd => rfl); (case hg => rfl); (case hr => first | (go_simp; done) | (go_simp; rfl)); intro gb407 hg w16 hbox hb; have n0_ := ak_ (bt_ (bl_ HB) hb); have n1_ := ak_ (hbox); have n2_ := ak_ ((gs_ hg HB)); have n3_ := ak_ ((gs_ hg HB)); clear HB; have HB := n0_; have BK407 := n1_; have GW407 := n2_; have GE407 := n3_; clear n0_ n1_ n2_ n3_; clear hb hbox hg) | ((with_reducible refine gate_callee (f := 9) rfl ?_); refine goesL_ (some 32) rfl rfl func9 (by kernel_rfl) rfl #[] rfl (by (try simp only [map_toArray, map_cons, map_nil]); first | done | rfl) ?_; (with_reducible refine (medlarlaw23_live.calls k  t408 _ A7.out).mono ?_); rintro e w17 ⟨rfl, hb⟩; refine ⟨_, rfl, ?_⟩; have n0_ := ak_ (kb_ (g := gb407) (o := .cells #[.bool a3_0, .slice A3_1 l3_1.length c3_1, .slice A3_2 l3_2.length c3_2] 42 (0, 0)) (kl_ BK407) hb); have n1_ := ak_ (bt_ (by repeat (first | (with_reducible first | exact HB.out | apply ba_ | apply bn_ | apply bd_ | refine below_set ?_ GE407.out) | exact HB.out)) hb); clear BK407; clear HB; have BK407 := n0_; have HB := n1_; clear n0_ n1_; (try clear hb); (try clear hk); have hcz18_0 : w17.cell? ⟨gb407, 0, none⟩ = some (.bool a3_0) := (kc_ BK407.out 0).trans rfl; have hcz18_1 : w17.cell? ⟨gb407, 1, none⟩ = some (.slice A3_1 l3_1.length c3_1) := (kc_ BK407.out 1).trans rfl; have hcz18_2 : w17.cell? ⟨gb407, 2, none⟩ = some (.slice A3_2 l3_2.length c3_2) := (kc_ BK407.out 2).trans rfl; have hfz18_0 := kf_ BK407.out 0; have hfz18_1 := kf_ BK407.out 1; have hfz18_2 := kf_ BK407.out 2) | ((with_reducible refine gate_callee (f := 15) rfl ?_); refine goesL_ (some 35) rfl rfl func15 (by kernel_rfl) rfl #[.agg #[.bool a3_0, .slice A3_1 l3_1.length c3_1, .slice A3_2 l3_2.length c3_2], .slice A2 l2.length c2] rfl (by (try simp only [map_toArray, map_cons, map_nil]); first | done | rfl) ?_; (with_reducible refine (medlarlaw23_few.calls a3_0 _ _ l3_1 _ _ l3_2 _ _ l2 true _ ?side1 ?side2 ?side3 ?side4 ?side5 ?side6 A8.out).mono ?_); (case side1 => repeat (first | exact (Kd.C_below HR3_1.out HB.out) | (with_reducible refine Kd.C_alloc ?_ _) | (with_reducible refine Kd.C_drewN ?_ _) | (with_reducible refine Kd.C_drew ?_))); (case side2 => exact HC3_1.out); (case side3 => repeat (first | exact (Kd.C_below HR3_2.out HB.out) | (with_reducible refine Kd.C_alloc ?_ _) | (with_reducible refine Kd.C_drewN ?_ _) | (with_reducible refine Kd.C_drew ?_))); (case side4 => exact HC3_2.out); (case side5 => repeat (first | exact (Kd.C_below HR2.out HB.out) | (with_reducible refine Kd.C_alloc ?_ _) | (with_reducible refine Kd.C_drewN ?_ _) | (with_reducible refine Kd.C_drew ?_))); (case side6 => exact HC2.out); rintro e w19 ⟨rfl, hb⟩; refine ⟨_, rfl, ?_⟩; have n0_ := ak_ (kb_ (g := gb407) (o := .cells #[.bool a3_0, .slice A3_1 l3_1.length c3_1, .slice A3_2 l3_2.length c3_2] 42 (0, 0)) (kl_ BK407) hb); have n1_ := ak_ (bt_ (by repeat (first | (with_reducible first | exact HB.out | apply ba_ | apply bn_ | apply bd_ | refine below_set ?_ GE407.out) | exact HB.out)) hb); clear BK407; clear HB; have BK407 := n0_; have HB := n1_; clear n0_ n1_; (try clear hb); (try clear hk); have hcz20_0 : w19.cell? ⟨gb407, 0, none⟩ = some (.bool a3_0) := (kc_ BK407.out 0).trans rfl; have hcz20_1 : w19.cell? ⟨gb407, 1, none⟩ = some (.slice A3_1 l3_1.length c3_1) := (kc_ BK407.out 1).trans rfl; have hcz20_2 : w19.cell? ⟨gb407, 2, none⟩ = some (.slice A3_2 l3_2.length c3_2) := (kc_ BK407.out 2).trans rfl; have hfz20_0 := kf_ BK407.out 0; have hfz20_1 := kf_ BK407.out 1; have hfz20_2 := kf_ BK407.out 2) | ((with_reducible refine gate_callee (f := 16) rfl ?_); refine goesL_ (some 43) rfl rfl func16 (by kernel_rfl) rfl #[.int .i64 a0, .agg #[.bool a3_0, .slice A3_1 l3_1.length c3_1, .slice A3_2 l3_2.length c3_2], .int .i64 a4, .slice A2 l2.length c2] rfl (by (try simp only [map_toArray, map_cons, map_nil]); first | done | rfl) ?_; (with_reducible refine (trace_Ask.calls k a0 a3_0 _ _ l3_1 _ _ l3_2 a4 _ _ l2 t410 t411 _ ?side1 ?side2 ?side3 ?side4 ?side5 ?side6 A10.out).mono ?_); (case side1 => repeat (first | exact (Kd.C_below HR3_1.out HB.out) | (with_reducible refine Kd.C_alloc ?_ _) | (with_reducible refine Kd.C_drewN ?_ _) | (with_reducible refine Kd.C_drew ?_))); (case side2 => exact HC3_1.out); (case side3 => repeat (first | exact (Kd.C_below HR3_2.out HB.out) | (with_reducible refine Kd.C_alloc ?_ _) | (with_reducible refine Kd.C_drewN ?_ _) | (with_reducible refine Kd.C_drew ?_))); (case side4 => exact HC3_2.out); (case side5 => repeat (first | exact (Kd.C_below HR2.out HB.out) | (with_reducible refine Kd.C_alloc ?_ _) | (with_reducible refine Kd.C_drewN ?_ _) | (with_reducible refine Kd.C_drew ?_))); (case side6 => exact HC2.out); rintro e w21 ⟨rfl, hb⟩; refine ⟨_, rfl, ?_⟩; have n0_ := ak_ (kb_ (g := gb407) (o := .cells #[.bool a3_0, .slice A3_1 l3_1.length c3_1, .slice A3_2 l3_2.length c3_2] 42 (0, 0)) (kl_ BK407) hb); have n1_ := ak_ (bt_ (by repeat (first | (with_reducible first | exact HB.out | apply ba_ | apply bn_ | apply bd_ | refine below_set ?_ GE407.out) | exact HB.out)) hb); clear BK407; clear HB; have BK407 := n0_; have HB := n1_; clear n0_ n1_; (try clear hb); (try clear hk); have hcz22_0 : w21.cell? ⟨gb407, 0, none⟩ = some (.bool a3_0) := (kc_ BK407.out 0).trans rfl; have hcz22_1 : w21.cell? ⟨gb407, 1, none⟩ = some (.slice A3_1 l3_1.length c3_1) := (kc_ BK407.out 1).trans rfl; have hcz22_2 : w21.cell? ⟨gb407, 2, none⟩ = some (.slice A3_2 l3_2.length c3_2) := (kc_ BK407.out 2).trans rfl; have hfz22_0 := kf_ BK407.out 0; have hfz22_1 := kf_ BK407.out 1; have hfz22_2 := kf_ BK407.out 2) | ((with_reducible refine gate_callee (f := 17) rfl ?_); refine goesL_ (some 51) rfl rfl func17 (by kernel_rfl) rfl #[.int .i64 a0, .agg #[.bool a3_0, .slice A3_1 l3_1.length c3_1, .slice A3_2 l3_2.length c3_2], .int .i64 a4, .slice A2 l2.length c2] rfl (by (try simp only [map_toArray, map_cons, map_nil]); first | done | rfl) ?_; (with_reducible refine (medlarref23_Ask.calls k a0 a3_0 _ _ l3_1 _ _ l3_2 a4 _ _ l2 t412 t413 _ ?side1 ?side2 ?side3 ?side4 ?side5 ?side6 A11.out).mono ?_); (case side1 => repeat (first | exact (Kd.C_below HR3_1.out HB.out) | (with_reducible refine Kd.C_alloc ?_ _) | (with_reducible refine Kd.C_drewN ?_ _) | (with_reducible refine Kd.C_drew ?_))); (case side2 => exact HC3_1.out); (case side3 => repeat (first | exact (Kd.C_below HR3_2.out HB.out) | (with_reducible refine Kd.C_alloc ?_ _) | (with_reducible refine Kd.C_drewN ?_ _) | (with_reducible refine Kd.C_drew ?_))); (case side4 => exact HC3_2.out); (case side5 => repeat (first | exact (Kd.C_below HR2.out HB.out) | (with_reducible refine Kd.C_alloc ?_ _) | (with_reducible refine Kd.C_drewN ?_ _) | (with_reducible refine Kd.C_drew ?_))); (case side6 => exact HC2.out); rintro e w23 ⟨rfl, hb⟩; refine ⟨_, rfl, ?_⟩; have n0_ := ak_ (kb_ (g := gb407) (o := .cells #[.bool a3_0, .slice A3_1 l3_1.length c3_1, .slice A3_2 l3_2.length c3_2] 42 (0, 0)) (kl_ BK407) hb); have n1_ := ak_ (bt_ (by repeat (first | (with_reducible first | exact HB.out | apply ba_ | apply bn_ | apply bd_ | refine below_set ?_ GE407.out) | exact HB.out)) hb); clear BK407; clear HB; have BK407 := n0_; have HB := n1_; clear n0_ n1_; (try clear hb); (try clear hk)) | ((with_reducible refine gate_callee (f := 18) rfl ?_); refine goesL_ (some 57) rfl rfl func18 (by kernel_rfl) rfl #[.int .i64 a0, .int .i64 a5] rfl (by (try simp only [map_toArray, map_cons, map_nil]); first | done | rfl) ?_; (with_reducible refine (trace_Bound.calls k a0 a5 t414 t415 _ A12.out).mono ?_); rintro e w' ⟨rfl, ⟨nd, rfl⟩⟩; refine ⟨_, rfl, ?_⟩; (try (rw [drewN_self w23]; generalize hq_ : World.drewN w23 _ = w23; have n0_ : Aside0 (w23.heap[gb407]? = some (.cells #[.bool a3_0, .slice A3_1 l3_1.length c3_1, .slice A3_2 l3_2.length c3_2] 42 (0, 0))) := ⟨by rw [← hq_]; exact (kl_ BK407)⟩; have n1_ : Aside0 (Below w.heap.size w w23) := ⟨by rw [← hq_]; exact (by repeat (first | (with_reducible first | exact HB.out | apply ba_ | apply bn_ | apply bd_ | refine below_set ?_ GE407.out) | exact HB.out))⟩; clear BK407 HB hq_; have BK407 := n0_; have HB := n1_; clear n0_ n1_))) | ((with_reducible refine gate_callee (f := 19) rfl ?_); refine goesL_ (some 63) rfl rfl func19 (by kernel_rfl) rfl #[.int .i64 a0, .int .i64 a5] rfl (by (try simp only [map_toArray, map_cons, map_nil]); first | done | rfl) ?_; (with_reducible refine (medlarref23_Bound.calls k a0 a5 t416 t417 _ A13.out).mono ?_); rintro e w' ⟨rfl, ⟨nd, rfl⟩⟩; refine ⟨_, rfl, ?_⟩; (try (rw [drewN_self w23]; generalize hq_ : World.drewN w23 _ = w23; have n0_ : Aside0 (w23.heap[gb407]? = some (.cells #[.bool a3_0, .slice A3_1 l3_1.length c3_1, .slice A3_2 l3_2.length c3_2] 42 (0, 0))) := ⟨by rw [← hq_]; exact (kl_ BK407)⟩; have n1_ : Aside0 (Below w.heap.size w w23) := ⟨by rw [← hq_]; exact (by repeat (first | (with_reducible first | exact HB.out | apply ba_ | apply bn_ | apply bd_ | refine below_set ?_ GE407.out) | exact HB.out))⟩; clear BK407 HB hq_; have BK407 := n0_; have HB := n1_; clear n0_ n1_)); have hcz24_0 : w23.cell? ⟨gb407, 0, none⟩ = some (.bool a3_0) := (kc_ BK407.out 0).trans rfl; have hcz24_1 : w23.cell? ⟨gb407, 1, none⟩ = some (.slice A3_1 l3_1.length c3_1) := (kc_ BK407.out 1).trans rfl; have hcz24_2 : w23.cell? ⟨gb407, 2, none⟩ = some (.slice A3_2 l3_2.length c3_2) := (kc_ BK407.out 2).trans rfl; have hfz24_0 := kf_ BK407.out 0; have hfz24_1 := kf_ BK407.out 1; have hfz24_2 := kf_ BK407.out 2) | ((with_reducible refine gate_callee (f := 20) rfl ?_); refine goesL_ (some 71) rfl rfl func20 (by kernel_rfl) rfl #[.int .i64 a0, .int .i64 a1, .slice A2 l2.length c2, .agg #[.bool a3_0, .slice A3_1 l3_1.length c3_1, .slice A3_2 l3_2.length c3_2]] rfl (by (try simp only [map_toArray, map_cons, map_nil]); first | done | rfl) ?_; (with_reducible refine (trace_Trace.calls k a0 a1 _ _ l2 a3_0 _ _ l3_1 _ _ l3_2 t418 t419 t420 t421 _ ?side1 ?side2 ?side3 ?side4 ?side5 ?side6 A14.out).mono ?_); (case side1 => repeat (first | exact (Kd.C_below HR2.out HB.out) | (with_reducible refine Kd.C_alloc ?_ _) | (with_reducible refine Kd.C_drewN ?_ _) | (with_reducible refine Kd.C_drew ?_))); (case side2 => exact HC2.out); (case side3 => repeat (first | exact (Kd.C_below HR3_1.out HB.out) | (with_reducible refine Kd.C_alloc ?_ _) | (with_reducible refine Kd.C_drewN ?_ _) | (with_reducible refine Kd.C_drew ?_))); (case side4 => exact HC3_1.out); (case side5 => repeat (first | exact (Kd.C_below HR3_2.out HB.out) | (with_reducible refine Kd.C_alloc ?_ _) | (with_reducible refine Kd.C_drewN ?_ _) | (with_reducible refine Kd.C_drew ?_))); (case side6 => exact HC3_2.out); rintro e w25 ⟨rfl, hb⟩; refine ⟨_, rfl, ?_⟩; have n0_ := ak_ (kb_ (g := gb407) (o := .cells #[.bool a3_0, .slice A3_1 l3_1.length c3_1, .slice A3_2 l3_2.length c3_2] 42 (0, 0)) (kl_ BK407) hb); have n1_ := ak_ (bt_ (by repeat (first | (with_reducible first | exact HB.out | apply ba_ | apply bn_ | apply bd_ | refine below_set ?_ GE407.out) | exact HB.out)) hb); clear BK407; clear HB; have BK407 := n0_; have HB := n1_; clear n0_ n1_; (try clear hb); (try clear hk)) | ((with_reducible refine gate_dst (N := 22) rfl ?_); refine box_event ?hg (N := 22) ?hd (cs := #[.bool false, .int .u64 0, .int .i64 0]) (t := 48) ?hr ?_; (case hd => rfl); (case hg => rfl); (case hr => first | (go_simp; done) | (go_simp; rfl)); intro gb422 hg w26 hbox hb; have n0_ := ak_ (kb_ (g := gb407) (o := .cells #[.bool a3_0, .slice A3_1 l3_1.length c3_1, .slice A3_2 l3_2.length c3_2] 42 (0, 0)) (kl_ BK407) hb); have n1_ := ak_ (bt_ (by repeat (first | (with_reducible first | exact HB.out | apply ba_ | apply bn_ | apply bd_ | refine below_set ?_ GE407.out) | exact HB.out)) hb); have n2_ := ak_ (hbox); have n3_ := ak_ ((by rw [hg]; exact (bz_ (by repeat (first | (with_reducible first | exact HB.out | apply ba_ | apply bn_ | apply bd_ | refine below_set ?_ GE407.out) | exact HB.out))) : w.heap.size ≤ gb422)); have n4_ := ak_ ((by rw [hg]; exact (bz_ (by repeat (first | (with_reducible first | exact HB.out | apply ba_ | apply bn_ | apply bd_ | refine below_set ?_ GE407.out) | exact HB.out))) : w.heap.size ≤ gb422)); have n5_ := ak_ ((by rw [hg]; exact Nat.ne_of_lt (blk_lt (g := gb407) (o := .cells #[.bool a3_0, .slice A3_1 l3_1.length c3_1, .slice A3_2 l3_2.length c3_2] 42 (0, 0)) (kl_ BK407)) : gb407 ≠ gb422)); have n6_ := ak_ ((by rw [hg]; exact Nat.ne_of_gt (blk_lt (g := gb407) (o := .cells #[.bool a3_0, .slice A3_1 l3_1.length c3_1, .slice A3_2 l3_2.length c3_2] 42 (0, 0)) (kl_ BK407)) : gb422 ≠ gb407)); clear BK407; clear HB; have BK407 := n0_; have HB := n1_; have BK422 := n2_; have GW422 := n3_; have GE422 := n4_; have NB407_422 := n5_; have NB422_407 := n6_; clear n0_ n1_ n2_ n3_ n4_ n5_ n6_; clear hb hbox hg; have hnb27 := NB422_407.out; have hnc27 := NB407_422.out; have hcz28_0 : w26.cell? ⟨gb422, 0, none⟩ = some (.bool false) := (kc_ BK422.out 0).trans rfl; have hcz28_1 : w26.cell? ⟨gb422, 1, none⟩ = some (.int .u64 0) := (kc_ BK422.out 1).trans rfl; have hcz28_2 : w26.cell? ⟨gb422, 2, none⟩ = some (.int .i64 0) := (kc_ BK422.out 2).trans rfl; have hfz28_0 := kf_ BK422.out 0; have hfz28_1 := kf_ BK422.out 1; have hfz28_2 := kf_ BK422.out 2; have hcz29_0 : w26.cell? ⟨gb407, 0, none⟩ = some (.bool a3_0) := (kc_ BK407.out 0).trans rfl; have hcz29_1 : w26.cell? ⟨gb407, 1, none⟩ = some (.slice A3_1 l3_1.length c3_1) := (kc_ BK407.out 1).trans rfl; have hcz29_2 : w26.cell? ⟨gb407, 2, none⟩ = some (.slice A3_2 l3_2.length c3_2) := (kc_ BK407.out 2).trans rfl; have hfz29_0 := kf_ BK407.out 0; have hfz29_1 := kf_ BK407.out 1; have hfz29_2 := kf_ BK407.out 2) | ((with_reducible refine gate_callee (f := 21) rfl ?_); refine goesL_ (some 79) rfl rfl func21 (by kernel_rfl) rfl #[.int .i64 a0, .int .i64 a1, .slice A2 l2.length c2, .agg #[.bool a3_0, .slice A3_1 l3_1.length c3_1, .slice A3_2 l3_2.length c3_2]] rfl (by (try simp only [map_toArray, map_cons, map_nil]); first | done | rfl) ?_; (with_reducible refine (medlarref23_Trace.calls k a0 a1 _ _ l2 a3_0 _ _ l3_1 _ _ l3_2 t423 t424 t425 t426 _ ?side1 ?side2 ?side3 ?side4 ?side5 ?side6 A15.out).mono ?_); (case side1 => exact Kd.C_below HR2.out (by repeat (first | (with_reducible first | exact HB.out | apply ba_ | apply bn_ | apply bd_ | refine below_set ?_ GE407.out | refine below_set ?_ GE422.out) | exact HB.out))); (case side2 => exact HC2.out); (case side3 => exact Kd.C_below HR3_1.out (by repeat (first | (with_reducible first | exact HB.out | apply ba_ | apply bn_ | apply bd_ | refine below_set ?_ GE407.out | refine below_set ?_ GE422.out) | exact HB.out))); (case side4 => exact HC3_1.out); (case side5 => exact Kd.C_below HR3_2.out (by repeat (first | (with_reducible first | exact HB.out | apply ba_ | apply bn_ | apply bd_ | refine below_set ?_ GE407.out | refine below_set ?_ GE422.out) | exact HB.out))); (case side6 => exact HC3_2.out); rintro e w30 ⟨rfl, hb⟩; refine ⟨_, rfl, ?_⟩; have n0_ := ak_ (kb_ (g := gb407) (o := .cells #[.bool a3_0, .slice A3_1 l3_1.length c3_1, .slice A3_2 l3_2.length c3_2] 42 (0, 0)) (by (with_reducible repeat (first | refine kn_ ?_ _ | refine kd_ ?_ | refine ka_ ?_ _)); refine blk_far ?_ NB407_422.out _; (with_reducible repeat (first | refine kn_ ?_ _ | refine kd_ ?_ | refine ka_ ?_ _)); refine blk_far ?_ NB407_422.out _; (with_reducible repeat (first | refine kn_ ?_ _ | refine kd_ ?_ | refine ka_ ?_ _)); refine blk_far ?_ NB407_422.out _; (with_reducible repeat (first | refine kn_ ?_ _ | refine kd_ ?_ | refine ka_ ?_ _)); exact BK407.out) hb); have n1_ := ak_ (kb_ (g := gb422) (o := .cells #[.bool t418, .int .u64 t419, .int .i64 t420] 48 (0, 0)) (by (with_reducible repeat (first | refine kn_ ?_ _ | refine kd_ ?_ | refine ka_ ?_ _)); refine blk_put (cs := #[.bool t418, .int .u64 t419, .int .i64 0]) ?_ 2 _ rfl; (with_reducible repeat (first | refine kn_ ?_ _ | refine kd_ ?_ | refine ka_ ?_ _)); refine blk_put (cs := #[.bool t418, .int .u64 0, .int .i64 0]) ?_ 1 _ rfl; (with_reducible repeat (first | refine kn_ ?_ _ | refine kd_ ?_ | refine ka_ ?_ _)); refine blk_put (cs := #[.bool false, .int .u64 0, .int .i64 0]) ?_ 0 _ rfl; (with_reducible repeat (first | refine kn_ ?_ _ | refine kd_ ?_ | refine ka_ ?_ _)); exact BK422.out) hb); have n2_ := ak_ (bt_ (by repeat (first | (with_reducible first | exact HB.out | apply ba_ | apply bn_ | apply bd_ | refine below_set ?_ GE407.out | refine below_set ?_ GE422.out) | exact HB.out)) hb); clear BK407; clear BK422; clear HB; have BK407 := n0_; have BK422 := n1_; have HB := n2_; clear n0_ n1_ n2_; (try clear hb); (try clear hk)) | ((with_reducible refine gate_dst (N := 24) rfl ?_); refine box_event ?hg (N := 24) ?hd (cs := #[.bool false, .int .u64 0, .int .i64 0]) (t := 48) ?hr ?_; (case hd => rfl); (case hg => rfl); (case hr => first | (go_simp; done) | (go_simp; rfl)); intro gb427 hg w31 hbox hb; have n0_ := ak_ (kb_ (g := gb407) (o := .cells #[.bool a3_0, .slice A3_1 l3_1.length c3_1, .slice A3_2 l3_2.length c3_2] 42 (0, 0)) (kl_ BK407) hb); have n1_ := ak_ (kb_ (g := gb422) (o := .cells #[.bool t418, .int .u64 t419, .int .i64 t420] 48 (0, 0)) (kl_ BK422) hb); have n2_ := ak_ (bt_ (by repeat (first | (with_reducible first | exact HB.out | apply ba_ | apply bn_ | apply bd_ | refine below_set ?_ GE407.out | refine below_set ?_ GE422.out) | exact HB.out)) hb); have n3_ := ak_ (hbox); have n4_ := ak_ ((by rw [hg]; exact (bz_ (by repeat (first | (with_reducible first | exact HB.out | apply ba_ | apply bn_ | apply bd_ | refine below_set ?_ GE407.out | refine below_set ?_ GE422.out) | exact HB.out))) : w.heap.size ≤ gb427)); have n5_ := ak_ ((by rw [hg]; exact (bz_ (by repeat (first | (with_reducible first | exact HB.out | apply ba_ | apply bn_ | apply bd_ | refine below_set ?_ GE407.out | refine below_set ?_ GE422.out) | exact HB.out))) : w.heap.size ≤ gb427)); have n6_ := ak_ ((by rw [hg]; exact Nat.ne_of_lt (blk_lt (g := gb407) (o := .cells #[.bool a3_0, .slice A3_1 l3_1.length c3_1, .slice A3_2 l3_2.length c3_2] 42 (0, 0)) (kl_ BK407)) : gb407 ≠ gb427)); have n7_ := ak_ ((by rw [hg]; exact Nat.ne_of_gt (blk_lt (g := gb407) (o := .cells #[.bool a3_0, .slice A3_1 l3_1.length c3_1, .slice A3_2 l3_2.length c3_2] 42 (0, 0)) (kl_ BK407)) : gb427 ≠ gb407)); have n8_ := ak_ ((by rw [hg]; exact Nat.ne_of_lt (blk_lt (g := gb422) (o := .cells #[.bool t418, .int .u64 t419, .int .i64 t420] 48 (0, 0)) (kl_ BK422)) : gb422 ≠ gb427)); have n9_ := ak_ ((by rw [hg]; exact Nat.ne_of_gt (blk_lt (g := gb422) (o := .cells #[.bool t418, .int .u64 t419, .int .i64 t420] 48 (0, 0)) (kl_ BK422)) : gb427 ≠ gb422)); clear BK407; clear BK422; clear HB; have BK407 := n0_; have BK422 := n1_; have HB := n2_; have BK427 := n3_; have GW427 := n4_; have GE427 := n5_; have NB407_427 := n6_; have NB427_407 := n7_; have NB422_427 := n8_; have NB427_422 := n9_; clear n0_ n1_ n2_ n3_ n4_ n5_ n6_ n7_ n8_ n9_; clear hb hbox hg; have hnb32 := NB427_407.out; have hnc32 := NB407_427.out; have hnb33 := NB427_422.out; have hnc33 := NB422_427.out; have hcz34_0 : w31.cell? ⟨gb427, 0, none⟩ = some (.bool false) := (kc_ BK427.out 0).trans rfl; have hcz34_1 : w31.cell? ⟨gb427, 1, none⟩ = some (.int .u64 0) := (kc_ BK427.out 1).trans rfl; have hcz34_2 : w31.cell? ⟨gb427, 2, none⟩ = some (.int .i64 0) := (kc_ BK427.out 2).trans rfl; have hfz34_0 := kf_ BK427.out 0; have hfz34_1 := kf_ BK427.out 1; have hfz34_2 := kf_ BK427.out 2))
   go_loopg [84] k (fun kq v84 w' => ∃ (x84_1 : Int), v84 = .int .i64 x84_1 ∧ Aside0 (medlarlaw23_TraceDoes.l0 kq a0 a1 t408 t410 t411 t412 t413 t414 t415 t416 t417 t421 t426 l2 (l2.length : Int) x84_1 t418 t419 t420 t423 t424 t425 = some r) ∧ Aside0 (kq ≤ k) ∧ Aside0 (w'.heap[gb407]? = some (.cells #[.bool a3_0, (.slice A3_1 l3_1.length c3_1), (.slice A3_2 l3_2.length c3_2)] 42 (0, 0))) ∧ Aside0 (w'.heap[gb422]? = some (.cells #[.bool t418, .int .u64 t419, .int .i64 t420] 48 (0, 0))) ∧ Aside0 (w'.heap[gb427]? = some (.cells #[.bool t423, .int .u64 t424, .int .i64 t425] 48 (0, 0))) ∧ Aside0 (Below w.heap.size w w'))
   case atStart => exact ⟨(0), (by first | rfl | (simp; done) | (simp [*]; done)), H', ⟨Nat.le_refl _⟩, ⟨by (with_reducible repeat (first | refine kn_ ?_ _ | refine kd_ ?_ | refine ka_ ?_ _)); refine blk_far ?_ NB407_427.out _; (with_reducible repeat (first | refine kn_ ?_ _ | refine kd_ ?_ | refine ka_ ?_ _)); refine blk_far ?_ NB407_427.out _; (with_reducible repeat (first | refine kn_ ?_ _ | refine kd_ ?_ | refine ka_ ?_ _)); refine blk_far ?_ NB407_427.out _; (with_reducible repeat (first | refine kn_ ?_ _ | refine kd_ ?_ | refine ka_ ?_ _)); exact BK407.out⟩, ⟨by (with_reducible repeat (first | refine kn_ ?_ _ | refine kd_ ?_ | refine ka_ ?_ _)); refine blk_far ?_ NB422_427.out _; (with_reducible repeat (first | refine kn_ ?_ _ | refine kd_ ?_ | refine ka_ ?_ _)); refine blk_far ?_ NB422_427.out _; (with_reducible repeat (first | refine kn_ ?_ _ | refine kd_ ?_ | refine ka_ ?_ _)); refine blk_far ?_ NB422_427.out _; (with_reducible repeat (first | refine kn_ ?_ _ | refine kd_ ?_ | refine ka_ ?_ _)); exact BK422.out⟩, ⟨by (with_reducible repeat (first | refine kn_ ?_ _ | refine kd_ ?_ | refine ka_ ?_ _)); refine blk_put (cs := #[.bool t423, .int .u64 t424, .int .i64 0]) ?_ 2 _ rfl; (with_reducible repeat (first | refine kn_ ?_ _ | refine kd_ ?_ | refine ka_ ?_ _)); refine blk_put (cs := #[.bool t423, .int .u64 0, .int .i64 0]) ?_ 1 _ rfl; (with_reducible repeat (first | refine kn_ ?_ _ | refine kd_ ?_ | refine ka_ ?_ _)); refine blk_put (cs := #[.bool false, .int .u64 0, .int .i64 0]) ?_ 0 _ rfl; (with_reducible repeat (first | refine kn_ ?_ _ | refine kd_ ?_ | refine ka_ ?_ _)); exact BK427.out⟩, ⟨by repeat (first | (with_reducible first | exact HB.out | apply ba_ | apply bn_ | apply bd_ | refine below_set ?_ GE407.out | refine below_set ?_ GE422.out | refine below_set ?_ GE427.out) | exact HB.out)⟩⟩
   case round =>
    clear H'
    try clear c1
    try clear c2
    try clear p2
    try clear c3
    try clear c4
    try clear c9
    try clear c15
    try clear c16
    try clear c17
    try clear c18
    try clear c19
    try clear c20
    try clear c21
    try clear c27
    try clear c32
    try clear c33
    try clear hcz18_0
    try clear hcz18_1
    try clear hcz18_2
    try clear hcz20_0
    try clear hcz20_1
    try clear hcz20_2
    try clear hcz22_0
    try clear hcz22_1
    try clear hcz22_2
    try clear hcz24_0
    try clear hcz24_1
    try clear hcz24_2
    try clear hcz28_0
    try clear hcz28_1
    try clear hcz28_2
    try clear hcz29_0
    try clear hcz29_1
    try clear hcz29_2
    try clear hcz34_0
    try clear hcz34_1
    try clear hcz34_2
    try clear hfz18_0
    try clear hfz18_1
    try clear hfz18_2
    try clear hfz20_0
    try clear hfz20_1
    try clear hfz20_2
    try clear hfz22_0
    try clear hfz22_1
    try clear hfz22_2
    try clear hfz24_0
    try clear hfz24_1
    try clear hfz24_2
    try clear hfz28_0
    try clear hfz28_1
    try clear hfz28_2
    try clear hfz29_0
    try clear hfz29_1
    try clear hfz29_2
    try clear hfz34_0
    try clear hfz34_1
    try clear hfz34_2
    obtain ⟨x84_1, rfl, HA, HK1, BK407, BK422, BK427, HB⟩ := hrel
    cases gk with
    | zero => exact absurd HA.out (by simp [medlarlaw23_TraceDoes.l0])
    | succ k1 =>
     have H := HA.out
     clear HA
     simp only [medlarlaw23_TraceDoes.l0] at H
     by_cases c35 : x84_1 < (l2.length : Int)
     ·rw [if_pos c35] at H
      have c35b0 := decide_eq_true c35
      clear c35
      by_cases c36 : 0 ≤ x84_1
      ·rw [if_pos c36] at H
       have c36b0 := decide_eq_true c36
       clear c36
       by_cases c37 : x84_1 < (l2.length : Int)
       ·rw [if_pos c37] at H
        have c37b0 := decide_eq_true c37
        clear c37
        replace H := bind_eq_some_iff.mp H
        obtain ⟨⟨t430, t433⟩, A380, H⟩ := H
        replace H : ((medlarref23_Halves.f k1 a0 a1 ((rd_T24 l2 x84_1).f0) ((rd_T24 l2 x84_1).f1)).bind fun bt434 => ((medlarref08_Same.f k1 t430 bt434.1).bind fun t438 => (if t438 = true then (if t433 = bt434.2 then (medlarlaw23_TraceDoes.l0 k1 a0 a1 t408 t410 t411 t412 t413 t414 t415 t416 t417 t421 t426 l2 (l2.length : Int) (wrap64 (x84_1 + 1)) t418 t419 t420 t423 t424 t425) else (some false)) else (some false)))) = some r := H
        have A38 := ak_ A380
        clear A380
        replace H := bind_eq_some_iff.mp H
        obtain ⟨⟨t434, t437⟩, A390, H⟩ := H
        replace H : ((medlarref08_Same.f k1 t430 t434).bind fun t438 => (if t438 = true then (if t433 = t437 then (medlarlaw23_TraceDoes.l0 k1 a0 a1 t408 t410 t411 t412 t413 t414 t415 t416 t417 t421 t426 l2 (l2.length : Int) (wrap64 (x84_1 + 1)) t418 t419 t420 t423 t424 t425) else (some false)) else (some false))) = some r := H
        have A39 := ak_ A390
        clear A390
        replace H := bind_eq_some_iff.mp H
        obtain ⟨t438, A400, H⟩ := H
        replace H : (if t438 = true then (if t433 = t437 then (medlarlaw23_TraceDoes.l0 k1 a0 a1 t408 t410 t411 t412 t413 t414 t415 t416 t417 t421 t426 l2 (l2.length : Int) (wrap64 (x84_1 + 1)) t418 t419 t420 t423 t424 t425) else (some false)) else (some false)) = some r := H
        have A40 := ak_ A400
        clear A400
        by_cases c41 : t438 = true
        ·subst c41
         have H1 : (if t433 = t437 then (medlarlaw23_TraceDoes.l0 k1 a0 a1 t408 t410 t411 t412 t413 t414 t415 t416 t417 t421 t426 l2 (l2.length : Int) (wrap64 (x84_1 + 1)) t418 t419 t420 t423 t424 t425) else (some false)) = some r := by rw [if_pos rfl] at H; exact H
         clear H
         have H := H1
         clear H1
         by_cases c42 : t433 = t437
         ·rw [if_pos c42] at H
          have c42b0 : (t433 == t437) = true := beq_iff_eq.mpr c42
          have c42b1 : (t433 != t437) = false := bne_eq_false_iff_eq.mpr c42
          clear c42
          have H' := ak_ H
          clear H
          have p428 : 0 ≤ (x84_1 : Int) := od_ (by first | (with_reducible assumption) | assumption)
          have q428 : x84_1 < (l2.length : Int) := od_ (by first | (with_reducible assumption) | assumption)
          obtain ⟨ad428, e428, hx428_0, hx428_1⟩ := at_T24 HR2.out x84_1 p428 q428
          cases e428
          replace hx428_0 := (HB.out.cell (World.block_lt_of_cell? w _ hx428_0)).trans hx428_0
          replace hx428_1 := (HB.out.cell (World.block_lt_of_cell? w _ hx428_1)).trans hx428_1
          replace p428 := eq_true p428
          replace q428 := eq_true q428
          go_wp2_with (first | ((with_reducible refine gate_dst (N := 27) rfl ?_); refine box_event ?hg (N := 27) ?hd (cs := #[.int .u64 0, .int .u64 0]) (t := 24) ?hr ?_; (case hd => rfl); (case hg => rfl); (case hr => first | (go_simp; done) | (go_simp; rfl)); intro gb429 hg w43 hbox hb; have n0_ := ak_ (kb_ (g := gb407) (o := .cells #[.bool a3_0, .slice A3_1 l3_1.length c3_1, .slice A3_2 l3_2.length c3_2] 42 (0, 0)) (kl_ BK407) hb); have n1_ := ak_ (kb_ (g := gb422) (o := .cells #[.bool t418, .int .u64 t419, .int .i64 t420] 48 (0, 0)) (kl_ BK422) hb); have n2_ := ak_ (kb_ (g := gb427) (o := .cells #[.bool t423, .int .u64 t424, .int .i64 t425] 48 (0, 0)) (kl_ BK427) hb); have n3_ := ak_ (bt_ (by repeat (first | (with_reducible first | exact HB.out | apply ba_ | apply bn_ | apply bd_ | refine below_set ?_ GE407.out | refine below_set ?_ GE422.out | refine below_set ?_ GE427.out) | exact HB.out)) hb); have n4_ := ak_ (hbox); have n5_ := ak_ ((by rw [hg]; exact (bz_ (by repeat (first | (with_reducible first | exact HB.out | apply ba_ | apply bn_ | apply bd_ | refine below_set ?_ GE407.out | refine below_set ?_ GE422.out | refine below_set ?_ GE427.out) | exact HB.out))) : w.heap.size ≤ gb429)); have n6_ := ak_ ((by rw [hg]; exact (bz_ (by repeat (first | (with_reducible first | exact HB.out | apply ba_ | apply bn_ | apply bd_ | refine below_set ?_ GE407.out | refine below_set ?_ GE422.out | refine below_set ?_ GE427.out) | exact HB.out))) : w.heap.size ≤ gb429)); have n7_ := ak_ ((by rw [hg]; exact Nat.ne_of_lt (blk_lt (g := gb407) (o := .cells #[.bool a3_0, .slice A3_1 l3_1.length c3_1, .slice A3_2 l3_2.length c3_2] 42 (0, 0)) (kl_ BK407)) : gb407 ≠ gb429)); have n8_ := ak_ ((by rw [hg]; exact Nat.ne_of_gt (blk_lt (g := gb407) (o := .cells #[.bool a3_0, .slice A3_1 l3_1.length c3_1, .slice A3_2 l3_2.length c3_2] 42 (0, 0)) (kl_ BK407)) : gb429 ≠ gb407)); have n9_ := ak_ ((by rw [hg]; exact Nat.ne_of_lt (blk_lt (g := gb422) (o := .cells #[.bool t418, .int .u64 t419, .int .i64 t420] 48 (0, 0)) (kl_ BK422)) : gb422 ≠ gb429)); have n10_ := ak_ ((by rw [hg]; exact Nat.ne_of_gt (blk_lt (g := gb422) (o := .cells #[.bool t418, .int .u64 t419, .int .i64 t420] 48 (0, 0)) (kl_ BK422)) : gb429 ≠ gb422)); have n11_ := ak_ ((by rw [hg]; exact Nat.ne_of_lt (blk_lt (g := gb427) (o := .cells #[.bool t423, .int .u64 t424, .int .i64 t425] 48 (0, 0)) (kl_ BK427)) : gb427 ≠ gb429)); have n12_ := ak_ ((by rw [hg]; exact Nat.ne_of_gt (blk_lt (g := gb427) (o := .cells #[.bool t423, .int .u64 t424, .int .i64 t425] 48 (0, 0)) (kl_ BK427)) : gb429 ≠ gb427)); clear BK407; clear BK422; clear BK427; clear HB; have BK407 := n0_; have BK422 := n1_; have BK427 := n2_; have HB := n3_; have BK429 := n4_; have GW429 := n5_; have GE429 := n6_; have NB407_429 := n7_; have NB429_407 := n8_; have NB422_429 := n9_; have NB429_422 := n10_; have NB427_429 := n11_; have NB429_427 := n12_; clear n0_ n1_ n2_ n3_ n4_ n5_ n6_ n7_ n8_ n9_ n10_ n11_ n12_; clear hb hbox hg; have hnb44 := NB429_407.out; have hnc44 := NB407_429.out; have hnb45 := NB429_422.out; have hnc45 := NB422_429.out; have hnb46 := NB429_427.out; have hnc46 := NB427_429.out; have hcz47_0 : w43.cell? ⟨gb429, 0, none⟩ = some (.int .u64 0) := (kc_ BK429.out 0).trans rfl; have hcz47_1 : w43.cell? ⟨gb429, 1, none⟩ = some (.int .u64 0) := (kc_ BK429.out 1).trans rfl; have hfz47_0 := kf_ BK429.out 0; have hfz47_1 := kf_ BK429.out 1) | ((with_reducible refine gate_callee (f := 10) rfl ?_); refine goesL_ (some 92) rfl rfl func10 (by kernel_rfl) rfl #[.int .i64 a0, .int .i64 a1, .agg #[.int .u64 ((rd_T24 l2 x84_1).f0), .int .u64 ((rd_T24 l2 x84_1).f1)]] rfl (by (try simp only [map_toArray, map_cons, map_nil]); first | done | rfl) ?_; (with_reducible refine (trace_Halves.calls k1 a0 a1 ((rd_T24 l2 x84_1).f0) ((rd_T24 l2 x84_1).f1) t430 t433 _ A38.out).mono ?_); rintro e w48 ⟨v431, rfl, ho0, hb⟩; refine ⟨_, rfl, ?_⟩; have n0_ := ak_ (Kd.R_lower (Kd.R_newB ho0 (g := gb429) (o := .cells #[.int .u64 ((rd_T24 l2 x84_1).f0), .int .u64 ((rd_T24 l2 x84_1).f1)] 24 (0, 0)) (by (with_reducible repeat (first | refine kn_ ?_ _ | refine kd_ ?_ | refine ka_ ?_ _)); refine blk_put (cs := #[.int .u64 ((rd_T24 l2 x84_1).f0), .int .u64 0]) ?_ 1 _ rfl; (with_reducible repeat (first | refine kn_ ?_ _ | refine kd_ ?_ | refine ka_ ?_ _)); refine blk_put (cs := #[.int .u64 0, .int .u64 0]) ?_ 0 _ rfl; (with_reducible repeat (first | refine kn_ ?_ _ | refine kd_ ?_ | refine ka_ ?_ _)); exact BK429.out)) (bz_ (by repeat (first | (with_reducible first | exact HB.out | apply ba_ | apply bn_ | apply bd_ | refine below_set ?_ GE407.out | refine below_set ?_ GE422.out | refine below_set ?_ GE427.out | refine below_set ?_ GE429.out) | exact HB.out)))); have n1_ := ak_ (kb_ (g := gb407) (o := .cells #[.bool a3_0, .slice A3_1 l3_1.length c3_1, .slice A3_2 l3_2.length c3_2] 42 (0, 0)) (by (with_reducible repeat (first | refine kn_ ?_ _ | refine kd_ ?_ | refine ka_ ?_ _)); refine blk_far ?_ NB407_429.out _; (with_reducible repeat (first | refine kn_ ?_ _ | refine kd_ ?_ | refine ka_ ?_ _)); refine blk_far ?_ NB407_429.out _; (with_reducible repeat (first | refine kn_ ?_ _ | refine kd_ ?_ | refine ka_ ?_ _)); exact BK407.out) hb); have n2_ := ak_ (kb_ (g := gb422) (o := .cells #[.bool t418, .int .u64 t419, .int .i64 t420] 48 (0, 0)) (by (with_reducible repeat (first | refine kn_ ?_ _ | refine kd_ ?_ | refine ka_ ?_ _)); refine blk_far ?_ NB422_429.out _; (with_reducible repeat (first | refine kn_ ?_ _ | refine kd_ ?_ | refine ka_ ?_ _)); refine blk_far ?_ NB422_429.out _; (with_reducible repeat (first | refine kn_ ?_ _ | refine kd_ ?_ | refine ka_ ?_ _)); exact BK422.out) hb); have n3_ := ak_ (kb_ (g := gb427) (o := .cells #[.bool t423, .int .u64 t424, .int .i64 t425] 48 (0, 0)) (by (with_reducible repeat (first | refine kn_ ?_ _ | refine kd_ ?_ | refine ka_ ?_ _)); refine blk_far ?_ NB427_429.out _; (with_reducible repeat (first | refine kn_ ?_ _ | refine kd_ ?_ | refine ka_ ?_ _)); refine blk_far ?_ NB427_429.out _; (with_reducible repeat (first | refine kn_ ?_ _ | refine kd_ ?_ | refine ka_ ?_ _)); exact BK427.out) hb); have n4_ := ak_ (kb_ (g := gb429) (o := .cells #[.int .u64 ((rd_T24 l2 x84_1).f0), .int .u64 ((rd_T24 l2 x84_1).f1)] 24 (0, 0)) (by (with_reducible repeat (first | refine kn_ ?_ _ | refine kd_ ?_ | refine ka_ ?_ _)); refine blk_put (cs := #[.int .u64 ((rd_T24 l2 x84_1).f0), .int .u64 0]) ?_ 1 _ rfl; (with_reducible repeat (first | refine kn_ ?_ _ | refine kd_ ?_ | refine ka_ ?_ _)); refine blk_put (cs := #[.int .u64 0, .int .u64 0]) ?_ 0 _ rfl; (with_reducible repeat (first | refine kn_ ?_ _ | refine kd_ ?_ | refine ka_ ?_ _)); exact BK429.out) hb); have n5_ := ak_ (bt_ (by repeat (first | (with_reducible first | exact HB.out | apply ba_ | apply bn_ | apply bd_ | refine below_set ?_ GE407.out | refine below_set ?_ GE422.out | refine below_set ?_ GE427.out | refine below_set ?_ GE429.out) | exact HB.out)) hb); clear BK407; clear BK422; clear BK427; clear BK429; clear HB; have HO432 := n0_; have BK407 := n1_; have BK422 := n2_; have BK427 := n3_; have BK429 := n4_; have HB := n5_; clear n0_ n1_ n2_ n3_ n4_ n5_; (try clear hb); (try clear hk); (try clear ho0); have hcz49_0 : w48.cell? ⟨gb429, 0, none⟩ = some (.int .u64 ((rd_T24 l2 x84_1).f0)) := (kc_ BK429.out 0).trans rfl; have hcz49_1 : w48.cell? ⟨gb429, 1, none⟩ = some (.int .u64 ((rd_T24 l2 x84_1).f1)) := (kc_ BK429.out 1).trans rfl; have hfz49_0 := kf_ BK429.out 0; have hfz49_1 := kf_ BK429.out 1) | ((with_reducible refine gate_callee (f := 22) rfl ?_); refine goesL_ (some 99) rfl rfl func22 (by kernel_rfl) rfl #[.int .i64 a0, .int .i64 a1, .agg #[.int .u64 ((rd_T24 l2 x84_1).f0), .int .u64 ((rd_T24 l2 x84_1).f1)]] rfl (by (try simp only [map_toArray, map_cons, map_nil]); first | done | rfl) ?_; (with_reducible refine (medlarref23_Halves.calls k1 a0 a1 ((rd_T24 l2 x84_1).f0) ((rd_T24 l2 x84_1).f1) t434 t437 _ A39.out).mono ?_); rintro e w50 ⟨v435, rfl, ho0, hb⟩; refine ⟨_, rfl, ?_⟩; have n0_ := ak_ (Kd.R_elder' (rl_ HO432) (Kd.R_base ho0) hb); have n1_ := ak_ (Kd.R_lower (Kd.R_newB (Kd.R_new' ho0 (Kd.R_lt (rl_ HO432))) (g := gb429) (o := .cells #[.int .u64 ((rd_T24 l2 x84_1).f0), .int .u64 ((rd_T24 l2 x84_1).f1)] 24 (0, 0)) (kl_ BK429)) (bz_ (by repeat (first | (with_reducible first | exact HB.out | apply ba_ | apply bn_ | apply bd_ | refine below_set ?_ GE407.out | refine below_set ?_ GE422.out | refine below_set ?_ GE427.out | refine below_set ?_ GE429.out) | exact HB.out)))); have n2_ := ak_ (kb_ (g := gb407) (o := .cells #[.bool a3_0, .slice A3_1 l3_1.length c3_1, .slice A3_2 l3_2.length c3_2] 42 (0, 0)) (kl_ BK407) hb); have n3_ := ak_ (kb_ (g := gb422) (o := .cells #[.bool t418, .int .u64 t419, .int .i64 t420] 48 (0, 0)) (kl_ BK422) hb); have n4_ := ak_ (kb_ (g := gb427) (o := .cells #[.bool t423, .int .u64 t424, .int .i64 t425] 48 (0, 0)) (kl_ BK427) hb); have n5_ := ak_ (kb_ (g := gb429) (o := .cells #[.int .u64 ((rd_T24 l2 x84_1).f0), .int .u64 ((rd_T24 l2 x84_1).f1)] 24 (0, 0)) (kl_ BK429) hb); have n6_ := ak_ (bt_ (by repeat (first | (with_reducible first | exact HB.out | apply ba_ | apply bn_ | apply bd_ | refine below_set ?_ GE407.out | refine below_set ?_ GE422.out | refine below_set ?_ GE427.out | refine below_set ?_ GE429.out) | exact HB.out)) hb); clear HO432; clear BK407; clear BK422; clear BK427; clear BK429; clear HB; have HO432 := n0_; have HO436 := n1_; have BK407 := n2_; have BK422 := n3_; have BK427 := n4_; have BK429 := n5_; have HB := n6_; clear n0_ n1_ n2_ n3_ n4_ n5_ n6_; (try clear hb); (try clear hk); (try clear ho0); obtain ⟨Ao51, co51, eo51⟩ := Kd.R_slice HO432.out; subst eo51; obtain ⟨Ao52, co52, eo52⟩ := Kd.R_slice HO436.out; subst eo52) | ((with_reducible refine gate_callee (f := 23) rfl ?_); refine goesL_ (some 104) rfl rfl func23 (by kernel_rfl) rfl #[.slice Ao51 t430.length co51, .slice Ao52 t434.length co52] rfl (by (try simp only [map_toArray, map_cons, map_nil]); first | done | rfl) ?_; (with_reducible refine (medlarref08_Same.calls k1 _ _ t430 _ _ t434 true _ ?side1 ?side2 ?side3 ?side4 A40.out).mono ?_); (case side1 => repeat (first | exact (Kd.R_reads' HO432.out).2.2 | (with_reducible refine Kd.C_alloc ?_ _) | (with_reducible refine Kd.C_drewN ?_ _) | (with_reducible refine Kd.C_drew ?_))); (case side2 => exact (Kd.R_reads' HO432.out).2.1); (case side3 => repeat (first | exact (Kd.R_reads' HO436.out).2.2 | (with_reducible refine Kd.C_alloc ?_ _) | (with_reducible refine Kd.C_drewN ?_ _) | (with_reducible refine Kd.C_drew ?_))); (case side4 => exact (Kd.R_reads' HO436.out).2.1); rintro e w' ⟨rfl, ⟨nd, rfl⟩⟩; refine ⟨_, rfl, ?_⟩))
          go_roundg k1
          case measure => have := HK1.out; omega
          case rel => exact ⟨(wrap64 (x84_1 + 1)), (by first | rfl | (simp; done) | (simp [*]; done)), H', ⟨by have := HK1.out; omega⟩, ⟨kl_ BK407⟩, ⟨kl_ BK422⟩, ⟨kl_ BK427⟩, ⟨by repeat (first | (with_reducible first | exact HB.out | apply ba_ | apply bn_ | apply bd_ | refine below_set ?_ GE407.out | refine below_set ?_ GE422.out | refine below_set ?_ GE427.out | refine below_set ?_ GE429.out) | exact HB.out)⟩⟩
         ·rw [if_neg c42] at H
          have c42b0 : (t433 == t437) = false := beq_eq_false_iff_ne.mpr c42
          have c42b1 : (t433 != t437) = true := bne_iff_ne.mpr c42
          exact absurd ((Option.some.inj H).trans hT.out) Bool.false_ne_true
        ·replace c41 := Bool.eq_false_iff.mpr c41
         subst c41
         have H1 : (some false) = some r := by rw [if_neg (show ¬ (false = true) by decide)] at H; exact H
         clear H
         have H := H1
         clear H1
         exact absurd ((Option.some.inj H).trans hT.out) Bool.false_ne_true
       ·rw [if_neg c37] at H
        exact absurd H (by simp)
      ·rw [if_neg c36] at H
       exact absurd H (by simp)
     ·rw [if_neg c35] at H
      have c35b0 := decide_eq_false c35
      clear c35
      by_cases c53 : t408 = true
      ·subst c53
       have H1 : (if (t410 == t412) = true then (if t411 = t413 then (if t414 = t416 then (if t415 = t417 then (if (t418 == t423 && (t419 == t424 && (t420 == t425))) = true then (some (t421 == t426)) else (some false)) else (some false)) else (some false)) else (some false)) else (some false)) = some r := by rw [if_pos rfl] at H; exact H
       clear H
       have H := H1
       clear H1
       by_cases c54 : (t410 == t412) = true
       ·rw [if_pos c54] at H
        have c54b0 : (t410 == t412) = true := c54
        (try (have c54b1 : decide (t410 = t412) = true := by simpa using c54))
        (try (have c54b2 : (t410 == t412) = true := by simpa using c54))
        clear c54
        by_cases c55 : t411 = t413
        ·rw [if_pos c55] at H
         have c55b0 : (t411 == t413) = true := beq_iff_eq.mpr c55
         have c55b1 : (t411 != t413) = false := bne_eq_false_iff_eq.mpr c55
         clear c55
         by_cases c56 : t414 = t416
         ·rw [if_pos c56] at H
          have c56b0 : (t414 == t416) = true := beq_iff_eq.mpr c56
          have c56b1 : (t414 != t416) = false := bne_eq_false_iff_eq.mpr c56
          clear c56
          by_cases c57 : t415 = t417
          ·rw [if_pos c57] at H
           have c57b0 : (t415 == t417) = true := beq_iff_eq.mpr c57
           have c57b1 : (t415 != t417) = false := bne_eq_false_iff_eq.mpr c57
           clear c57
           by_cases c58 : (t418 == t423 && (t419 == t424 && (t420 == t425))) = true
           ·rw [if_pos c58] at H
            have c58b0 : (t418 == t423 && (t419 == t424 && (t420 == t425))) = true := c58
            (try (have c58b1 : decide (t418 = t423 && (t419 == t424 && (t420 == t425))) = true := by simpa using c58))
            (try (have c58b2 : (t418 == t423 && (t419 == t424 && (t420 == t425))) = true := by simpa using c58))
            clear c58
            obtain rfl := Option.some.inj H
            have hnb59 := NB422_407.out
            have hnc59 := NB407_422.out
            have hnb60 := NB422_427.out
            have hnc60 := NB427_422.out
            have hcz61_0 : wr.cell? ⟨gb422, 0, none⟩ = some (.bool t418) := (kc_ BK422.out 0).trans rfl
            have hcz61_1 : wr.cell? ⟨gb422, 1, none⟩ = some (.int .u64 t419) := (kc_ BK422.out 1).trans rfl
            have hcz61_2 : wr.cell? ⟨gb422, 2, none⟩ = some (.int .i64 t420) := (kc_ BK422.out 2).trans rfl
            have hfz61_0 := kf_ BK422.out 0
            have hfz61_1 := kf_ BK422.out 1
            have hfz61_2 := kf_ BK422.out 2
            have hnb62 := NB427_407.out
            have hnc62 := NB407_427.out
            have hcz63_0 : wr.cell? ⟨gb427, 0, none⟩ = some (.bool t423) := (kc_ BK427.out 0).trans rfl
            have hcz63_1 : wr.cell? ⟨gb427, 1, none⟩ = some (.int .u64 t424) := (kc_ BK427.out 1).trans rfl
            have hcz63_2 : wr.cell? ⟨gb427, 2, none⟩ = some (.int .i64 t425) := (kc_ BK427.out 2).trans rfl
            have hfz63_0 := kf_ BK427.out 0
            have hfz63_1 := kf_ BK427.out 1
            have hfz63_2 := kf_ BK427.out 2
            go_wp2
            go_ret
            exact ⟨by first | rfl | (simp <;> rfl) | (simp [*] <;> rfl), by repeat (first | (with_reducible first | exact HB.out | apply ba_ | apply bn_ | apply bd_ | refine below_set ?_ GE407.out | refine below_set ?_ GE422.out | refine below_set ?_ GE427.out) | exact HB.out)⟩
           ·rw [if_neg c58] at H
            have c58b0 : (t418 == t423 && (t419 == t424 && (t420 == t425))) = false := by simpa using c58
            (try (have c58b1 : decide (t418 = t423 && (t419 == t424 && (t420 == t425))) = false := by simpa using c58))
            (try (have c58b2 : (t418 == t423 && (t419 == t424 && (t420 == t425))) = false := by simpa using c58))
            (try (have c58b3 : ¬ (t418 = t423 && (t419 == t424 && (t420 == t425))) := by simpa using c58))
            clear c58
            exact absurd ((Option.some.inj H).trans hT.out) Bool.false_ne_true
          ·rw [if_neg c57] at H
           have c57b0 : (t415 == t417) = false := beq_eq_false_iff_ne.mpr c57
           have c57b1 : (t415 != t417) = true := bne_iff_ne.mpr c57
           exact absurd ((Option.some.inj H).trans hT.out) Bool.false_ne_true
         ·rw [if_neg c56] at H
          have c56b0 : (t414 == t416) = false := beq_eq_false_iff_ne.mpr c56
          have c56b1 : (t414 != t416) = true := bne_iff_ne.mpr c56
          exact absurd ((Option.some.inj H).trans hT.out) Bool.false_ne_true
        ·rw [if_neg c55] at H
         have c55b0 : (t411 == t413) = false := beq_eq_false_iff_ne.mpr c55
         have c55b1 : (t411 != t413) = true := bne_iff_ne.mpr c55
         exact absurd ((Option.some.inj H).trans hT.out) Bool.false_ne_true
       ·rw [if_neg c54] at H
        have c54b0 : (t410 == t412) = false := by simpa using c54
        (try (have c54b1 : decide (t410 = t412) = false := by simpa using c54))
        (try (have c54b2 : (t410 == t412) = false := by simpa using c54))
        (try (have c54b3 : ¬ (t410 = t412) := by simpa using c54))
        clear c54
        exact absurd ((Option.some.inj H).trans hT.out) Bool.false_ne_true
      ·replace c53 := Bool.eq_false_iff.mpr c53
       subst c53
       have H1 : (some false) = some r := by rw [if_neg (show ¬ (false = true) by decide)] at H; exact H
       clear H
       have H := H1
       clear H1
       exact absurd ((Option.some.inj H).trans hT.out) Bool.false_ne_true
  ·replace c9 := Bool.eq_false_iff.mpr c9
   subst c9
   have H1 : (some t408) = some r := by rw [if_neg (show ¬ (false = true) by decide)] at H; exact H
   clear H
   have H := H1
   clear H1
   obtain rfl := Option.some.inj H
   go_enter func4, ntmps4
   go_wp2_with (first | ((with_reducible refine gate_dst (N := 9) rfl ?_); refine box_event ?hg (N := 9) ?hd (cs := #[.bool a3_0, .slice A3_1 l3_1.length c3_1, .slice A3_2 l3_2.length c3_2]) (t := 42) ?hr ?_; (case hd => rfl); (case hg => rfl); (case hr => first | (go_simp; done) | (go_simp; rfl)); intro gb407 hg w64 hbox hb; have n0_ := ak_ (bt_ (bl_ HB) hb); have n1_ := ak_ (hbox); have n2_ := ak_ ((gs_ hg HB)); have n3_ := ak_ ((gs_ hg HB)); clear HB; have HB := n0_; have BK407 := n1_; have GW407 := n2_; have GE407 := n3_; clear n0_ n1_ n2_ n3_; clear hb hbox hg) | ((with_reducible refine gate_callee (f := 9) rfl ?_); refine goesL_ (some 32) rfl rfl func9 (by kernel_rfl) rfl #[] rfl (by (try simp only [map_toArray, map_cons, map_nil]); first | done | rfl) ?_; (with_reducible refine (medlarlaw23_live.calls k  t408 _ A7.out).mono ?_); rintro e w65 ⟨rfl, hb⟩; refine ⟨_, rfl, ?_⟩; have n0_ := ak_ (kb_ (g := gb407) (o := .cells #[.bool a3_0, .slice A3_1 l3_1.length c3_1, .slice A3_2 l3_2.length c3_2] 42 (0, 0)) (kl_ BK407) hb); have n1_ := ak_ (bt_ (by repeat (first | (with_reducible first | exact HB.out | apply ba_ | apply bn_ | apply bd_ | refine below_set ?_ GE407.out) | exact HB.out)) hb); clear BK407; clear HB; have BK407 := n0_; have HB := n1_; clear n0_ n1_; (try clear hb); (try clear hk); have hcz66_0 : w65.cell? ⟨gb407, 0, none⟩ = some (.bool a3_0) := (kc_ BK407.out 0).trans rfl; have hcz66_1 : w65.cell? ⟨gb407, 1, none⟩ = some (.slice A3_1 l3_1.length c3_1) := (kc_ BK407.out 1).trans rfl; have hcz66_2 : w65.cell? ⟨gb407, 2, none⟩ = some (.slice A3_2 l3_2.length c3_2) := (kc_ BK407.out 2).trans rfl; have hfz66_0 := kf_ BK407.out 0; have hfz66_1 := kf_ BK407.out 1; have hfz66_2 := kf_ BK407.out 2) | ((with_reducible refine gate_callee (f := 15) rfl ?_); refine goesL_ (some 35) rfl rfl func15 (by kernel_rfl) rfl #[.agg #[.bool a3_0, .slice A3_1 l3_1.length c3_1, .slice A3_2 l3_2.length c3_2], .slice A2 l2.length c2] rfl (by (try simp only [map_toArray, map_cons, map_nil]); first | done | rfl) ?_; (with_reducible refine (medlarlaw23_few.calls a3_0 _ _ l3_1 _ _ l3_2 _ _ l2 false _ ?side1 ?side2 ?side3 ?side4 ?side5 ?side6 A8.out).mono ?_); (case side1 => repeat (first | exact (Kd.C_below HR3_1.out HB.out) | (with_reducible refine Kd.C_alloc ?_ _) | (with_reducible refine Kd.C_drewN ?_ _) | (with_reducible refine Kd.C_drew ?_))); (case side2 => exact HC3_1.out); (case side3 => repeat (first | exact (Kd.C_below HR3_2.out HB.out) | (with_reducible refine Kd.C_alloc ?_ _) | (with_reducible refine Kd.C_drewN ?_ _) | (with_reducible refine Kd.C_drew ?_))); (case side4 => exact HC3_2.out); (case side5 => repeat (first | exact (Kd.C_below HR2.out HB.out) | (with_reducible refine Kd.C_alloc ?_ _) | (with_reducible refine Kd.C_drewN ?_ _) | (with_reducible refine Kd.C_drew ?_))); (case side6 => exact HC2.out); rintro e w67 ⟨rfl, hb⟩; refine ⟨_, rfl, ?_⟩; have n0_ := ak_ (kb_ (g := gb407) (o := .cells #[.bool a3_0, .slice A3_1 l3_1.length c3_1, .slice A3_2 l3_2.length c3_2] 42 (0, 0)) (kl_ BK407) hb); have n1_ := ak_ (bt_ (by repeat (first | (with_reducible first | exact HB.out | apply ba_ | apply bn_ | apply bd_ | refine below_set ?_ GE407.out) | exact HB.out)) hb); clear BK407; clear HB; have BK407 := n0_; have HB := n1_; clear n0_ n1_; (try clear hb); (try clear hk)))
   go_ret
   exact ⟨by first | rfl | (simp <;> rfl) | (simp [*] <;> rfl), by repeat (first | (with_reducible first | exact HB.out | apply ba_ | apply bn_ | apply bd_ | refine below_set ?_ GE407.out) | exact HB.out)⟩
end Go.Proofs.Ytnbiddloiiljjaa.MP
