-- written by a program of this session (wip/tools/mprint.sh) for this seat
import Derived.Test.YtnbiddloiiljjaaMPx0
import Derived.Test.YtnbiddloiiljjaaMPx1
import Derived.Test.YtnbiddloiiljjaaMPx4
import Derived.Test.YtnbiddloiiljjaaMPx5
import Derived.Test.YtnbiddloiiljjaaMPx6
namespace Go.Proofs.Ytnbiddloiiljjaa.MP
open Go.RowKit Go.Proofs.YtnbiddloiiljjaaW.PrintWords Go.Proofs.YtnbiddloiiljjaaW.PrintLast Go.Proofs.YtnbiddloiiljjaaW.PrintMore
open Option (bind_eq_some_iff some.injEq)
open _root_.Go.Proofs.Try
open List (setIfInBounds_toArray set_cons_zero set_cons_succ map_toArray map_cons map_nil length_drop length_take)
attribute [local go_sem] max2_int min2_int max_two min_two max_three min_three max_four min_four
set_option linter.unusedVariables false
set_option linter.unusedSimpArgs false
attribute [local go_sem high] eqA24
def bA7 (k n : Nat) : Array Bool := (Array.range n).map fun i => decide (i < k)
mutual
def medlarref23_Trace.j0 : Nat → Int → Int → List (S24) → Bool → Bool → List Int → List Bool → Option (Bool × Int × Int × Int)
  | 0, _, _, _, _, _, _, _ => none
  | k + 1, x0, x1, x2, x43, x374000, x374001, x374002 => if x43 = true then (some (false, 0, 0, 1)) else (medlarref23_Trace.l0 k x0 x1 x2 x2 (x2.length : Int) 0 x374000 x374001 x374002)
def medlarref23_Trace.l0 : Nat → Int → Int → List (S24) → List (S24) → Int → Int → Bool → List Int → List Bool → Option (Bool × Int × Int × Int)
  | 0, _, _, _, _, _, _, _, _, _ => none
  | k + 1, x0, x1, x2, x45, x46, x47, x374000, x374001, x374002 => if x47 < x46 then (if 0 ≤ x47 then (if x47 < (x45.length : Int) then ((medlarref23_may.f k x0 x1 ((rd_T24 x45 x47).f0) ((rd_T24 x45 x47).f1)).bind fun t378 => (if t378 = true then (medlarref23_Trace.l0 k x0 x1 x2 x45 x46 (wrap64 (x47 + 1)) x374000 x374001 x374002) else (some (false, 0, 0, 1)))) else (none)) else (none)) else ((medlarref23_Ask.f k x0 x374000 x374001 x374002 0 x2).bind fun bt379 => (if bt379.1 = true then ((medlarref23_Ask.f k x0 x374000 x374001 x374002 1 ([] : List (S24))).bind fun bt381 => (if bt381.1 = true then (some (false, 0, 2, 0)) else (medlarref23_Trace.l1 k x0 x1 x2 2 0 (x2.length : Int) x374000 x374001 x374002))) else (some (false, 0, 1, 0))))
def medlarref23_Trace.l1 : Nat → Int → Int → List (S24) → Int → Int → Int → Bool → List Int → List Bool → Option (Bool × Int × Int × Int)
  | 0, _, _, _, _, _, _, _, _, _ => none
  | k + 1, x0, x1, x2, x16, x17, x18, x374000, x374001, x374002 => if (wrap64 (x18 - x17)) > 1 then (if 0 ≤ (wrap64 (Int.tdiv (wrap64 (x17 + x18)) 2)) then (if (wrap64 (Int.tdiv (wrap64 (x17 + x18)) 2)) ≤ (x2.length : Int) then ((medlarref23_Ask.f k x0 x374000 x374001 x374002 x16 (x2.drop ((wrap64 (Int.tdiv (wrap64 (x17 + x18)) 2)) : Int).toNat)).bind fun bt387 => (if bt387.1 = true then (medlarref23_Trace.l1 k x0 x1 x2 (wrap64 (x16 + 1)) (wrap64 (Int.tdiv (wrap64 (x17 + x18)) 2)) x18 x374000 x374001 x374002) else (medlarref23_Trace.l1 k x0 x1 x2 (wrap64 (x16 + 1)) x17 (wrap64 (Int.tdiv (wrap64 (x17 + x18)) 2)) x374000 x374001 x374002))) else (none)) else (none)) else (if 0 ≤ x17 then (if x17 < (x2.length : Int) then (medlarref23_Trace.l2 k x0 x1 x16 x374000 x374001 x374002 ((rd_T24 x2 x17).f0) ((rd_T24 x2 x17).f1)) else (none)) else (none))
def medlarref23_Trace.l2 : Nat → Int → Int → Int → Bool → List Int → List Bool → Int → Int → Option (Bool × Int × Int × Int)
  | 0, _, _, _, _, _, _, _, _ => none
  | k + 1, x0, x1, x16, x374000, x374001, x374002, x391000, x391001 => (medlarref23_Halves.f k x0 x1 x391000 x391001).bind fun bt391 => (if bt391.2 = 0 then (if 1 ≤ (bt391.1.length : Int) then ((medlarref23_Ask.f k x0 x374000 x374001 x374002 x16 (bt391.1.take 1)).bind fun bt399 => (if 1 < (bt391.1.length : Int) then (if bt399.1 = true then (if 0 < (bt391.1.length : Int) then (medlarref23_Trace.l2 k x0 x1 (wrap64 (x16 + 1)) x374000 x374001 x374002 ((rd_T24 bt391.1 0).f0) ((rd_T24 bt391.1 0).f1)) else (none)) else (medlarref23_Trace.l2 k x0 x1 (wrap64 (x16 + 1)) x374000 x374001 x374002 ((rd_T24 bt391.1 1).f0) ((rd_T24 bt391.1 1).f1))) else (none))) else (none)) else ((medlarref23_only.f k x0 x391000 x391001).bind fun bt403 => (some (true, bt403.1, x16, 0))))
end
def medlarref23_Trace.f (k : Nat) (a0 : Int) (a1 : Int) (l2 : List (S24)) (a3_0 : Bool) (l3_1 : List Int) (l3_2 : List Bool) : Option (Bool × Int × Int × Int) := (medlarref02_Check.f k a0 l3_1).bind fun t375 => (if t375 = 0 then (if (l2.length : Int) < 1 then (medlarref23_Trace.j0 k a0 a1 l2 true a3_0 l3_1 l3_2) else (medlarref23_Trace.j0 k a0 a1 l2 (decide ((l2.length : Int) > 32768)) a3_0 l3_1 l3_2)) else (medlarref23_Trace.j0 k a0 a1 l2 true a3_0 l3_1 l3_2))
def medlarref23_Trace.T20 : Bool × List (List Nat × List Nat) := (true, [([], []), ([], []), ([], []), ([], []), ([], []), ([3, 4], [3, 4]), ([0, 1, 2, 5], [0, 1, 2, 5]), ([6], [6]), ([7], [7]), ([7], [7]), ([8, 6, 0, 1, 2, 3, 4, 5, 6, 7, 8], [8]), ([9, 10, 0, 1, 2, 3, 4, 5, 6, 7, 8, 9, 10], [9])])
def medlarref23_Trace.B20 : List Nat := [0, 0, 0, 0, 0, 24, 63, 127, 255, 255, 511, 2047]
theorem medlarref23_Trace.tab20 : rtab .any (opsOf Try.f21 20) = medlarref23_Trace.T20 := by kernel_rfl
theorem medlarref23_Trace.bits20 : waitsOk medlarref23_Trace.T20.2 medlarref23_Trace.B20 = true := by kernel_rfl
def medlarref23_Trace.T28 : Bool × List (List Nat × List Nat) := (true, [([], []), ([], []), ([], []), ([], []), ([3], [3]), ([0, 1, 2, 4], [0, 1, 2, 4]), ([5], [5]), ([6], [6]), ([6], [6]), ([7, 5, 0, 1, 2, 3, 4, 5, 6, 7], [7]), ([8, 9, 0, 1, 2, 3, 4, 5, 6, 7, 8, 9], [8])])
def medlarref23_Trace.B28 : List Nat := [0, 0, 0, 0, 8, 31, 63, 127, 127, 255, 1023]
theorem medlarref23_Trace.tab28 : rtab .any (opsOf Try.f21 28) = medlarref23_Trace.T28 := by kernel_rfl
theorem medlarref23_Trace.bits28 : waitsOk medlarref23_Trace.T28.2 medlarref23_Trace.B28 = true := by kernel_rfl
set_option maxHeartbeats 8000000 in
set_option maxRecDepth 100000 in
theorem medlarref23_Trace.calls (k : Nat) (a0 : Int) (a1 : Int) (A2 : Option Addr) (c2 : Nat) (l2 : List (S24)) (a3_0 : Bool) (A3_1 : Option Addr) (c3_1 : Nat) (l3_1 : List Int) (A3_2 : Option Addr) (c3_2 : Nat) (l3_2 : List Bool) (r1 : Bool) (r2 : Int) (r3 : Int) (r4 : Int) (w : World) (hr2 : Kd.C k24 w A2 l2.length l2) (hc2 : l2.length ≤ c2) (hr3_1 : Kd.C (Kd.int .u64) w A3_1 l3_1.length l3_1) (hc3_1 : l3_1.length ≤ c3_1) (hr3_2 : Kd.C Kd.bool w A3_2 l3_2.length l3_2) (hc3_2 : l3_2.length ≤ c3_2) (h : medlarref23_Trace.f k a0 a1 l2 a3_0 l3_1 l3_2 = some (r1, r2, r3, r4)) :
   Calls Try.prog 21 #[.int .i64 a0, .int .i64 a1, .slice A2 l2.length c2, .agg #[.bool a3_0, .slice A3_1 l3_1.length c3_1, .slice A3_2 l3_2.length c3_2]] w fun e w' => e = .returned (.tuple #[.agg #[.bool r1, .int .u64 r2, .int .i64 r3], .int .i64 r4]) ∧ Below w.heap.size w w' := by
  have hu42 := underlying42
  have hu48 := underlying48
  have hu24 := underlying24
  have HR2 := ak_ hr2
  have HC2 := ak_ hc2
  clear hr2 hc2
  have HR3_1 := ak_ hr3_1
  have HC3_1 := ak_ hc3_1
  clear hr3_1 hc3_1
  have HR3_2 := ak_ hr3_2
  have HC3_2 := ak_ hc3_2
  clear hr3_2 hc3_2
  have HB := ak_ (Below.refl w.heap.size w)
  have H : ((medlarref02_Check.f k a0 l3_1).bind fun t375 => (if t375 = 0 then (if (l2.length : Int) < 1 then (medlarref23_Trace.j0 k a0 a1 l2 true a3_0 l3_1 l3_2) else (medlarref23_Trace.j0 k a0 a1 l2 (decide ((l2.length : Int) > 32768)) a3_0 l3_1 l3_2)) else (medlarref23_Trace.j0 k a0 a1 l2 true a3_0 l3_1 l3_2))) = some (r1, r2, r3, r4) := h
  clear h
  have HC5 := ak_ H
  clear H
  go_enter func21, ntmps21
  go_upto_region 1 with (first | ((with_reducible refine gate_dst (N := 7) rfl ?_); (try (refine gate_guard (by rfl) ?_; dsimp only)); refine box_event ?hg (N := 7) ?hd (cs := #[.bool a3_0, .slice A3_1 l3_1.length c3_1, .slice A3_2 l3_2.length c3_2]) (t := 42) ?hr ?_; (case hd => rfl); (case hg => rfl); (case hr => first | (go_simp; done) | (go_simp; rfl)); intro gb373 hg w6 hbox hb; have n0_ := ak_ (bt_ (bl_ HB) hb); have n1_ := ak_ (hbox); have n2_ := ak_ ((gs_ hg HB)); have n3_ := ak_ ((gs_ hg HB)); clear HB; have HB := n0_; have BK373 := n1_; have GW373 := n2_; have GE373 := n3_; clear n0_ n1_ n2_ n3_; clear hb hbox hg) | ((with_reducible refine gate_dst (N := 8) rfl ?_); (try (refine gate_guard (by rfl) ?_; dsimp only)); refine box_event ?hg (N := 8) ?hd (cs := #[.bool false, .int .u64 0, .int .i64 0]) (t := 48) ?hr ?_; (case hd => rfl); (case hg => rfl); (case hr => first | (go_simp; done) | (go_simp; rfl)); intro gb374 hg w7 hbox hb; have n0_ := ak_ (kb_ (g := gb373) (o := .cells #[.bool a3_0, .slice A3_1 l3_1.length c3_1, .slice A3_2 l3_2.length c3_2] 42 (0, 0)) (kl_ BK373) hb); have n1_ := ak_ (bt_ (by repeat (first | (with_reducible first | exact HB.out | apply ba_ | apply bn_ | apply bd_ | refine below_set ?_ GE373.out) | exact HB.out)) hb); have n2_ := ak_ (hbox); have n3_ := ak_ ((by rw [hg]; exact (bz_ (by repeat (first | (with_reducible first | exact HB.out | apply ba_ | apply bn_ | apply bd_ | refine below_set ?_ GE373.out) | exact HB.out))) : w.heap.size ≤ gb374)); have n4_ := ak_ ((by rw [hg]; exact (bz_ (by repeat (first | (with_reducible first | exact HB.out | apply ba_ | apply bn_ | apply bd_ | refine below_set ?_ GE373.out) | exact HB.out))) : w.heap.size ≤ gb374)); have n5_ := ak_ ((by rw [hg]; exact Nat.ne_of_lt (blk_lt (g := gb373) (o := .cells #[.bool a3_0, .slice A3_1 l3_1.length c3_1, .slice A3_2 l3_2.length c3_2] 42 (0, 0)) (kl_ BK373)) : gb373 ≠ gb374)); have n6_ := ak_ ((by rw [hg]; exact Nat.ne_of_gt (blk_lt (g := gb373) (o := .cells #[.bool a3_0, .slice A3_1 l3_1.length c3_1, .slice A3_2 l3_2.length c3_2] 42 (0, 0)) (kl_ BK373)) : gb374 ≠ gb373)); clear BK373; clear HB; have BK373 := n0_; have HB := n1_; have BK374 := n2_; have GW374 := n3_; have GE374 := n4_; have NB373_374 := n5_; have NB374_373 := n6_; clear n0_ n1_ n2_ n3_ n4_ n5_ n6_; clear hb hbox hg))
  (try simp only [Act.put, setIfInBounds_toArray, set_cons_zero, set_cons_succ])
  go_cut [43] (fun v43 wc => ∃ (kq : Nat) (x43_4 : Bool), v43 = .bool x43_4 ∧ Aside0 (medlarref23_Trace.j0 kq a0 a1 l2 x43_4 a3_0 l3_1 l3_2 = some (r1, r2, r3, r4)) ∧ Aside0 (kq ≤ k) ∧ Aside0 (wc.heap[gb373]? = some (.cells #[.bool a3_0, (.slice A3_1 l3_1.length c3_1), (.slice A3_2 l3_2.length c3_2)] 42 (0, 0))) ∧ Aside0 (wc.heap[gb374]? = some (.cells #[.bool false, .int .u64 0, .int .i64 0] 48 (0, 0))) ∧ Aside0 (Below w.heap.size w wc))
  case first =>
   have H := HC5.out
   clear HC5
   replace H := bind_eq_some_iff.mp H
   obtain ⟨t375, A80, H⟩ := H
   replace H : (if t375 = 0 then (if (l2.length : Int) < 1 then (medlarref23_Trace.j0 k a0 a1 l2 true a3_0 l3_1 l3_2) else (medlarref23_Trace.j0 k a0 a1 l2 (decide ((l2.length : Int) > 32768)) a3_0 l3_1 l3_2)) else (medlarref23_Trace.j0 k a0 a1 l2 true a3_0 l3_1 l3_2)) = some (r1, r2, r3, r4) := H
   have A8 := ak_ A80
   clear A80
   by_cases c9 : t375 = 0
   ·rw [if_pos c9] at H
    have c9b0 : (t375 == 0) = true := beq_iff_eq.mpr c9
    have c9b1 : (t375 != 0) = false := bne_eq_false_iff_eq.mpr c9
    clear c9
    (first | rw [c9b0] | (simp only [i64_w, i32_w]; rw [c9b0]) | skip)
    by_cases c10 : (l2.length : Int) < 1
    ·rw [if_pos c10] at H
     have c10b0 := decide_eq_true c10
     have c10b1 : decide (l2.length < 1) = true := decide_eq_true (by omega)
     clear c10
     have H' := ak_ H
     clear H
     have hnb11 := NB373_374.out
     have hnc11 := NB374_373.out
     have hcz12_0 : w7.cell? ⟨gb373, 0, none⟩ = some (.bool a3_0) := (kc_ BK373.out 0).trans rfl
     have hcz12_1 : w7.cell? ⟨gb373, 1, none⟩ = some (.slice A3_1 l3_1.length c3_1) := (kc_ BK373.out 1).trans rfl
     have hcz12_2 : w7.cell? ⟨gb373, 2, none⟩ = some (.slice A3_2 l3_2.length c3_2) := (kc_ BK373.out 2).trans rfl
     have hfz12_0 := kf_ BK373.out 0
     have hfz12_1 := kf_ BK373.out 1
     have hfz12_2 := kf_ BK373.out 2
     go_wp2_with (first | ((with_reducible refine gate_callee (f := 42) rfl ?_); refine goesL_ (some 32) rfl rfl func42 (by kernel_rfl) rfl #[.int .i64 a0, .slice A3_1 l3_1.length c3_1] rfl (by (try simp only [map_toArray, map_cons, map_nil]); first | done | rfl) ?_; (with_reducible refine (medlarref02_Check.calls k a0 _ _ l3_1 t375 _ ?side1 ?side2 A8.out).mono ?_); (case side1 => repeat (first | exact (Kd.C_below HR3_1.out HB.out) | (with_reducible refine Kd.C_alloc ?_ _) | (with_reducible refine Kd.C_drewN ?_ _) | (with_reducible refine Kd.C_drew ?_))); (case side2 => exact HC3_1.out); rintro e w' ⟨rfl, ⟨nd, rfl⟩⟩; refine ⟨_, rfl, ?_⟩))
     go_meet
     case rel => exact ⟨_, (true), (by first | rfl | (simp; done) | (simp [*]; done)), H', ⟨by first | omega | exact Nat.le_refl _⟩, ⟨kl_ BK373⟩, ⟨kl_ BK374⟩, ⟨by repeat (first | (with_reducible first | exact HB.out | apply ba_ | apply bn_ | apply bd_ | refine below_set ?_ GE373.out | refine below_set ?_ GE374.out) | exact HB.out)⟩⟩
    ·rw [if_neg c10] at H
     have c10b0 := decide_eq_false c10
     have c10b1 : decide (l2.length < 1) = false := decide_eq_false (by omega)
     clear c10
     have H' := ak_ H
     clear H
     have hnb13 := NB373_374.out
     have hnc13 := NB374_373.out
     have hcz14_0 : w7.cell? ⟨gb373, 0, none⟩ = some (.bool a3_0) := (kc_ BK373.out 0).trans rfl
     have hcz14_1 : w7.cell? ⟨gb373, 1, none⟩ = some (.slice A3_1 l3_1.length c3_1) := (kc_ BK373.out 1).trans rfl
     have hcz14_2 : w7.cell? ⟨gb373, 2, none⟩ = some (.slice A3_2 l3_2.length c3_2) := (kc_ BK373.out 2).trans rfl
     have hfz14_0 := kf_ BK373.out 0
     have hfz14_1 := kf_ BK373.out 1
     have hfz14_2 := kf_ BK373.out 2
     go_wp2_with (first | ((with_reducible refine gate_callee (f := 42) rfl ?_); refine goesL_ (some 32) rfl rfl func42 (by kernel_rfl) rfl #[.int .i64 a0, .slice A3_1 l3_1.length c3_1] rfl (by (try simp only [map_toArray, map_cons, map_nil]); first | done | rfl) ?_; (with_reducible refine (medlarref02_Check.calls k a0 _ _ l3_1 t375 _ ?side1 ?side2 A8.out).mono ?_); (case side1 => repeat (first | exact (Kd.C_below HR3_1.out HB.out) | (with_reducible refine Kd.C_alloc ?_ _) | (with_reducible refine Kd.C_drewN ?_ _) | (with_reducible refine Kd.C_drew ?_))); (case side2 => exact HC3_1.out); rintro e w' ⟨rfl, ⟨nd, rfl⟩⟩; refine ⟨_, rfl, ?_⟩))
     go_meet
     case rel => exact ⟨_, (decide ((l2.length : Int) > 32768)), (by first | rfl | (simp; done) | (simp [*]; done)), H', ⟨by first | omega | exact Nat.le_refl _⟩, ⟨kl_ BK373⟩, ⟨kl_ BK374⟩, ⟨by repeat (first | (with_reducible first | exact HB.out | apply ba_ | apply bn_ | apply bd_ | refine below_set ?_ GE373.out | refine below_set ?_ GE374.out) | exact HB.out)⟩⟩
   ·rw [if_neg c9] at H
    have c9b0 : (t375 == 0) = false := beq_eq_false_iff_ne.mpr c9
    have c9b1 : (t375 != 0) = true := bne_iff_ne.mpr c9
    (first | rw [c9b0] | (simp only [i64_w, i32_w]; rw [c9b0]) | skip)
    have H' := ak_ H
    clear H
    have hnb15 := NB373_374.out
    have hnc15 := NB374_373.out
    have hcz16_0 : w7.cell? ⟨gb373, 0, none⟩ = some (.bool a3_0) := (kc_ BK373.out 0).trans rfl
    have hcz16_1 : w7.cell? ⟨gb373, 1, none⟩ = some (.slice A3_1 l3_1.length c3_1) := (kc_ BK373.out 1).trans rfl
    have hcz16_2 : w7.cell? ⟨gb373, 2, none⟩ = some (.slice A3_2 l3_2.length c3_2) := (kc_ BK373.out 2).trans rfl
    have hfz16_0 := kf_ BK373.out 0
    have hfz16_1 := kf_ BK373.out 1
    have hfz16_2 := kf_ BK373.out 2
    go_wp2_with (first | ((with_reducible refine gate_callee (f := 42) rfl ?_); refine goesL_ (some 32) rfl rfl func42 (by kernel_rfl) rfl #[.int .i64 a0, .slice A3_1 l3_1.length c3_1] rfl (by (try simp only [map_toArray, map_cons, map_nil]); first | done | rfl) ?_; (with_reducible refine (medlarref02_Check.calls k a0 _ _ l3_1 t375 _ ?side1 ?side2 A8.out).mono ?_); (case side1 => repeat (first | exact (Kd.C_below HR3_1.out HB.out) | (with_reducible refine Kd.C_alloc ?_ _) | (with_reducible refine Kd.C_drewN ?_ _) | (with_reducible refine Kd.C_drew ?_))); (case side2 => exact HC3_1.out); rintro e w' ⟨rfl, ⟨nd, rfl⟩⟩; refine ⟨_, rfl, ?_⟩))
    go_meet
    case rel => exact ⟨_, (true), (by first | rfl | (simp; done) | (simp [*]; done)), H', ⟨by first | omega | exact Nat.le_refl _⟩, ⟨kl_ BK373⟩, ⟨kl_ BK374⟩, ⟨by repeat (first | (with_reducible first | exact HB.out | apply ba_ | apply bn_ | apply bd_ | refine below_set ?_ GE373.out | refine below_set ?_ GE374.out) | exact HB.out)⟩⟩
  case rest =>
   clear HC5
   try clear c1
   try clear c2
   try clear p2
   try clear c3
   try clear c4
   try clear c9
   try clear c9b0
   try clear c9b1
   try clear c10
   try clear c10b0
   try clear c10b1
   try clear c11
   try clear c13
   try clear c15
   try clear hcz12_0
   try clear hcz12_1
   try clear hcz12_2
   try clear hcz14_0
   try clear hcz14_1
   try clear hcz14_2
   try clear hcz16_0
   try clear hcz16_1
   try clear hcz16_2
   try clear hfz12_0
   try clear hfz12_1
   try clear hfz12_2
   try clear hfz14_0
   try clear hfz14_1
   try clear hfz14_2
   try clear hfz16_0
   try clear hfz16_1
   try clear hfz16_2
   obtain ⟨kq, x43_4, rfl, HA, HJ4, BK373, BK374, HB⟩ := hcut
   cases kq with
   | zero => exact absurd HA.out (by simp [medlarref23_Trace.j0])
   | succ kj4 =>
    have H := HA.out
    clear HA
    simp only [medlarref23_Trace.j0] at H
    by_cases c17 : x43_4 = true
    ·subst c17
     have H1 : (some (false, 0, 0, 1)) = some (r1, r2, r3, r4) := by rw [if_pos rfl] at H; exact H
     clear H
     have H := H1
     clear H1
     simp only [some.injEq, Prod.mk.injEq] at H
     obtain ⟨rfl, rfl, rfl, rfl⟩ := H
     have hnb18 := NB374_373.out
     have hnc18 := NB373_374.out
     have hcz19_0 : wc.cell? ⟨gb374, 0, none⟩ = some (.bool false) := (kc_ BK374.out 0).trans rfl
     have hcz19_1 : wc.cell? ⟨gb374, 1, none⟩ = some (.int .u64 0) := (kc_ BK374.out 1).trans rfl
     have hcz19_2 : wc.cell? ⟨gb374, 2, none⟩ = some (.int .i64 0) := (kc_ BK374.out 2).trans rfl
     have hfz19_0 := kf_ BK374.out 0
     have hfz19_1 := kf_ BK374.out 1
     have hfz19_2 := kf_ BK374.out 2
     go_wp2
     refine bodyPost_ret (results_ct rfl _ _ gb374 48 #[.bool false, .int .u64 0, .int .i64 0] (0, 0) _ rfl (by (with_reducible repeat (first | refine kn_ ?_ _ | refine kd_ ?_ | refine ka_ ?_ _)); refine blk_put (cs := #[.bool false, .int .u64 0, .int .i64 0]) ?_ 2 _ rfl; (with_reducible repeat (first | refine kn_ ?_ _ | refine kd_ ?_ | refine ka_ ?_ _)); refine blk_put (cs := #[.bool false, .int .u64 0, .int .i64 0]) ?_ 1 _ rfl; (with_reducible repeat (first | refine kn_ ?_ _ | refine kd_ ?_ | refine ka_ ?_ _)); refine blk_put (cs := #[.bool false, .int .u64 0, .int .i64 0]) ?_ 0 _ rfl; (with_reducible repeat (first | refine kn_ ?_ _ | refine kd_ ?_ | refine ka_ ?_ _)); exact BK374.out) underlying48 rfl (by kernel_rfl)) rfl ?_
     exact ⟨by first | rfl | (simp <;> rfl) | (simp [*] <;> rfl), by repeat (first | (with_reducible first | exact HB.out | apply ba_ | apply bn_ | apply bd_ | refine below_set ?_ GE373.out | refine below_set ?_ GE374.out) | exact HB.out)⟩
    ·replace c17 := Bool.eq_false_iff.mpr c17
     subst c17
     have H1 : (medlarref23_Trace.l0 kj4 a0 a1 l2 l2 (l2.length : Int) 0 a3_0 l3_1 l3_2) = some (r1, r2, r3, r4) := by rw [if_neg (show ¬ (false = true) by decide)] at H; exact H
     clear H
     have H := H1
     clear H1
     have H' := ak_ H
     clear H
     go_wp2
     go_loopg [47] kj4 (fun kq v47 w' => ∃ (x47_2 : Int) (x375000_2 : Bool) (x375001_2 : Int) (x375002_2 : Int), v47 = .int .i64 x47_2 ∧ Aside0 (medlarref23_Trace.l0 kq a0 a1 l2 l2 (l2.length : Int) x47_2 a3_0 l3_1 l3_2 = some (r1, r2, r3, r4)) ∧ Aside0 (kq ≤ kj4) ∧ Aside0 (w'.heap[gb373]? = some (.cells #[.bool a3_0, (.slice A3_1 l3_1.length c3_1), (.slice A3_2 l3_2.length c3_2)] 42 (0, 0))) ∧ Aside0 (w'.heap[gb374]? = some (.cells #[.bool x375000_2, .int .u64 x375001_2, .int .i64 x375002_2] 48 (0, 0))) ∧ Aside0 (Below w.heap.size w w'))
     case atStart => exact ⟨(0), (false), (0), (0), (by first | rfl | (simp; done) | (simp [*]; done)), H', ⟨Nat.le_refl _⟩, ⟨kl_ BK373⟩, ⟨kl_ BK374⟩, ⟨by repeat (first | (with_reducible first | exact HB.out | apply ba_ | apply bn_ | apply bd_ | refine below_set ?_ GE373.out | refine below_set ?_ GE374.out) | exact HB.out)⟩⟩
     case round =>
      clear H'
      try clear c1
      try clear c2
      try clear p2
      try clear c3
      try clear c4
      try clear c9
      try clear c9b0
      try clear c9b1
      try clear c10
      try clear c10b0
      try clear c10b1
      try clear c11
      try clear c13
      try clear c15
      try clear c17
      try clear c18
      try clear hcz12_0
      try clear hcz12_1
      try clear hcz12_2
      try clear hcz14_0
      try clear hcz14_1
      try clear hcz14_2
      try clear hcz16_0
      try clear hcz16_1
      try clear hcz16_2
      try clear hcz19_0
      try clear hcz19_1
      try clear hcz19_2
      try clear hfz12_0
      try clear hfz12_1
      try clear hfz12_2
      try clear hfz14_0
      try clear hfz14_1
      try clear hfz14_2
      try clear hfz16_0
      try clear hfz16_1
      try clear hfz16_2
      try clear hfz19_0
      try clear hfz19_1
      try clear hfz19_2
      try clear p2
      obtain ⟨x47_2, x375000_2, x375001_2, x375002_2, rfl, HA, HK2, BK373, BK374, HB⟩ := hrel
      cases gk with
      | zero => exact absurd HA.out (by simp [medlarref23_Trace.l0])
      | succ k2 =>
       have H := HA.out
       clear HA
       simp only [medlarref23_Trace.l0] at H
       by_cases c20 : x47_2 < (l2.length : Int)
       ·rw [if_pos c20] at H
        have c20b0 := decide_eq_true c20
        clear c20
        by_cases c21 : 0 ≤ x47_2
        ·rw [if_pos c21] at H
         have c21b0 := decide_eq_true c21
         clear c21
         by_cases c22 : x47_2 < (l2.length : Int)
         ·rw [if_pos c22] at H
          have c22b0 := decide_eq_true c22
          clear c22
          replace H := bind_eq_some_iff.mp H
          obtain ⟨t378, A230, H⟩ := H
          replace H : (if t378 = true then (medlarref23_Trace.l0 k2 a0 a1 l2 l2 (l2.length : Int) (wrap64 (x47_2 + 1)) a3_0 l3_1 l3_2) else (some (false, 0, 0, 1))) = some (r1, r2, r3, r4) := H
          have A23 := ak_ A230
          clear A230
          by_cases c24 : t378 = true
          ·subst c24
           have H1 : (medlarref23_Trace.l0 k2 a0 a1 l2 l2 (l2.length : Int) (wrap64 (x47_2 + 1)) a3_0 l3_1 l3_2) = some (r1, r2, r3, r4) := by rw [if_pos rfl] at H; exact H
           clear H
           have H := H1
           clear H1
           have H' := ak_ H
           clear H
           have p376 : 0 ≤ (x47_2 : Int) := od_ (by first | (with_reducible assumption) | assumption)
           have q376 : x47_2 < (l2.length : Int) := od_ (by first | (with_reducible assumption) | assumption)
           obtain ⟨ad376, e376, hx376_0, hx376_1⟩ := at_T24 HR2.out x47_2 p376 q376
           cases e376
           replace hx376_0 := (HB.out.cell (World.block_lt_of_cell? w _ hx376_0)).trans hx376_0
           replace hx376_1 := (HB.out.cell (World.block_lt_of_cell? w _ hx376_1)).trans hx376_1
           replace p376 := eq_true p376
           replace q376 := eq_true q376
           go_wp2_with (first | ((with_reducible refine gate_dst (N := 11) rfl ?_); (try (refine gate_guard (by rfl) ?_; dsimp only)); refine box_event ?hg (N := 11) ?hd (cs := #[.int .u64 0, .int .u64 0]) (t := 24) ?hr ?_; (case hd => rfl); (case hg => rfl); (case hr => first | (go_simp; done) | (go_simp; rfl)); intro gb377 hg w25 hbox hb; have n0_ := ak_ (kb_ (g := gb373) (o := .cells #[.bool a3_0, .slice A3_1 l3_1.length c3_1, .slice A3_2 l3_2.length c3_2] 42 (0, 0)) (kl_ BK373) hb); have n1_ := ak_ (kb_ (g := gb374) (o := .cells #[.bool x375000_2, .int .u64 x375001_2, .int .i64 x375002_2] 48 (0, 0)) (kl_ BK374) hb); have n2_ := ak_ (bt_ (by repeat (first | (with_reducible first | exact HB.out | apply ba_ | apply bn_ | apply bd_ | refine below_set ?_ GE373.out | refine below_set ?_ GE374.out) | exact HB.out)) hb); have n3_ := ak_ (hbox); have n4_ := ak_ ((by rw [hg]; exact (bz_ (by repeat (first | (with_reducible first | exact HB.out | apply ba_ | apply bn_ | apply bd_ | refine below_set ?_ GE373.out | refine below_set ?_ GE374.out) | exact HB.out))) : w.heap.size ≤ gb377)); have n5_ := ak_ ((by rw [hg]; exact (bz_ (by repeat (first | (with_reducible first | exact HB.out | apply ba_ | apply bn_ | apply bd_ | refine below_set ?_ GE373.out | refine below_set ?_ GE374.out) | exact HB.out))) : w.heap.size ≤ gb377)); have n6_ := ak_ ((by rw [hg]; exact Nat.ne_of_lt (blk_lt (g := gb373) (o := .cells #[.bool a3_0, .slice A3_1 l3_1.length c3_1, .slice A3_2 l3_2.length c3_2] 42 (0, 0)) (kl_ BK373)) : gb373 ≠ gb377)); have n7_ := ak_ ((by rw [hg]; exact Nat.ne_of_gt (blk_lt (g := gb373) (o := .cells #[.bool a3_0, .slice A3_1 l3_1.length c3_1, .slice A3_2 l3_2.length c3_2] 42 (0, 0)) (kl_ BK373)) : gb377 ≠ gb373)); have n8_ := ak_ ((by rw [hg]; exact Nat.ne_of_lt (blk_lt (g := gb374) (o := .cells #[.bool x375000_2, .int .u64 x375001_2, .int .i64 x375002_2] 48 (0, 0)) (kl_ BK374)) : gb374 ≠ gb377)); have n9_ := ak_ ((by rw [hg]; exact Nat.ne_of_gt (blk_lt (g := gb374) (o := .cells #[.bool x375000_2, .int .u64 x375001_2, .int .i64 x375002_2] 48 (0, 0)) (kl_ BK374)) : gb377 ≠ gb374)); clear BK373; clear BK374; clear HB; have BK373 := n0_; have BK374 := n1_; have HB := n2_; have BK377 := n3_; have GW377 := n4_; have GE377 := n5_; have NB373_377 := n6_; have NB377_373 := n7_; have NB374_377 := n8_; have NB377_374 := n9_; clear n0_ n1_ n2_ n3_ n4_ n5_ n6_ n7_ n8_ n9_; clear hb hbox hg; have hnb26 := NB377_373.out; have hnc26 := NB373_377.out; have hnb27 := NB377_374.out; have hnc27 := NB374_377.out; have hcz28_0 : w25.cell? ⟨gb377, 0, none⟩ = some (.int .u64 0) := (kc_ BK377.out 0).trans rfl; have hcz28_1 : w25.cell? ⟨gb377, 1, none⟩ = some (.int .u64 0) := (kc_ BK377.out 1).trans rfl; have hfz28_0 := kf_ BK377.out 0; have hfz28_1 := kf_ BK377.out 1) | ((with_reducible refine gate_callee (f := 50) rfl ?_); refine goesL_ (some 54) rfl rfl func50 (by kernel_rfl) rfl #[.int .i64 a0, .int .i64 a1, .agg #[.int .u64 ((rd_T24 l2 x47_2).f0), .int .u64 ((rd_T24 l2 x47_2).f1)]] rfl (by (try simp only [map_toArray, map_cons, map_nil]); first | done | rfl) ?_; (with_reducible refine (medlarref23_may.calls k2 a0 a1 ((rd_T24 l2 x47_2).f0) ((rd_T24 l2 x47_2).f1) true _ A23.out).mono ?_); rintro e w29 ⟨rfl, hb⟩; refine ⟨_, rfl, ?_⟩; have n0_ := ak_ (kb_ (g := gb373) (o := .cells #[.bool a3_0, .slice A3_1 l3_1.length c3_1, .slice A3_2 l3_2.length c3_2] 42 (0, 0)) (by (with_reducible repeat (first | refine kn_ ?_ _ | refine kd_ ?_ | refine ka_ ?_ _)); refine blk_far ?_ NB373_377.out _; (with_reducible repeat (first | refine kn_ ?_ _ | refine kd_ ?_ | refine ka_ ?_ _)); refine blk_far ?_ NB373_377.out _; (with_reducible repeat (first | refine kn_ ?_ _ | refine kd_ ?_ | refine ka_ ?_ _)); exact BK373.out) hb); have n1_ := ak_ (kb_ (g := gb374) (o := .cells #[.bool x375000_2, .int .u64 x375001_2, .int .i64 x375002_2] 48 (0, 0)) (by (with_reducible repeat (first | refine kn_ ?_ _ | refine kd_ ?_ | refine ka_ ?_ _)); refine blk_far ?_ NB374_377.out _; (with_reducible repeat (first | refine kn_ ?_ _ | refine kd_ ?_ | refine ka_ ?_ _)); refine blk_far ?_ NB374_377.out _; (with_reducible repeat (first | refine kn_ ?_ _ | refine kd_ ?_ | refine ka_ ?_ _)); exact BK374.out) hb); have n2_ := ak_ (kb_ (g := gb377) (o := .cells #[.int .u64 ((rd_T24 l2 x47_2).f0), .int .u64 ((rd_T24 l2 x47_2).f1)] 24 (0, 0)) (by (with_reducible repeat (first | refine kn_ ?_ _ | refine kd_ ?_ | refine ka_ ?_ _)); refine blk_put (cs := #[.int .u64 ((rd_T24 l2 x47_2).f0), .int .u64 0]) ?_ 1 _ rfl; (with_reducible repeat (first | refine kn_ ?_ _ | refine kd_ ?_ | refine ka_ ?_ _)); refine blk_put (cs := #[.int .u64 0, .int .u64 0]) ?_ 0 _ rfl; (with_reducible repeat (first | refine kn_ ?_ _ | refine kd_ ?_ | refine ka_ ?_ _)); exact BK377.out) hb); have n3_ := ak_ (bt_ (by repeat (first | (with_reducible first | exact HB.out | apply ba_ | apply bn_ | apply bd_ | refine below_set ?_ GE373.out | refine below_set ?_ GE374.out | refine below_set ?_ GE377.out) | exact HB.out)) hb); clear BK373; clear BK374; clear BK377; clear HB; have BK373 := n0_; have BK374 := n1_; have BK377 := n2_; have HB := n3_; clear n0_ n1_ n2_ n3_; (try clear hb); (try clear hk)))
           go_roundg k2
           case measure => have := HJ4.out; have := HK2.out; omega
           case rel => exact ⟨(wrap64 (x47_2 + 1)), (x375000_2), (x375001_2), (x375002_2), (by first | rfl | (simp; done) | (simp [*]; done)), H', ⟨by have := HJ4.out; have := HK2.out; omega⟩, ⟨kl_ BK373⟩, ⟨kl_ BK374⟩, ⟨by repeat (first | (with_reducible first | exact HB.out | apply ba_ | apply bn_ | apply bd_ | refine below_set ?_ GE373.out | refine below_set ?_ GE374.out | refine below_set ?_ GE377.out) | exact HB.out)⟩⟩
          ·replace c24 := Bool.eq_false_iff.mpr c24
           subst c24
           have H1 : (some (false, 0, 0, 1)) = some (r1, r2, r3, r4) := by rw [if_neg (show ¬ (false = true) by decide)] at H; exact H
           clear H
           have H := H1
           clear H1
           simp only [some.injEq, Prod.mk.injEq] at H
           obtain ⟨rfl, rfl, rfl, rfl⟩ := H
           have p376 : 0 ≤ (x47_2 : Int) := od_ (by first | (with_reducible assumption) | assumption)
           have q376 : x47_2 < (l2.length : Int) := od_ (by first | (with_reducible assumption) | assumption)
           obtain ⟨ad376, e376, hx376_0, hx376_1⟩ := at_T24 HR2.out x47_2 p376 q376
           cases e376
           replace hx376_0 := (HB.out.cell (World.block_lt_of_cell? w _ hx376_0)).trans hx376_0
           replace hx376_1 := (HB.out.cell (World.block_lt_of_cell? w _ hx376_1)).trans hx376_1
           replace p376 := eq_true p376
           replace q376 := eq_true q376
           go_wp2_with (first | ((with_reducible refine gate_dst (N := 11) rfl ?_); (try (refine gate_guard (by rfl) ?_; dsimp only)); refine box_event ?hg (N := 11) ?hd (cs := #[.int .u64 0, .int .u64 0]) (t := 24) ?hr ?_; (case hd => rfl); (case hg => rfl); (case hr => first | (go_simp; done) | (go_simp; rfl)); intro gb377 hg w30 hbox hb; have n0_ := ak_ (kb_ (g := gb373) (o := .cells #[.bool a3_0, .slice A3_1 l3_1.length c3_1, .slice A3_2 l3_2.length c3_2] 42 (0, 0)) (kl_ BK373) hb); have n1_ := ak_ (kb_ (g := gb374) (o := .cells #[.bool x375000_2, .int .u64 x375001_2, .int .i64 x375002_2] 48 (0, 0)) (kl_ BK374) hb); have n2_ := ak_ (bt_ (by repeat (first | (with_reducible first | exact HB.out | apply ba_ | apply bn_ | apply bd_ | refine below_set ?_ GE373.out | refine below_set ?_ GE374.out) | exact HB.out)) hb); have n3_ := ak_ (hbox); have n4_ := ak_ ((by rw [hg]; exact (bz_ (by repeat (first | (with_reducible first | exact HB.out | apply ba_ | apply bn_ | apply bd_ | refine below_set ?_ GE373.out | refine below_set ?_ GE374.out) | exact HB.out))) : w.heap.size ≤ gb377)); have n5_ := ak_ ((by rw [hg]; exact (bz_ (by repeat (first | (with_reducible first | exact HB.out | apply ba_ | apply bn_ | apply bd_ | refine below_set ?_ GE373.out | refine below_set ?_ GE374.out) | exact HB.out))) : w.heap.size ≤ gb377)); have n6_ := ak_ ((by rw [hg]; exact Nat.ne_of_lt (blk_lt (g := gb373) (o := .cells #[.bool a3_0, .slice A3_1 l3_1.length c3_1, .slice A3_2 l3_2.length c3_2] 42 (0, 0)) (kl_ BK373)) : gb373 ≠ gb377)); have n7_ := ak_ ((by rw [hg]; exact Nat.ne_of_gt (blk_lt (g := gb373) (o := .cells #[.bool a3_0, .slice A3_1 l3_1.length c3_1, .slice A3_2 l3_2.length c3_2] 42 (0, 0)) (kl_ BK373)) : gb377 ≠ gb373)); have n8_ := ak_ ((by rw [hg]; exact Nat.ne_of_lt (blk_lt (g := gb374) (o := .cells #[.bool x375000_2, .int .u64 x375001_2, .int .i64 x375002_2] 48 (0, 0)) (kl_ BK374)) : gb374 ≠ gb377)); have n9_ := ak_ ((by rw [hg]; exact Nat.ne_of_gt (blk_lt (g := gb374) (o := .cells #[.bool x375000_2, .int .u64 x375001_2, .int .i64 x375002_2] 48 (0, 0)) (kl_ BK374)) : gb377 ≠ gb374)); clear BK373; clear BK374; clear HB; have BK373 := n0_; have BK374 := n1_; have HB := n2_; have BK377 := n3_; have GW377 := n4_; have GE377 := n5_; have NB373_377 := n6_; have NB377_373 := n7_; have NB374_377 := n8_; have NB377_374 := n9_; clear n0_ n1_ n2_ n3_ n4_ n5_ n6_ n7_ n8_ n9_; clear hb hbox hg; have hnb31 := NB377_373.out; have hnc31 := NB373_377.out; have hnb32 := NB377_374.out; have hnc32 := NB374_377.out; have hcz33_0 : w30.cell? ⟨gb377, 0, none⟩ = some (.int .u64 0) := (kc_ BK377.out 0).trans rfl; have hcz33_1 : w30.cell? ⟨gb377, 1, none⟩ = some (.int .u64 0) := (kc_ BK377.out 1).trans rfl; have hfz33_0 := kf_ BK377.out 0; have hfz33_1 := kf_ BK377.out 1) | ((with_reducible refine gate_callee (f := 50) rfl ?_); refine goesL_ (some 54) rfl rfl func50 (by kernel_rfl) rfl #[.int .i64 a0, .int .i64 a1, .agg #[.int .u64 ((rd_T24 l2 x47_2).f0), .int .u64 ((rd_T24 l2 x47_2).f1)]] rfl (by (try simp only [map_toArray, map_cons, map_nil]); first | done | rfl) ?_; (with_reducible refine (medlarref23_may.calls k2 a0 a1 ((rd_T24 l2 x47_2).f0) ((rd_T24 l2 x47_2).f1) false _ A23.out).mono ?_); rintro e w34 ⟨rfl, hb⟩; refine ⟨_, rfl, ?_⟩; have n0_ := ak_ (kb_ (g := gb373) (o := .cells #[.bool a3_0, .slice A3_1 l3_1.length c3_1, .slice A3_2 l3_2.length c3_2] 42 (0, 0)) (by (with_reducible repeat (first | refine kn_ ?_ _ | refine kd_ ?_ | refine ka_ ?_ _)); refine blk_far ?_ NB373_377.out _; (with_reducible repeat (first | refine kn_ ?_ _ | refine kd_ ?_ | refine ka_ ?_ _)); refine blk_far ?_ NB373_377.out _; (with_reducible repeat (first | refine kn_ ?_ _ | refine kd_ ?_ | refine ka_ ?_ _)); exact BK373.out) hb); have n1_ := ak_ (kb_ (g := gb374) (o := .cells #[.bool x375000_2, .int .u64 x375001_2, .int .i64 x375002_2] 48 (0, 0)) (by (with_reducible repeat (first | refine kn_ ?_ _ | refine kd_ ?_ | refine ka_ ?_ _)); refine blk_far ?_ NB374_377.out _; (with_reducible repeat (first | refine kn_ ?_ _ | refine kd_ ?_ | refine ka_ ?_ _)); refine blk_far ?_ NB374_377.out _; (with_reducible repeat (first | refine kn_ ?_ _ | refine kd_ ?_ | refine ka_ ?_ _)); exact BK374.out) hb); have n2_ := ak_ (kb_ (g := gb377) (o := .cells #[.int .u64 ((rd_T24 l2 x47_2).f0), .int .u64 ((rd_T24 l2 x47_2).f1)] 24 (0, 0)) (by (with_reducible repeat (first | refine kn_ ?_ _ | refine kd_ ?_ | refine ka_ ?_ _)); refine blk_put (cs := #[.int .u64 ((rd_T24 l2 x47_2).f0), .int .u64 0]) ?_ 1 _ rfl; (with_reducible repeat (first | refine kn_ ?_ _ | refine kd_ ?_ | refine ka_ ?_ _)); refine blk_put (cs := #[.int .u64 0, .int .u64 0]) ?_ 0 _ rfl; (with_reducible repeat (first | refine kn_ ?_ _ | refine kd_ ?_ | refine ka_ ?_ _)); exact BK377.out) hb); have n3_ := ak_ (bt_ (by repeat (first | (with_reducible first | exact HB.out | apply ba_ | apply bn_ | apply bd_ | refine below_set ?_ GE373.out | refine below_set ?_ GE374.out | refine below_set ?_ GE377.out) | exact HB.out)) hb); clear BK373; clear BK374; clear BK377; clear HB; have BK373 := n0_; have BK374 := n1_; have BK377 := n2_; have HB := n3_; clear n0_ n1_ n2_ n3_; (try clear hb); (try clear hk); have hnb35 := NB374_373.out; have hnc35 := NB373_374.out; have hcz36_0 : w34.cell? ⟨gb374, 0, none⟩ = some (.bool x375000_2) := (kc_ BK374.out 0).trans rfl; have hcz36_1 : w34.cell? ⟨gb374, 1, none⟩ = some (.int .u64 x375001_2) := (kc_ BK374.out 1).trans rfl; have hcz36_2 : w34.cell? ⟨gb374, 2, none⟩ = some (.int .i64 x375002_2) := (kc_ BK374.out 2).trans rfl; have hfz36_0 := kf_ BK374.out 0; have hfz36_1 := kf_ BK374.out 1; have hfz36_2 := kf_ BK374.out 2))
           refine bodyPost_ret (results_ct rfl _ _ gb374 48 #[.bool false, .int .u64 0, .int .i64 0] (0, 0) _ rfl (by (with_reducible repeat (first | refine kn_ ?_ _ | refine kd_ ?_ | refine ka_ ?_ _)); refine blk_put (cs := #[.bool false, .int .u64 0, .int .i64 x375002_2]) ?_ 2 _ rfl; (with_reducible repeat (first | refine kn_ ?_ _ | refine kd_ ?_ | refine ka_ ?_ _)); refine blk_put (cs := #[.bool false, .int .u64 x375001_2, .int .i64 x375002_2]) ?_ 1 _ rfl; (with_reducible repeat (first | refine kn_ ?_ _ | refine kd_ ?_ | refine ka_ ?_ _)); refine blk_put (cs := #[.bool x375000_2, .int .u64 x375001_2, .int .i64 x375002_2]) ?_ 0 _ rfl; (with_reducible repeat (first | refine kn_ ?_ _ | refine kd_ ?_ | refine ka_ ?_ _)); exact BK374.out) underlying48 rfl (by kernel_rfl)) rfl ?_
           exact ⟨by first | rfl | (simp <;> rfl) | (simp [*] <;> rfl), by repeat (first | (with_reducible first | exact HB.out | apply ba_ | apply bn_ | apply bd_ | refine below_set ?_ GE373.out | refine below_set ?_ GE374.out | refine below_set ?_ GE377.out) | exact HB.out)⟩
         ·rw [if_neg c22] at H
          exact absurd H (by simp)
        ·rw [if_neg c21] at H
         exact absurd H (by simp)
       ·rw [if_neg c20] at H
        have c20b0 := decide_eq_false c20
        clear c20
        replace H := bind_eq_some_iff.mp H
        obtain ⟨⟨t379, t380⟩, A370, H⟩ := H
        replace H : (if t379 = true then ((medlarref23_Ask.f k2 a0 a3_0 l3_1 l3_2 1 ([] : List (S24))).bind fun bt381 => (if bt381.1 = true then (some (false, 0, 2, 0)) else (medlarref23_Trace.l1 k2 a0 a1 l2 2 0 (l2.length : Int) a3_0 l3_1 l3_2))) else (some (false, 0, 1, 0))) = some (r1, r2, r3, r4) := H
        have A37 := ak_ A370
        clear A370
        by_cases c38 : t379 = true
        ·subst c38
         have H1 : ((medlarref23_Ask.f k2 a0 a3_0 l3_1 l3_2 1 ([] : List (S24))).bind fun bt381 => (if bt381.1 = true then (some (false, 0, 2, 0)) else (medlarref23_Trace.l1 k2 a0 a1 l2 2 0 (l2.length : Int) a3_0 l3_1 l3_2))) = some (r1, r2, r3, r4) := by rw [if_pos rfl] at H; exact H
         clear H
         have H := H1
         clear H1
         replace H := bind_eq_some_iff.mp H
         obtain ⟨⟨t381, t382⟩, A390, H⟩ := H
         replace H : (if t381 = true then (some (false, 0, 2, 0)) else (medlarref23_Trace.l1 k2 a0 a1 l2 2 0 (l2.length : Int) a3_0 l3_1 l3_2)) = some (r1, r2, r3, r4) := H
         have A39 := ak_ A390
         clear A390
         by_cases c40 : t381 = true
         ·subst c40
          have H1 : (some (false, 0, 2, 0)) = some (r1, r2, r3, r4) := by rw [if_pos rfl] at H; exact H
          clear H
          have H := H1
          clear H1
          simp only [some.injEq, Prod.mk.injEq] at H
          obtain ⟨rfl, rfl, rfl, rfl⟩ := H
          have hnb41 := NB373_374.out
          have hnc41 := NB374_373.out
          have hcz42_0 : wr.cell? ⟨gb373, 0, none⟩ = some (.bool a3_0) := (kc_ BK373.out 0).trans rfl
          have hcz42_1 : wr.cell? ⟨gb373, 1, none⟩ = some (.slice A3_1 l3_1.length c3_1) := (kc_ BK373.out 1).trans rfl
          have hcz42_2 : wr.cell? ⟨gb373, 2, none⟩ = some (.slice A3_2 l3_2.length c3_2) := (kc_ BK373.out 2).trans rfl
          have hfz42_0 := kf_ BK373.out 0
          have hfz42_1 := kf_ BK373.out 1
          have hfz42_2 := kf_ BK373.out 2
          go_wp2_with (first | ((with_reducible refine gate_callee (f := 17) rfl ?_); refine goesL_ (some 62) rfl rfl func17 (by kernel_rfl) rfl #[.int .i64 a0, .agg #[.bool a3_0, .slice A3_1 l3_1.length c3_1, .slice A3_2 l3_2.length c3_2], .int .i64 0, .slice A2 l2.length c2] rfl (by (try simp only [map_toArray, map_cons, map_nil]); first | done | rfl) ?_; (with_reducible refine (medlarref23_Ask.calls k2 a0 a3_0 _ _ l3_1 _ _ l3_2 0 _ _ l2 true t380 _ ?side1 ?side2 ?side3 ?side4 ?side5 ?side6 A37.out).mono ?_); (case side1 => repeat (first | exact (Kd.C_below HR3_1.out HB.out) | (with_reducible refine Kd.C_alloc ?_ _) | (with_reducible refine Kd.C_drewN ?_ _) | (with_reducible refine Kd.C_drew ?_))); (case side2 => exact HC3_1.out); (case side3 => repeat (first | exact (Kd.C_below HR3_2.out HB.out) | (with_reducible refine Kd.C_alloc ?_ _) | (with_reducible refine Kd.C_drewN ?_ _) | (with_reducible refine Kd.C_drew ?_))); (case side4 => exact HC3_2.out); (case side5 => repeat (first | exact (Kd.C_below HR2.out HB.out) | (with_reducible refine Kd.C_alloc ?_ _) | (with_reducible refine Kd.C_drewN ?_ _) | (with_reducible refine Kd.C_drew ?_))); (case side6 => exact HC2.out); rintro e w43 ⟨rfl, hb⟩; refine ⟨_, rfl, ?_⟩; have n0_ := ak_ (kb_ (g := gb373) (o := .cells #[.bool a3_0, .slice A3_1 l3_1.length c3_1, .slice A3_2 l3_2.length c3_2] 42 (0, 0)) (kl_ BK373) hb); have n1_ := ak_ (kb_ (g := gb374) (o := .cells #[.bool x375000_2, .int .u64 x375001_2, .int .i64 x375002_2] 48 (0, 0)) (kl_ BK374) hb); have n2_ := ak_ (bt_ (by repeat (first | (with_reducible first | exact HB.out | apply ba_ | apply bn_ | apply bd_ | refine below_set ?_ GE373.out | refine below_set ?_ GE374.out) | exact HB.out)) hb); clear BK373; clear BK374; clear HB; have BK373 := n0_; have BK374 := n1_; have HB := n2_; clear n0_ n1_ n2_; (try clear hb); (try clear hk); have hcz44_0 : w43.cell? ⟨gb373, 0, none⟩ = some (.bool a3_0) := (kc_ BK373.out 0).trans rfl; have hcz44_1 : w43.cell? ⟨gb373, 1, none⟩ = some (.slice A3_1 l3_1.length c3_1) := (kc_ BK373.out 1).trans rfl; have hcz44_2 : w43.cell? ⟨gb373, 2, none⟩ = some (.slice A3_2 l3_2.length c3_2) := (kc_ BK373.out 2).trans rfl; have hfz44_0 := kf_ BK373.out 0; have hfz44_1 := kf_ BK373.out 1; have hfz44_2 := kf_ BK373.out 2) | ((with_reducible refine gate_callee (f := 17) rfl ?_); refine goesL_ (some 71) rfl rfl func17 (by kernel_rfl) rfl #[.int .i64 a0, .agg #[.bool a3_0, .slice A3_1 l3_1.length c3_1, .slice A3_2 l3_2.length c3_2], .int .i64 1, .slice none 0 0] rfl (by (try simp only [map_toArray, map_cons, map_nil]); first | done | rfl) ?_; (refine (medlarref23_Ask.calls k2 a0 a3_0 _ _ l3_1 _ _ l3_2 1 _ _ ([] : List (S24)) true t382 _ ?side1 ?side2 ?side3 ?side4 ?side5 ?side6 A39.out).mono ?_); (case side1 => repeat (first | exact (Kd.C_below HR3_1.out HB.out) | (with_reducible refine Kd.C_alloc ?_ _) | (with_reducible refine Kd.C_drewN ?_ _) | (with_reducible refine Kd.C_drew ?_))); (case side2 => exact HC3_1.out); (case side3 => repeat (first | exact (Kd.C_below HR3_2.out HB.out) | (with_reducible refine Kd.C_alloc ?_ _) | (with_reducible refine Kd.C_drewN ?_ _) | (with_reducible refine Kd.C_drew ?_))); (case side4 => exact HC3_2.out); (case side5 => exact Kd.C_nil _ _); (case side6 => exact Nat.le_refl _); rintro e w45 ⟨rfl, hb⟩; refine ⟨_, rfl, ?_⟩; have n0_ := ak_ (kb_ (g := gb373) (o := .cells #[.bool a3_0, .slice A3_1 l3_1.length c3_1, .slice A3_2 l3_2.length c3_2] 42 (0, 0)) (kl_ BK373) hb); have n1_ := ak_ (kb_ (g := gb374) (o := .cells #[.bool x375000_2, .int .u64 x375001_2, .int .i64 x375002_2] 48 (0, 0)) (kl_ BK374) hb); have n2_ := ak_ (bt_ (by repeat (first | (with_reducible first | exact HB.out | apply ba_ | apply bn_ | apply bd_ | refine below_set ?_ GE373.out | refine below_set ?_ GE374.out) | exact HB.out)) hb); clear BK373; clear BK374; clear HB; have BK373 := n0_; have BK374 := n1_; have HB := n2_; clear n0_ n1_ n2_; (try clear hb); (try clear hk); have hcz46_0 : w45.cell? ⟨gb374, 0, none⟩ = some (.bool x375000_2) := (kc_ BK374.out 0).trans rfl; have hcz46_1 : w45.cell? ⟨gb374, 1, none⟩ = some (.int .u64 x375001_2) := (kc_ BK374.out 1).trans rfl; have hcz46_2 : w45.cell? ⟨gb374, 2, none⟩ = some (.int .i64 x375002_2) := (kc_ BK374.out 2).trans rfl; have hfz46_0 := kf_ BK374.out 0; have hfz46_1 := kf_ BK374.out 1; have hfz46_2 := kf_ BK374.out 2))
          refine bodyPost_ret (results_ct rfl _ _ gb374 48 #[.bool false, .int .u64 0, .int .i64 2] (0, 0) _ rfl (by (with_reducible repeat (first | refine kn_ ?_ _ | refine kd_ ?_ | refine ka_ ?_ _)); refine blk_put (cs := #[.bool false, .int .u64 0, .int .i64 x375002_2]) ?_ 2 _ rfl; (with_reducible repeat (first | refine kn_ ?_ _ | refine kd_ ?_ | refine ka_ ?_ _)); refine blk_put (cs := #[.bool false, .int .u64 x375001_2, .int .i64 x375002_2]) ?_ 1 _ rfl; (with_reducible repeat (first | refine kn_ ?_ _ | refine kd_ ?_ | refine ka_ ?_ _)); refine blk_put (cs := #[.bool x375000_2, .int .u64 x375001_2, .int .i64 x375002_2]) ?_ 0 _ rfl; (with_reducible repeat (first | refine kn_ ?_ _ | refine kd_ ?_ | refine ka_ ?_ _)); exact BK374.out) underlying48 rfl (by kernel_rfl)) rfl ?_
          exact ⟨by first | rfl | (simp <;> rfl) | (simp [*] <;> rfl), by repeat (first | (with_reducible first | exact HB.out | apply ba_ | apply bn_ | apply bd_ | refine below_set ?_ GE373.out | refine below_set ?_ GE374.out) | exact HB.out)⟩
         ·replace c40 := Bool.eq_false_iff.mpr c40
          subst c40
          have H1 : (medlarref23_Trace.l1 k2 a0 a1 l2 2 0 (l2.length : Int) a3_0 l3_1 l3_2) = some (r1, r2, r3, r4) := by rw [if_neg (show ¬ (false = true) by decide)] at H; exact H
          clear H
          have H := H1
          clear H1
          have H' := ak_ H
          clear H
          have hnb47 := NB373_374.out
          have hnc47 := NB374_373.out
          have hcz48_0 : wr.cell? ⟨gb373, 0, none⟩ = some (.bool a3_0) := (kc_ BK373.out 0).trans rfl
          have hcz48_1 : wr.cell? ⟨gb373, 1, none⟩ = some (.slice A3_1 l3_1.length c3_1) := (kc_ BK373.out 1).trans rfl
          have hcz48_2 : wr.cell? ⟨gb373, 2, none⟩ = some (.slice A3_2 l3_2.length c3_2) := (kc_ BK373.out 2).trans rfl
          have hfz48_0 := kf_ BK373.out 0
          have hfz48_1 := kf_ BK373.out 1
          have hfz48_2 := kf_ BK373.out 2
          go_wp2_with (first | ((with_reducible refine gate_callee (f := 17) rfl ?_); refine goesL_ (some 62) rfl rfl func17 (by kernel_rfl) rfl #[.int .i64 a0, .agg #[.bool a3_0, .slice A3_1 l3_1.length c3_1, .slice A3_2 l3_2.length c3_2], .int .i64 0, .slice A2 l2.length c2] rfl (by (try simp only [map_toArray, map_cons, map_nil]); first | done | rfl) ?_; (with_reducible refine (medlarref23_Ask.calls k2 a0 a3_0 _ _ l3_1 _ _ l3_2 0 _ _ l2 true t380 _ ?side1 ?side2 ?side3 ?side4 ?side5 ?side6 A37.out).mono ?_); (case side1 => repeat (first | exact (Kd.C_below HR3_1.out HB.out) | (with_reducible refine Kd.C_alloc ?_ _) | (with_reducible refine Kd.C_drewN ?_ _) | (with_reducible refine Kd.C_drew ?_))); (case side2 => exact HC3_1.out); (case side3 => repeat (first | exact (Kd.C_below HR3_2.out HB.out) | (with_reducible refine Kd.C_alloc ?_ _) | (with_reducible refine Kd.C_drewN ?_ _) | (with_reducible refine Kd.C_drew ?_))); (case side4 => exact HC3_2.out); (case side5 => repeat (first | exact (Kd.C_below HR2.out HB.out) | (with_reducible refine Kd.C_alloc ?_ _) | (with_reducible refine Kd.C_drewN ?_ _) | (with_reducible refine Kd.C_drew ?_))); (case side6 => exact HC2.out); rintro e w49 ⟨rfl, hb⟩; refine ⟨_, rfl, ?_⟩; have n0_ := ak_ (kb_ (g := gb373) (o := .cells #[.bool a3_0, .slice A3_1 l3_1.length c3_1, .slice A3_2 l3_2.length c3_2] 42 (0, 0)) (kl_ BK373) hb); have n1_ := ak_ (kb_ (g := gb374) (o := .cells #[.bool x375000_2, .int .u64 x375001_2, .int .i64 x375002_2] 48 (0, 0)) (kl_ BK374) hb); have n2_ := ak_ (bt_ (by repeat (first | (with_reducible first | exact HB.out | apply ba_ | apply bn_ | apply bd_ | refine below_set ?_ GE373.out | refine below_set ?_ GE374.out) | exact HB.out)) hb); clear BK373; clear BK374; clear HB; have BK373 := n0_; have BK374 := n1_; have HB := n2_; clear n0_ n1_ n2_; (try clear hb); (try clear hk); have hcz50_0 : w49.cell? ⟨gb373, 0, none⟩ = some (.bool a3_0) := (kc_ BK373.out 0).trans rfl; have hcz50_1 : w49.cell? ⟨gb373, 1, none⟩ = some (.slice A3_1 l3_1.length c3_1) := (kc_ BK373.out 1).trans rfl; have hcz50_2 : w49.cell? ⟨gb373, 2, none⟩ = some (.slice A3_2 l3_2.length c3_2) := (kc_ BK373.out 2).trans rfl; have hfz50_0 := kf_ BK373.out 0; have hfz50_1 := kf_ BK373.out 1; have hfz50_2 := kf_ BK373.out 2) | ((with_reducible refine gate_callee (f := 17) rfl ?_); refine goesL_ (some 71) rfl rfl func17 (by kernel_rfl) rfl #[.int .i64 a0, .agg #[.bool a3_0, .slice A3_1 l3_1.length c3_1, .slice A3_2 l3_2.length c3_2], .int .i64 1, .slice none 0 0] rfl (by (try simp only [map_toArray, map_cons, map_nil]); first | done | rfl) ?_; (refine (medlarref23_Ask.calls k2 a0 a3_0 _ _ l3_1 _ _ l3_2 1 _ _ ([] : List (S24)) false t382 _ ?side1 ?side2 ?side3 ?side4 ?side5 ?side6 A39.out).mono ?_); (case side1 => repeat (first | exact (Kd.C_below HR3_1.out HB.out) | (with_reducible refine Kd.C_alloc ?_ _) | (with_reducible refine Kd.C_drewN ?_ _) | (with_reducible refine Kd.C_drew ?_))); (case side2 => exact HC3_1.out); (case side3 => repeat (first | exact (Kd.C_below HR3_2.out HB.out) | (with_reducible refine Kd.C_alloc ?_ _) | (with_reducible refine Kd.C_drewN ?_ _) | (with_reducible refine Kd.C_drew ?_))); (case side4 => exact HC3_2.out); (case side5 => exact Kd.C_nil _ _); (case side6 => exact Nat.le_refl _); rintro e w51 ⟨rfl, hb⟩; refine ⟨_, rfl, ?_⟩; have n0_ := ak_ (kb_ (g := gb373) (o := .cells #[.bool a3_0, .slice A3_1 l3_1.length c3_1, .slice A3_2 l3_2.length c3_2] 42 (0, 0)) (kl_ BK373) hb); have n1_ := ak_ (kb_ (g := gb374) (o := .cells #[.bool x375000_2, .int .u64 x375001_2, .int .i64 x375002_2] 48 (0, 0)) (kl_ BK374) hb); have n2_ := ak_ (bt_ (by repeat (first | (with_reducible first | exact HB.out | apply ba_ | apply bn_ | apply bd_ | refine below_set ?_ GE373.out | refine below_set ?_ GE374.out) | exact HB.out)) hb); clear BK373; clear BK374; clear HB; have BK373 := n0_; have BK374 := n1_; have HB := n2_; clear n0_ n1_ n2_; (try clear hb); (try clear hk)))
          go_loopg [16, 17, 18] k2 (fun kq v16 v17 v18 w' => ∃ (x16_3 : Int) (x17_3 : Int) (x18_3 : Int), v16 = .int .i64 x16_3 ∧ v17 = .int .i64 x17_3 ∧ v18 = .int .i64 x18_3 ∧ Aside0 (medlarref23_Trace.l1 kq a0 a1 l2 x16_3 x17_3 x18_3 a3_0 l3_1 l3_2 = some (r1, r2, r3, r4)) ∧ Aside0 (kq ≤ k2) ∧ Aside0 (w'.heap[gb373]? = some (.cells #[.bool a3_0, (.slice A3_1 l3_1.length c3_1), (.slice A3_2 l3_2.length c3_2)] 42 (0, 0))) ∧ Aside0 (w'.heap[gb374]? = some (.cells #[.bool x375000_2, .int .u64 x375001_2, .int .i64 x375002_2] 48 (0, 0))) ∧ Aside0 (Below w.heap.size w w'))
          case atStart => exact ⟨(2), (0), ((l2.length : Int)), (by first | rfl | (simp; done) | (simp [*]; done)), (by first | rfl | (simp; done) | (simp [*]; done)), (by first | rfl | (simp; done) | (simp [*]; done)), H', ⟨Nat.le_refl _⟩, ⟨kl_ BK373⟩, ⟨kl_ BK374⟩, ⟨by repeat (first | (with_reducible first | exact HB.out | apply ba_ | apply bn_ | apply bd_ | refine below_set ?_ GE373.out | refine below_set ?_ GE374.out) | exact HB.out)⟩⟩
          case round =>
           clear H'
           try clear c1
           try clear c2
           try clear p2
           try clear c3
           try clear p3
           try clear q3
           try clear hx3
           try clear c4
           try clear c5
           try clear p6
           try clear c9
           try clear c9b0
           try clear c9b1
           try clear c10
           try clear c10b0
           try clear c10b1
           try clear c11
           try clear c13
           try clear c15
           try clear c17
           try clear c18
           try clear c20
           try clear c20b0
           try clear c21
           try clear c21b0
           try clear c22
           try clear c22b0
           try clear c24
           try clear c26
           try clear c27
           try clear c31
           try clear c32
           try clear c35
           try clear p37
           try clear q37
           try clear hx37
           try clear c38
           try clear c40
           try clear c41
           try clear c42
           try clear c47
           try clear c50
           try clear hcz12_0
           try clear hcz12_1
           try clear hcz12_2
           try clear hcz14_0
           try clear hcz14_1
           try clear hcz14_2
           try clear hcz16_0
           try clear hcz16_1
           try clear hcz16_2
           try clear hcz19_0
           try clear hcz19_1
           try clear hcz19_2
           try clear hcz28_0
           try clear hcz28_1
           try clear hcz33_0
           try clear hcz33_1
           try clear hcz36_0
           try clear hcz36_1
           try clear hcz36_2
           try clear hcz42_0
           try clear hcz42_1
           try clear hcz42_2
           try clear hcz44_0
           try clear hcz44_1
           try clear hcz44_2
           try clear hcz46_0
           try clear hcz46_1
           try clear hcz46_2
           try clear hcz48_0
           try clear hcz48_1
           try clear hcz48_2
           try clear hcz50_0
           try clear hcz50_1
           try clear hcz50_2
           try clear hfz12_0
           try clear hfz12_1
           try clear hfz12_2
           try clear hfz14_0
           try clear hfz14_1
           try clear hfz14_2
           try clear hfz16_0
           try clear hfz16_1
           try clear hfz16_2
           try clear hfz19_0
           try clear hfz19_1
           try clear hfz19_2
           try clear hfz28_0
           try clear hfz28_1
           try clear hfz33_0
           try clear hfz33_1
           try clear hfz36_0
           try clear hfz36_1
           try clear hfz36_2
           try clear hfz42_0
           try clear hfz42_1
           try clear hfz42_2
           try clear hfz44_0
           try clear hfz44_1
           try clear hfz44_2
           try clear hfz46_0
           try clear hfz46_1
           try clear hfz46_2
           try clear hfz48_0
           try clear hfz48_1
           try clear hfz48_2
           try clear hfz50_0
           try clear hfz50_1
           try clear hfz50_2
           try clear hx376_0
           try clear hx376_1
           try clear p2
           try clear p376
           try clear q376
           obtain ⟨x16_3, x17_3, x18_3, rfl, rfl, rfl, HA, HK3, BK373, BK374, HB⟩ := hrel
           cases gk with
           | zero => exact absurd HA.out (by simp [medlarref23_Trace.l1])
           | succ k3 =>
            have H := HA.out
            clear HA
            simp only [medlarref23_Trace.l1] at H
            by_cases c52 : (wrap64 (x18_3 - x17_3)) > 1
            ·rw [if_pos c52] at H
             have c52b0 : decide (1 < (wrap64 (x18_3 - x17_3))) = true := decide_eq_true c52
             clear c52
             obtain ⟨ji53, hji53⟩ : ∃ j_ : Int, (wrap64 (Int.tdiv (wrap64 (x17_3 + x18_3)) 2)) = j_ := ⟨_, rfl⟩
             replace H : (if 0 ≤ (ji53) then (if (ji53) ≤ (l2.length : Int) then ((medlarref23_Ask.f k3 a0 a3_0 l3_1 l3_2 x16_3 (l2.drop ((ji53) : Int).toNat)).bind fun bt387 => (if bt387.1 = true then (medlarref23_Trace.l1 k3 a0 a1 l2 (wrap64 (x16_3 + 1)) ji53 x18_3 a3_0 l3_1 l3_2) else (medlarref23_Trace.l1 k3 a0 a1 l2 (wrap64 (x16_3 + 1)) x17_3 ji53 a3_0 l3_1 l3_2))) else (none)) else (none)) = some (r1, r2, r3, r4) := by first | (rw [hji53] at H; exact H) | (simp only [hji53] at H ⊢; exact H)
             have hji53w : (IntKind.i64.wrap (Int.tdiv (wrap64 (x17_3 + x18_3)) 2)) = ji53 := (i64_w _).trans hji53
             by_cases c54 : 0 ≤ (ji53)
             ·rw [if_pos c54] at H
              have c54b0 := eq_true c54
              have c54b1 := decide_eq_true c54
              clear c54
              by_cases c55 : (ji53) ≤ (l2.length : Int)
              ·rw [if_pos c55] at H
               have c55b0 := eq_true c55
               have c55b1 := decide_eq_true c55
               clear c55
               obtain ⟨y383, hy383⟩ : ∃ y_ : List (S24), y_ = (l2.drop ((ji53) : Int).toNat) := ⟨_, rfl⟩
               replace H : ((medlarref23_Ask.f k3 a0 a3_0 l3_1 l3_2 x16_3 y383).bind fun bt387 => (if bt387.1 = true then (medlarref23_Trace.l1 k3 a0 a1 l2 (wrap64 (x16_3 + 1)) ji53 x18_3 a3_0 l3_1 l3_2) else (medlarref23_Trace.l1 k3 a0 a1 l2 (wrap64 (x16_3 + 1)) x17_3 ji53 a3_0 l3_1 l3_2))) = some (r1, r2, r3, r4) := by first | (rw [hy383]; with_reducible exact H) | (have H2_ := (Option.bind_some _ _).symm.trans H; rw [hy383]; with_reducible exact H2_) | (have H2_ := (Option.bind_some _ _).symm.trans H; with_reducible exact H2_) | with_reducible exact H | (rw [hy383]; exact H) | exact H
               have Ny383 := ak_ hy383
               clear hy383
               replace H := bind_eq_some_iff.mp H
               obtain ⟨⟨t387, t388⟩, A560, H⟩ := H
               replace H : (if t387 = true then (medlarref23_Trace.l1 k3 a0 a1 l2 (wrap64 (x16_3 + 1)) ji53 x18_3 a3_0 l3_1 l3_2) else (medlarref23_Trace.l1 k3 a0 a1 l2 (wrap64 (x16_3 + 1)) x17_3 ji53 a3_0 l3_1 l3_2)) = some (r1, r2, r3, r4) := H
               have A56 := ak_ A560
               clear A560
               by_cases c57 : t387 = true
               ·subst c57
                have H1 : (medlarref23_Trace.l1 k3 a0 a1 l2 (wrap64 (x16_3 + 1)) ji53 x18_3 a3_0 l3_1 l3_2) = some (r1, r2, r3, r4) := by rw [if_pos rfl] at H; exact H
                clear H
                have H := H1
                clear H1
                have H' := ak_ H
                clear H
                try go_wp2
                have n0_ := ak_ (kd_ BK373.out)
                have n1_ := ak_ (kd_ BK374.out)
                have n2_ := ak_ (bd_ HB.out)
                clear BK373
                clear BK374
                clear HB
                have BK373 := n0_
                have BK374 := n1_
                have HB := n2_
                clear n0_ n1_ n2_
                have q59 : ((ji53) : Int) ≤ ((l2.length : Int) : Int) := od_ (by first | (with_reducible assumption) | assumption)
                obtain ⟨i059, hi059, _, hsz59, _⟩ := info_parts info24
                have hroom59 : l2.length ≤ c2 := HC2.out
                have hC59 : Kd.C k24 _ A2 l2.length l2 := HR2.out
                have q059 : (0 : Int) ≤ ((ji53) : Int) := od_ (by first | (with_reducible assumption) | assumption)
                have hcut59 := cut_from (P := Try.prog) 26 24 .i64 underlying26 hi059 2 hsz59 A2 l2.length c2 (ji53) q059 q59
                have hr59 := Kd.C_drop (m := ((ji53) : Int).toNat) (c := c2) hC59 (by omega) hroom59
                obtain ⟨A59, hA59⟩ : ∃ A1, A1 = (if c2 = ((ji53) : Int).toNat then A2 else (A2 : Option Addr).map (·.add (((ji53) : Int).toNat * 2))) := ⟨_, rfl⟩
                obtain ⟨c59, hc59⟩ : ∃ c1, c1 = c2 - ((ji53) : Int).toNat := ⟨_, rfl⟩
                have hy59 : y383.length = l2.length - ((ji53) : Int).toNat := (by rw [Ny383.out, List.length_drop] <;> omega)
                rw [show (l2).drop ((ji53) : Int).toNat = y383 from Ny383.out.symm] at hr59
                replace hr59 : Kd.C k24 _ A59 y383.length y383 := (by rw [hA59]; exact hr59)
                rw [← hy59, ← hA59, ← hc59] at hcut59
                have HR386 := ak_ hr59
                have HC386 := ak_ (show y383.length ≤ c59 from by rw [hy59, hc59]; exact Nat.sub_le_sub_right hroom59 _)
                clear hr59 hC59 hroom59 hi059 hsz59 hc59
                have KY59 := ak_ hy59
                have KA59 := ak_ hA59
                clear hy59 hA59
                replace q59 := eq_true q59
                refine start_ (n := 12) (S := fun w' => w'.cell? ⟨gb373, 0, none⟩ = some (.bool a3_0) ∧ w'.cell? ⟨gb373, 1, none⟩ = some (.slice A3_1 l3_1.length c3_1) ∧ w'.cell? ⟨gb373, 2, none⟩ = some (.slice A3_2 l3_2.length c3_2)) (ds := []) #[false, false, false, false, false, false, false, false, false, false, false, false] (by kernel_rfl) rfl rfl ⟨(kc_ BK373.out 0).trans rfl, (kc_ BK373.out 1).trans rfl, (kc_ BK373.out 2).trans rfl⟩ (fun hHeld => ?_); refine with_tabW medlarref23_Trace.tab20 medlarref23_Trace.bits20 (fun HT_ HW_ => ?_)
                generalize wr.drew = w58 at BK373 BK374 HB HR386 hHeld ⊢
                refine pure_ (i := 0) (N := some 87) (v := ?_) (a' := ?_) (bA7 1 12) rfl rfl (any_of HT_.out (by kernel_rfl)) (fun _ _ _ h => h) (Or.inl ⟨by rfl, ?_⟩) ?_ ?_; rotate_left; (intro w'; go_simp; with_reducible rfl); rotate_left; (simp only [Act.put, setIfInBounds_toArray, set_cons_zero, set_cons_succ, i64_w, i32_w]; rfl)
                refine pure_ (i := 2) (N := some 89) (v := ?_) (a' := ?_) #[true, false, true, false, false, false, false, false, false, false, false, false] rfl rfl (any_of HT_.out (by kernel_rfl)) (fun _ _ _ h => h) (Or.inl ⟨by rfl, ?_⟩) ?_ ?_; rotate_left; (intro w'; go_simp; with_reducible rfl); rotate_left; (simp only [Act.put, setIfInBounds_toArray, set_cons_zero, set_cons_succ, i64_w, i32_w]; rfl)
                refine pure_ (i := 3) (N := some 90) (v := ?_) (a' := ?_) #[true, false, true, true, false, false, false, false, false, false, false, false] rfl rfl (any_of HT_.out (by kernel_rfl)) (fun _ _ _ h => h) (Or.inl ⟨by rfl, ?_⟩) ?_ ?_; rotate_left; (intro w'; go_simp; with_reducible rfl); rotate_left; (simp only [Act.put, setIfInBounds_toArray, set_cons_zero, set_cons_succ, i64_w, i32_w]; rfl)
                refine pure_ (i := 4) (N := some 91) (v := ?_) (a' := ?_) #[true, false, true, true, true, false, false, false, false, false, false, false] rfl rfl (any_of HT_.out (by kernel_rfl)) (fun _ _ _ h => h) (Or.inl ⟨by rfl, ?_⟩) ?_ ?_; rotate_left; (intro w'; go_simp; with_reducible rfl); rotate_left; (simp only [Act.put, setIfInBounds_toArray, set_cons_zero, set_cons_succ, i64_w, i32_w]; rfl)
                refine pure_ (i := 5) (N := some 92) (v := ?_) (a' := ?_) #[true, false, true, true, true, true, false, false, false, false, false, false] rfl rfl (any_of HT_.out (by kernel_rfl)) (fun _ _ _ h => h) (Or.inl ⟨by rfl, ?_⟩) ?_ ?_; rotate_left; (intro w'; go_simp; with_reducible rfl); rotate_left; (simp only [Act.put, setIfInBounds_toArray, set_cons_zero, set_cons_succ, i64_w, i32_w]; rfl)
                refine take_ (i := 1) (N := some 88) (v := ?_) (a' := ?_) (bA7 6 12) rfl rfl (take_ofW HT_.out HW_.out (by kernel_rfl)) (fun _ _ _ h => h) (Or.inl ⟨by rfl, ?_⟩) hHeld ?_ ?_
                rotate_left
                ·rintro w' ⟨s0, s1, s2⟩
                 go_simp
                 with_reducible rfl
                rotate_left
                ·simp only [Act.put, setIfInBounds_toArray, set_cons_zero, set_cons_succ, i64_w, i32_w]
                 rfl
                refine one_ (i := 6) (N := some 93) (bA7 7 12) rfl rfl (one_of HT_.out (by kernel_rfl)) (by decide) (fun K hK => ?_)
                refine goes_ func17 (by kernel_rfl) rfl #[.int .i64 a0, .agg #[.bool a3_0, .slice A3_1 l3_1.length c3_1, .slice A3_2 l3_2.length c3_2], .int .i64 x16_3, .slice A59 y383.length c59] (by rfl) rfl rfl (by (try simp only [map_toArray, map_cons, map_nil]); first | done | rfl | (simp only [length_drop, length_take]; rfl)) ?_
                with_reducible refine (medlarref23_Ask.calls k3 a0 a3_0 _ _ l3_1 _ _ l3_2 x16_3 _ _ y383 true t388 _ ?side1 ?side2 ?side3 ?side4 ?side5 ?side6 A56.out).mono ?_
                (case side1 => repeat (first | exact (Kd.C_below HR3_1.out HB.out) | (with_reducible refine Kd.C_alloc ?_ _) | (with_reducible refine Kd.C_drewN ?_ _) | (with_reducible refine Kd.C_drew ?_)))
                (case side2 => exact HC3_1.out)
                (case side3 => repeat (first | exact (Kd.C_below HR3_2.out HB.out) | (with_reducible refine Kd.C_alloc ?_ _) | (with_reducible refine Kd.C_drewN ?_ _) | (with_reducible refine Kd.C_drew ?_)))
                (case side4 => exact HC3_2.out)
                (case side5 => repeat (first | exact (Kd.C_below HR386.out HB.out) | (with_reducible refine Kd.C_alloc ?_ _) | (with_reducible refine Kd.C_drewN ?_ _) | (with_reducible refine Kd.C_drew ?_)))
                (case side6 => exact HC386.out)
                rintro e w60 ⟨rfl, hb⟩
                refine ⟨_, rfl, ?_⟩
                have n0_ := ak_ (kb_ (g := gb373) (o := .cells #[.bool a3_0, .slice A3_1 l3_1.length c3_1, .slice A3_2 l3_2.length c3_2] 42 (0, 0)) (kl_ BK373) hb)
                have n1_ := ak_ (kb_ (g := gb374) (o := .cells #[.bool x375000_2, .int .u64 x375001_2, .int .i64 x375002_2] 48 (0, 0)) (kl_ BK374) hb)
                have n2_ := ak_ (bt_ (by repeat (first | (with_reducible first | exact HB.out | apply ba_ | apply bn_ | apply bd_ | refine below_set ?_ GE373.out | refine below_set ?_ GE374.out) | exact HB.out)) hb)
                clear BK373
                clear BK374
                clear HB
                have BK373 := n0_
                have BK374 := n1_
                have HB := n2_
                clear n0_ n1_ n2_
                (try clear hb)
                (try clear hb2)
                (try clear hk)
                (try clear hi)
                refine hK.out _ _ ⟨(kc_ BK373.out 0).trans rfl, (kc_ BK373.out 1).trans rfl, (kc_ BK373.out 2).trans rfl⟩ (fun hHeld => ?_)
                clear hK K
                refine norm_ (a' := ?_) ?_ ?_
                rotate_left
                ·show Act.put _ (some 93) _ = _
                 simp only [Act.put, setIfInBounds_toArray, set_cons_zero, set_cons_succ, i64_w, i32_w]
                 rfl
                refine pure_ (i := 7) (N := some 86) (v := ?_) (a' := ?_) (bA7 8 12) rfl rfl (any_of HT_.out (by kernel_rfl)) (fun _ _ _ h => h) (Or.inl ⟨by rfl, ?_⟩) ?_ ?_; rotate_left; (intro w'; go_simp; with_reducible rfl); rotate_left; (simp only [Act.put, setIfInBounds_toArray, set_cons_zero, set_cons_succ, i64_w, i32_w]; rfl)
                refine pure_ (i := 8) (N := some 94) (v := ?_) (a' := ?_) (bA7 9 12) rfl rfl (any_of HT_.out (by kernel_rfl)) (fun _ _ _ h => h) (Or.inl ⟨by rfl, ?_⟩) ?_ ?_; rotate_left; (intro w'; go_simp; with_reducible rfl); rotate_left; (simp only [Act.put, setIfInBounds_toArray, set_cons_zero, set_cons_succ, i64_w, i32_w]; rfl)
                refine pure_ (i := 9) (N := some 95) (v := ?_) (a' := ?_) (bA7 10 12) rfl rfl (any_of HT_.out (by kernel_rfl)) (fun _ _ _ h => h) (Or.inl ⟨by rfl, ?_⟩) ?_ ?_; rotate_left; (intro w'; go_simp; with_reducible rfl); rotate_left; (simp only [Act.put, setIfInBounds_toArray, set_cons_zero, set_cons_succ, i64_w, i32_w]; rfl)
                refine pure_ (i := 10) (N := some 20) (v := ?_) (a' := ?_) (bA7 11 12) rfl rfl (any_of HT_.out (by kernel_rfl)) (fun _ _ _ h => h) (Or.inl ⟨by rfl, ?_⟩) ?_ ?_; rotate_left; (intro w'; go_simp; with_reducible rfl); rotate_left; (simp only [Act.put, setIfInBounds_toArray, set_cons_zero, set_cons_succ, i64_w, i32_w]; rfl)
                refine pure_ (i := 11) (N := some 21) (v := ?_) (a' := ?_) (bA7 12 12) rfl rfl (any_of HT_.out (by kernel_rfl)) (fun _ _ _ h => h) (Or.inl ⟨by rfl, ?_⟩) ?_ ?_; rotate_left; (intro w'; go_simp; with_reducible rfl); rotate_left; (simp only [Act.put, setIfInBounds_toArray, set_cons_zero, set_cons_succ, i64_w, i32_w]; rfl)
                refine done_ (done_of HT_.out (by kernel_rfl)) ?_
                try go_wp2
                go_roundg k3
                case measure => have := HJ4.out; have := HK2.out; have := HK3.out; omega
                case rel => exact ⟨(wrap64 (x16_3 + 1)), (ji53), (x18_3), (by first | rfl | (simp; done) | (simp [*]; done)), (by first | rfl | (simp; done) | (simp only [← hji53] <;> (first | rfl | simp)) | (simp [*]; done)), (by first | rfl | (simp; done) | (simp [*]; done)), H', ⟨by have := HJ4.out; have := HK2.out; have := HK3.out; omega⟩, ⟨kl_ BK373⟩, ⟨kl_ BK374⟩, ⟨by repeat (first | (with_reducible first | exact HB.out | apply ba_ | apply bn_ | apply bd_ | refine below_set ?_ GE373.out | refine below_set ?_ GE374.out) | exact HB.out)⟩⟩
               ·replace c57 := Bool.eq_false_iff.mpr c57
                subst c57
                have H1 : (medlarref23_Trace.l1 k3 a0 a1 l2 (wrap64 (x16_3 + 1)) x17_3 ji53 a3_0 l3_1 l3_2) = some (r1, r2, r3, r4) := by rw [if_neg (show ¬ (false = true) by decide)] at H; exact H
                clear H
                have H := H1
                clear H1
                have H' := ak_ H
                clear H
                try go_wp2
                have n0_ := ak_ (kd_ BK373.out)
                have n1_ := ak_ (kd_ BK374.out)
                have n2_ := ak_ (bd_ HB.out)
                clear BK373
                clear BK374
                clear HB
                have BK373 := n0_
                have BK374 := n1_
                have HB := n2_
                clear n0_ n1_ n2_
                have q62 : ((ji53) : Int) ≤ ((l2.length : Int) : Int) := od_ (by first | (with_reducible assumption) | assumption)
                obtain ⟨i062, hi062, _, hsz62, _⟩ := info_parts info24
                have hroom62 : l2.length ≤ c2 := HC2.out
                have hC62 : Kd.C k24 _ A2 l2.length l2 := HR2.out
                have q062 : (0 : Int) ≤ ((ji53) : Int) := od_ (by first | (with_reducible assumption) | assumption)
                have hcut62 := cut_from (P := Try.prog) 26 24 .i64 underlying26 hi062 2 hsz62 A2 l2.length c2 (ji53) q062 q62
                have hr62 := Kd.C_drop (m := ((ji53) : Int).toNat) (c := c2) hC62 (by omega) hroom62
                obtain ⟨A62, hA62⟩ : ∃ A1, A1 = (if c2 = ((ji53) : Int).toNat then A2 else (A2 : Option Addr).map (·.add (((ji53) : Int).toNat * 2))) := ⟨_, rfl⟩
                obtain ⟨c62, hc62⟩ : ∃ c1, c1 = c2 - ((ji53) : Int).toNat := ⟨_, rfl⟩
                have hy62 : y383.length = l2.length - ((ji53) : Int).toNat := (by rw [Ny383.out, List.length_drop] <;> omega)
                rw [show (l2).drop ((ji53) : Int).toNat = y383 from Ny383.out.symm] at hr62
                replace hr62 : Kd.C k24 _ A62 y383.length y383 := (by rw [hA62]; exact hr62)
                rw [← hy62, ← hA62, ← hc62] at hcut62
                have HR386 := ak_ hr62
                have HC386 := ak_ (show y383.length ≤ c62 from by rw [hy62, hc62]; exact Nat.sub_le_sub_right hroom62 _)
                clear hr62 hC62 hroom62 hi062 hsz62 hc62
                have KY62 := ak_ hy62
                have KA62 := ak_ hA62
                clear hy62 hA62
                replace q62 := eq_true q62
                refine start_ (n := 12) (S := fun w' => w'.cell? ⟨gb373, 0, none⟩ = some (.bool a3_0) ∧ w'.cell? ⟨gb373, 1, none⟩ = some (.slice A3_1 l3_1.length c3_1) ∧ w'.cell? ⟨gb373, 2, none⟩ = some (.slice A3_2 l3_2.length c3_2)) (ds := []) #[false, false, false, false, false, false, false, false, false, false, false, false] (by kernel_rfl) rfl rfl ⟨(kc_ BK373.out 0).trans rfl, (kc_ BK373.out 1).trans rfl, (kc_ BK373.out 2).trans rfl⟩ (fun hHeld => ?_); refine with_tabW medlarref23_Trace.tab20 medlarref23_Trace.bits20 (fun HT_ HW_ => ?_)
                generalize wr.drew = w61 at BK373 BK374 HB HR386 hHeld ⊢
                refine pure_ (i := 0) (N := some 87) (v := ?_) (a' := ?_) (bA7 1 12) rfl rfl (any_of HT_.out (by kernel_rfl)) (fun _ _ _ h => h) (Or.inl ⟨by rfl, ?_⟩) ?_ ?_; rotate_left; (intro w'; go_simp; with_reducible rfl); rotate_left; (simp only [Act.put, setIfInBounds_toArray, set_cons_zero, set_cons_succ, i64_w, i32_w]; rfl)
                refine pure_ (i := 2) (N := some 89) (v := ?_) (a' := ?_) #[true, false, true, false, false, false, false, false, false, false, false, false] rfl rfl (any_of HT_.out (by kernel_rfl)) (fun _ _ _ h => h) (Or.inl ⟨by rfl, ?_⟩) ?_ ?_; rotate_left; (intro w'; go_simp; with_reducible rfl); rotate_left; (simp only [Act.put, setIfInBounds_toArray, set_cons_zero, set_cons_succ, i64_w, i32_w]; rfl)
                refine pure_ (i := 3) (N := some 90) (v := ?_) (a' := ?_) #[true, false, true, true, false, false, false, false, false, false, false, false] rfl rfl (any_of HT_.out (by kernel_rfl)) (fun _ _ _ h => h) (Or.inl ⟨by rfl, ?_⟩) ?_ ?_; rotate_left; (intro w'; go_simp; with_reducible rfl); rotate_left; (simp only [Act.put, setIfInBounds_toArray, set_cons_zero, set_cons_succ, i64_w, i32_w]; rfl)
                refine pure_ (i := 4) (N := some 91) (v := ?_) (a' := ?_) #[true, false, true, true, true, false, false, false, false, false, false, false] rfl rfl (any_of HT_.out (by kernel_rfl)) (fun _ _ _ h => h) (Or.inl ⟨by rfl, ?_⟩) ?_ ?_; rotate_left; (intro w'; go_simp; with_reducible rfl); rotate_left; (simp only [Act.put, setIfInBounds_toArray, set_cons_zero, set_cons_succ, i64_w, i32_w]; rfl)
                refine pure_ (i := 5) (N := some 92) (v := ?_) (a' := ?_) #[true, false, true, true, true, true, false, false, false, false, false, false] rfl rfl (any_of HT_.out (by kernel_rfl)) (fun _ _ _ h => h) (Or.inl ⟨by rfl, ?_⟩) ?_ ?_; rotate_left; (intro w'; go_simp; with_reducible rfl); rotate_left; (simp only [Act.put, setIfInBounds_toArray, set_cons_zero, set_cons_succ, i64_w, i32_w]; rfl)
                refine take_ (i := 1) (N := some 88) (v := ?_) (a' := ?_) (bA7 6 12) rfl rfl (take_ofW HT_.out HW_.out (by kernel_rfl)) (fun _ _ _ h => h) (Or.inl ⟨by rfl, ?_⟩) hHeld ?_ ?_
                rotate_left
                ·rintro w' ⟨s0, s1, s2⟩
                 go_simp
                 with_reducible rfl
                rotate_left
                ·simp only [Act.put, setIfInBounds_toArray, set_cons_zero, set_cons_succ, i64_w, i32_w]
                 rfl
                refine one_ (i := 6) (N := some 93) (bA7 7 12) rfl rfl (one_of HT_.out (by kernel_rfl)) (by decide) (fun K hK => ?_)
                refine goes_ func17 (by kernel_rfl) rfl #[.int .i64 a0, .agg #[.bool a3_0, .slice A3_1 l3_1.length c3_1, .slice A3_2 l3_2.length c3_2], .int .i64 x16_3, .slice A62 y383.length c62] (by rfl) rfl rfl (by (try simp only [map_toArray, map_cons, map_nil]); first | done | rfl | (simp only [length_drop, length_take]; rfl)) ?_
                with_reducible refine (medlarref23_Ask.calls k3 a0 a3_0 _ _ l3_1 _ _ l3_2 x16_3 _ _ y383 false t388 _ ?side1 ?side2 ?side3 ?side4 ?side5 ?side6 A56.out).mono ?_
                (case side1 => repeat (first | exact (Kd.C_below HR3_1.out HB.out) | (with_reducible refine Kd.C_alloc ?_ _) | (with_reducible refine Kd.C_drewN ?_ _) | (with_reducible refine Kd.C_drew ?_)))
                (case side2 => exact HC3_1.out)
                (case side3 => repeat (first | exact (Kd.C_below HR3_2.out HB.out) | (with_reducible refine Kd.C_alloc ?_ _) | (with_reducible refine Kd.C_drewN ?_ _) | (with_reducible refine Kd.C_drew ?_)))
                (case side4 => exact HC3_2.out)
                (case side5 => repeat (first | exact (Kd.C_below HR386.out HB.out) | (with_reducible refine Kd.C_alloc ?_ _) | (with_reducible refine Kd.C_drewN ?_ _) | (with_reducible refine Kd.C_drew ?_)))
                (case side6 => exact HC386.out)
                rintro e w63 ⟨rfl, hb⟩
                refine ⟨_, rfl, ?_⟩
                have n0_ := ak_ (kb_ (g := gb373) (o := .cells #[.bool a3_0, .slice A3_1 l3_1.length c3_1, .slice A3_2 l3_2.length c3_2] 42 (0, 0)) (kl_ BK373) hb)
                have n1_ := ak_ (kb_ (g := gb374) (o := .cells #[.bool x375000_2, .int .u64 x375001_2, .int .i64 x375002_2] 48 (0, 0)) (kl_ BK374) hb)
                have n2_ := ak_ (bt_ (by repeat (first | (with_reducible first | exact HB.out | apply ba_ | apply bn_ | apply bd_ | refine below_set ?_ GE373.out | refine below_set ?_ GE374.out) | exact HB.out)) hb)
                clear BK373
                clear BK374
                clear HB
                have BK373 := n0_
                have BK374 := n1_
                have HB := n2_
                clear n0_ n1_ n2_
                (try clear hb)
                (try clear hb2)
                (try clear hk)
                (try clear hi)
                refine hK.out _ _ ⟨(kc_ BK373.out 0).trans rfl, (kc_ BK373.out 1).trans rfl, (kc_ BK373.out 2).trans rfl⟩ (fun hHeld => ?_)
                clear hK K
                refine norm_ (a' := ?_) ?_ ?_
                rotate_left
                ·show Act.put _ (some 93) _ = _
                 simp only [Act.put, setIfInBounds_toArray, set_cons_zero, set_cons_succ, i64_w, i32_w]
                 rfl
                refine pure_ (i := 7) (N := some 86) (v := ?_) (a' := ?_) (bA7 8 12) rfl rfl (any_of HT_.out (by kernel_rfl)) (fun _ _ _ h => h) (Or.inl ⟨by rfl, ?_⟩) ?_ ?_; rotate_left; (intro w'; go_simp; with_reducible rfl); rotate_left; (simp only [Act.put, setIfInBounds_toArray, set_cons_zero, set_cons_succ, i64_w, i32_w]; rfl)
                refine pure_ (i := 8) (N := some 94) (v := ?_) (a' := ?_) (bA7 9 12) rfl rfl (any_of HT_.out (by kernel_rfl)) (fun _ _ _ h => h) (Or.inl ⟨by rfl, ?_⟩) ?_ ?_; rotate_left; (intro w'; go_simp; with_reducible rfl); rotate_left; (simp only [Act.put, setIfInBounds_toArray, set_cons_zero, set_cons_succ, i64_w, i32_w]; rfl)
                refine pure_ (i := 9) (N := some 95) (v := ?_) (a' := ?_) (bA7 10 12) rfl rfl (any_of HT_.out (by kernel_rfl)) (fun _ _ _ h => h) (Or.inl ⟨by rfl, ?_⟩) ?_ ?_; rotate_left; (intro w'; go_simp; with_reducible rfl); rotate_left; (simp only [Act.put, setIfInBounds_toArray, set_cons_zero, set_cons_succ, i64_w, i32_w]; rfl)
                refine pure_ (i := 10) (N := some 20) (v := ?_) (a' := ?_) (bA7 11 12) rfl rfl (any_of HT_.out (by kernel_rfl)) (fun _ _ _ h => h) (Or.inl ⟨by rfl, ?_⟩) ?_ ?_; rotate_left; (intro w'; go_simp; with_reducible rfl); rotate_left; (simp only [Act.put, setIfInBounds_toArray, set_cons_zero, set_cons_succ, i64_w, i32_w]; rfl)
                refine pure_ (i := 11) (N := some 21) (v := ?_) (a' := ?_) (bA7 12 12) rfl rfl (any_of HT_.out (by kernel_rfl)) (fun _ _ _ h => h) (Or.inl ⟨by rfl, ?_⟩) ?_ ?_; rotate_left; (intro w'; go_simp; with_reducible rfl); rotate_left; (simp only [Act.put, setIfInBounds_toArray, set_cons_zero, set_cons_succ, i64_w, i32_w]; rfl)
                refine done_ (done_of HT_.out (by kernel_rfl)) ?_
                try go_wp2
                go_roundg k3
                case measure => have := HJ4.out; have := HK2.out; have := HK3.out; omega
                case rel => exact ⟨(wrap64 (x16_3 + 1)), (x17_3), (ji53), (by first | rfl | (simp; done) | (simp [*]; done)), (by first | rfl | (simp; done) | (simp [*]; done)), (by first | rfl | (simp; done) | (simp only [← hji53] <;> (first | rfl | simp)) | (simp [*]; done)), H', ⟨by have := HJ4.out; have := HK2.out; have := HK3.out; omega⟩, ⟨kl_ BK373⟩, ⟨kl_ BK374⟩, ⟨by repeat (first | (with_reducible first | exact HB.out | apply ba_ | apply bn_ | apply bd_ | refine below_set ?_ GE373.out | refine below_set ?_ GE374.out) | exact HB.out)⟩⟩
              ·rw [if_neg c55] at H
               exact absurd H (by simp)
             ·rw [if_neg c54] at H
              exact absurd H (by simp)
            ·rw [if_neg c52] at H
             have c52b0 : decide (1 < (wrap64 (x18_3 - x17_3))) = false := decide_eq_false c52
             clear c52
             by_cases c64 : 0 ≤ x17_3
             ·rw [if_pos c64] at H
              have c64b0 := decide_eq_true c64
              clear c64
              by_cases c65 : x17_3 < (l2.length : Int)
              ·rw [if_pos c65] at H
               have c65b0 := decide_eq_true c65
               clear c65
               have H' := ak_ H
               clear H
               have p389 : 0 ≤ (x17_3 : Int) := od_ (by first | (with_reducible assumption) | assumption)
               have q389 : x17_3 < (l2.length : Int) := od_ (by first | (with_reducible assumption) | assumption)
               obtain ⟨ad389, e389, hx389_0, hx389_1⟩ := at_T24 HR2.out x17_3 p389 q389
               cases e389
               replace hx389_0 := (HB.out.cell (World.block_lt_of_cell? w _ hx389_0)).trans hx389_0
               replace hx389_1 := (HB.out.cell (World.block_lt_of_cell? w _ hx389_1)).trans hx389_1
               replace p389 := eq_true p389
               replace q389 := eq_true q389
               go_wp2_with (first | ((with_reducible refine gate_dst (N := 22) rfl ?_); (try (refine gate_guard (by rfl) ?_; dsimp only)); refine box_event ?hg (N := 22) ?hd (cs := #[.int .u64 0, .int .u64 0]) (t := 24) ?hr ?_; (case hd => rfl); (case hg => rfl); (case hr => first | (go_simp; done) | (go_simp; rfl)); intro gb390 hg w66 hbox hb; have n0_ := ak_ (kb_ (g := gb373) (o := .cells #[.bool a3_0, .slice A3_1 l3_1.length c3_1, .slice A3_2 l3_2.length c3_2] 42 (0, 0)) (kl_ BK373) hb); have n1_ := ak_ (kb_ (g := gb374) (o := .cells #[.bool x375000_2, .int .u64 x375001_2, .int .i64 x375002_2] 48 (0, 0)) (kl_ BK374) hb); have n2_ := ak_ (bt_ (by repeat (first | (with_reducible first | exact HB.out | apply ba_ | apply bn_ | apply bd_ | refine below_set ?_ GE373.out | refine below_set ?_ GE374.out) | exact HB.out)) hb); have n3_ := ak_ (hbox); have n4_ := ak_ ((by rw [hg]; exact (bz_ (by repeat (first | (with_reducible first | exact HB.out | apply ba_ | apply bn_ | apply bd_ | refine below_set ?_ GE373.out | refine below_set ?_ GE374.out) | exact HB.out))) : w.heap.size ≤ gb390)); have n5_ := ak_ ((by rw [hg]; exact (bz_ (by repeat (first | (with_reducible first | exact HB.out | apply ba_ | apply bn_ | apply bd_ | refine below_set ?_ GE373.out | refine below_set ?_ GE374.out) | exact HB.out))) : w.heap.size ≤ gb390)); have n6_ := ak_ ((by rw [hg]; exact Nat.ne_of_lt (blk_lt (g := gb373) (o := .cells #[.bool a3_0, .slice A3_1 l3_1.length c3_1, .slice A3_2 l3_2.length c3_2] 42 (0, 0)) (kl_ BK373)) : gb373 ≠ gb390)); have n7_ := ak_ ((by rw [hg]; exact Nat.ne_of_gt (blk_lt (g := gb373) (o := .cells #[.bool a3_0, .slice A3_1 l3_1.length c3_1, .slice A3_2 l3_2.length c3_2] 42 (0, 0)) (kl_ BK373)) : gb390 ≠ gb373)); have n8_ := ak_ ((by rw [hg]; exact Nat.ne_of_lt (blk_lt (g := gb374) (o := .cells #[.bool x375000_2, .int .u64 x375001_2, .int .i64 x375002_2] 48 (0, 0)) (kl_ BK374)) : gb374 ≠ gb390)); have n9_ := ak_ ((by rw [hg]; exact Nat.ne_of_gt (blk_lt (g := gb374) (o := .cells #[.bool x375000_2, .int .u64 x375001_2, .int .i64 x375002_2] 48 (0, 0)) (kl_ BK374)) : gb390 ≠ gb374)); clear BK373; clear BK374; clear HB; have BK373 := n0_; have BK374 := n1_; have HB := n2_; have BK390 := n3_; have GW390 := n4_; have GE390 := n5_; have NB373_390 := n6_; have NB390_373 := n7_; have NB374_390 := n8_; have NB390_374 := n9_; clear n0_ n1_ n2_ n3_ n4_ n5_ n6_ n7_ n8_ n9_; clear hb hbox hg; have hnb67 := NB390_373.out; have hnc67 := NB373_390.out; have hnb68 := NB390_374.out; have hnc68 := NB374_390.out; have hcz69_0 : w66.cell? ⟨gb390, 0, none⟩ = some (.int .u64 0) := (kc_ BK390.out 0).trans rfl; have hcz69_1 : w66.cell? ⟨gb390, 1, none⟩ = some (.int .u64 0) := (kc_ BK390.out 1).trans rfl; have hfz69_0 := kf_ BK390.out 0; have hfz69_1 := kf_ BK390.out 1))
               go_loopg [16] k3 (fun kq v16 w' => ∃ (x16_4 : Int) (x391000_4 : Int) (x391001_4 : Int), v16 = .int .i64 x16_4 ∧ Aside0 (medlarref23_Trace.l2 kq a0 a1 x16_4 a3_0 l3_1 l3_2 x391000_4 x391001_4 = some (r1, r2, r3, r4)) ∧ Aside0 (kq ≤ k3) ∧ Aside0 (w'.heap[gb373]? = some (.cells #[.bool a3_0, (.slice A3_1 l3_1.length c3_1), (.slice A3_2 l3_2.length c3_2)] 42 (0, 0))) ∧ Aside0 (w'.heap[gb374]? = some (.cells #[.bool x375000_2, .int .u64 x375001_2, .int .i64 x375002_2] 48 (0, 0))) ∧ Aside0 (w'.heap[gb390]? = some (.cells #[.int .u64 x391000_4, .int .u64 x391001_4] 24 (0, 0))) ∧ Aside0 (Below w.heap.size w w'))
               case atStart => exact ⟨(x16_3), ((rd_T24 l2 x17_3).f0), ((rd_T24 l2 x17_3).f1), (by first | rfl | (simp; done) | (simp [*]; done)), H', ⟨Nat.le_refl _⟩, ⟨by (with_reducible repeat (first | refine kn_ ?_ _ | refine kd_ ?_ | refine ka_ ?_ _)); refine blk_far ?_ NB373_390.out _; (with_reducible repeat (first | refine kn_ ?_ _ | refine kd_ ?_ | refine ka_ ?_ _)); refine blk_far ?_ NB373_390.out _; (with_reducible repeat (first | refine kn_ ?_ _ | refine kd_ ?_ | refine ka_ ?_ _)); exact BK373.out⟩, ⟨by (with_reducible repeat (first | refine kn_ ?_ _ | refine kd_ ?_ | refine ka_ ?_ _)); refine blk_far ?_ NB374_390.out _; (with_reducible repeat (first | refine kn_ ?_ _ | refine kd_ ?_ | refine ka_ ?_ _)); refine blk_far ?_ NB374_390.out _; (with_reducible repeat (first | refine kn_ ?_ _ | refine kd_ ?_ | refine ka_ ?_ _)); exact BK374.out⟩, ⟨by (with_reducible repeat (first | refine kn_ ?_ _ | refine kd_ ?_ | refine ka_ ?_ _)); refine blk_put (cs := #[.int .u64 ((rd_T24 l2 x17_3).f0), .int .u64 0]) ?_ 1 _ rfl; (with_reducible repeat (first | refine kn_ ?_ _ | refine kd_ ?_ | refine ka_ ?_ _)); refine blk_put (cs := #[.int .u64 0, .int .u64 0]) ?_ 0 _ rfl; (with_reducible repeat (first | refine kn_ ?_ _ | refine kd_ ?_ | refine ka_ ?_ _)); exact BK390.out⟩, ⟨by repeat (first | (with_reducible first | exact HB.out | apply ba_ | apply bn_ | apply bd_ | refine below_set ?_ GE373.out | refine below_set ?_ GE374.out | refine below_set ?_ GE390.out) | exact HB.out)⟩⟩
               case round =>
                clear H'
                try clear c1
                try clear c2
                try clear p2
                try clear c3
                try clear p3
                try clear q3
                try clear hx3
                try clear c4
                try clear c5
                try clear q5
                try clear c6
                try clear p6
                try clear q6
                try clear c9
                try clear c9b0
                try clear c9b1
                try clear c10
                try clear c10b0
                try clear c10b1
                try clear c11
                try clear c13
                try clear c15
                try clear c17
                try clear c18
                try clear c20
                try clear c20b0
                try clear c21
                try clear c21b0
                try clear c22
                try clear c22b0
                try clear c24
                try clear c26
                try clear c27
                try clear c31
                try clear c32
                try clear c35
                try clear p37
                try clear q37
                try clear hx37
                try clear c38
                try clear p38
                try clear q38
                try clear hx38
                try clear c40
                try clear c41
                try clear c42
                try clear c47
                try clear c50
                try clear c52
                try clear c52b0
                try clear c54
                try clear c54b0
                try clear c54b1
                try clear c55
                try clear c55b0
                try clear c55b1
                try clear c57
                try clear c59
                try clear q59
                try clear c62
                try clear q62
                try clear c64
                try clear c64b0
                try clear p64
                try clear c65
                try clear c65b0
                try clear c67
                try clear c68
                try clear hcz12_0
                try clear hcz12_1
                try clear hcz12_2
                try clear hcz14_0
                try clear hcz14_1
                try clear hcz14_2
                try clear hcz16_0
                try clear hcz16_1
                try clear hcz16_2
                try clear hcz19_0
                try clear hcz19_1
                try clear hcz19_2
                try clear hcz28_0
                try clear hcz28_1
                try clear hcz33_0
                try clear hcz33_1
                try clear hcz36_0
                try clear hcz36_1
                try clear hcz36_2
                try clear hcz42_0
                try clear hcz42_1
                try clear hcz42_2
                try clear hcz44_0
                try clear hcz44_1
                try clear hcz44_2
                try clear hcz46_0
                try clear hcz46_1
                try clear hcz46_2
                try clear hcz48_0
                try clear hcz48_1
                try clear hcz48_2
                try clear hcz50_0
                try clear hcz50_1
                try clear hcz50_2
                try clear hcz69_0
                try clear hcz69_1
                try clear hfz12_0
                try clear hfz12_1
                try clear hfz12_2
                try clear hfz14_0
                try clear hfz14_1
                try clear hfz14_2
                try clear hfz16_0
                try clear hfz16_1
                try clear hfz16_2
                try clear hfz19_0
                try clear hfz19_1
                try clear hfz19_2
                try clear hfz28_0
                try clear hfz28_1
                try clear hfz33_0
                try clear hfz33_1
                try clear hfz36_0
                try clear hfz36_1
                try clear hfz36_2
                try clear hfz42_0
                try clear hfz42_1
                try clear hfz42_2
                try clear hfz44_0
                try clear hfz44_1
                try clear hfz44_2
                try clear hfz46_0
                try clear hfz46_1
                try clear hfz46_2
                try clear hfz48_0
                try clear hfz48_1
                try clear hfz48_2
                try clear hfz50_0
                try clear hfz50_1
                try clear hfz50_2
                try clear hfz69_0
                try clear hfz69_1
                try clear hx376_0
                try clear hx376_1
                try clear hx389_0
                try clear hx389_1
                try clear p2
                try clear p3
                try clear p37
                try clear p376
                try clear p389
                try clear p6
                try clear q059
                try clear q062
                try clear q3
                try clear q37
                try clear q376
                try clear q389
                try clear q59
                try clear q62
                obtain ⟨x16_4, x391000_4, x391001_4, rfl, HA, HK4, BK373, BK374, BK390, HB⟩ := hrel
                cases gk with
                | zero => exact absurd HA.out (by simp [medlarref23_Trace.l2])
                | succ k4 =>
                 have H := HA.out
                 clear HA
                 simp only [medlarref23_Trace.l2] at H
                 replace H := bind_eq_some_iff.mp H
                 obtain ⟨⟨t391, t394⟩, A700, H⟩ := H
                 replace H : (if t394 = 0 then (if 1 ≤ (t391.length : Int) then ((medlarref23_Ask.f k4 a0 a3_0 l3_1 l3_2 x16_4 (t391.take 1)).bind fun bt399 => (if 1 < (t391.length : Int) then (if bt399.1 = true then (if 0 < (t391.length : Int) then (medlarref23_Trace.l2 k4 a0 a1 (wrap64 (x16_4 + 1)) a3_0 l3_1 l3_2 ((rd_T24 t391 0).f0) ((rd_T24 t391 0).f1)) else (none)) else (medlarref23_Trace.l2 k4 a0 a1 (wrap64 (x16_4 + 1)) a3_0 l3_1 l3_2 ((rd_T24 t391 1).f0) ((rd_T24 t391 1).f1))) else (none))) else (none)) else ((medlarref23_only.f k4 a0 x391000_4 x391001_4).bind fun bt403 => (some (true, bt403.1, x16_4, 0)))) = some (r1, r2, r3, r4) := H
                 have A70 := ak_ A700
                 clear A700
                 by_cases c71 : t394 = 0
                 ·rw [if_pos c71] at H
                  have c71b0 : (t394 == 0) = true := beq_iff_eq.mpr c71
                  have c71b1 : (t394 != 0) = false := bne_eq_false_iff_eq.mpr c71
                  clear c71
                  by_cases c72 : 1 ≤ (t391.length : Int)
                  ·rw [if_pos c72] at H
                   have c72b0 := eq_true c72
                   have c72b1 := decide_eq_true c72
                   clear c72
                   obtain ⟨y395, hy395⟩ : ∃ y_ : List (S24), y_ = (t391.take 1) := ⟨_, rfl⟩
                   replace H : ((medlarref23_Ask.f k4 a0 a3_0 l3_1 l3_2 x16_4 y395).bind fun bt399 => (if 1 < (t391.length : Int) then (if bt399.1 = true then (if 0 < (t391.length : Int) then (medlarref23_Trace.l2 k4 a0 a1 (wrap64 (x16_4 + 1)) a3_0 l3_1 l3_2 ((rd_T24 t391 0).f0) ((rd_T24 t391 0).f1)) else (none)) else (medlarref23_Trace.l2 k4 a0 a1 (wrap64 (x16_4 + 1)) a3_0 l3_1 l3_2 ((rd_T24 t391 1).f0) ((rd_T24 t391 1).f1))) else (none))) = some (r1, r2, r3, r4) := by first | (rw [hy395]; with_reducible exact H) | (have H2_ := (Option.bind_some _ _).symm.trans H; rw [hy395]; with_reducible exact H2_) | (have H2_ := (Option.bind_some _ _).symm.trans H; with_reducible exact H2_) | with_reducible exact H | (rw [hy395]; exact H) | exact H
                   have Ny395 := ak_ hy395
                   clear hy395
                   replace H := bind_eq_some_iff.mp H
                   obtain ⟨⟨t399, t400⟩, A730, H⟩ := H
                   replace H : (if 1 < (t391.length : Int) then (if t399 = true then (if 0 < (t391.length : Int) then (medlarref23_Trace.l2 k4 a0 a1 (wrap64 (x16_4 + 1)) a3_0 l3_1 l3_2 ((rd_T24 t391 0).f0) ((rd_T24 t391 0).f1)) else (none)) else (medlarref23_Trace.l2 k4 a0 a1 (wrap64 (x16_4 + 1)) a3_0 l3_1 l3_2 ((rd_T24 t391 1).f0) ((rd_T24 t391 1).f1))) else (none)) = some (r1, r2, r3, r4) := H
                   have A73 := ak_ A730
                   clear A730
                   by_cases c74 : 1 < (t391.length : Int)
                   ·rw [if_pos c74] at H
                    have c74b0 := decide_eq_true c74
                    have c74b1 : decide (1 < t391.length) = true := decide_eq_true (by omega)
                    clear c74
                    by_cases c75 : t399 = true
                    ·subst c75
                     have H1 : (if 0 < (t391.length : Int) then (medlarref23_Trace.l2 k4 a0 a1 (wrap64 (x16_4 + 1)) a3_0 l3_1 l3_2 ((rd_T24 t391 0).f0) ((rd_T24 t391 0).f1)) else (none)) = some (r1, r2, r3, r4) := by rw [if_pos rfl] at H; exact H
                     clear H
                     have H := H1
                     clear H1
                     by_cases c76 : 0 < (t391.length : Int)
                     ·rw [if_pos c76] at H
                      have c76b0 := decide_eq_true c76
                      have c76b1 : decide (0 < t391.length) = true := decide_eq_true (by omega)
                      clear c76
                      have H' := ak_ H
                      clear H
                      have hnb77 := NB390_373.out
                      have hnc77 := NB373_390.out
                      have hnb78 := NB390_374.out
                      have hnc78 := NB374_390.out
                      have hcz79_0 : wr.cell? ⟨gb390, 0, none⟩ = some (.int .u64 x391000_4) := (kc_ BK390.out 0).trans rfl
                      have hcz79_1 : wr.cell? ⟨gb390, 1, none⟩ = some (.int .u64 x391001_4) := (kc_ BK390.out 1).trans rfl
                      have hfz79_0 := kf_ BK390.out 0
                      have hfz79_1 := kf_ BK390.out 1
                      try go_wp2_with (first | ((with_reducible refine gate_callee (f := 22) rfl ?_); refine goesL_ (some 109) rfl rfl func22 (by kernel_rfl) rfl #[.int .i64 a0, .int .i64 a1, .agg #[.int .u64 x391000_4, .int .u64 x391001_4]] rfl (by (try simp only [map_toArray, map_cons, map_nil]); first | done | rfl) ?_; (with_reducible refine (medlarref23_Halves.calls k4 a0 a1 x391000_4 x391001_4 t391 t394 _ A70.out).mono ?_); rintro e w80 ⟨v392, rfl, ho0, hb⟩; refine ⟨_, rfl, ?_⟩; have n0_ := ak_ (Kd.R_lower (Kd.R_newB ho0 (g := gb390) (o := .cells #[.int .u64 x391000_4, .int .u64 x391001_4] 24 (0, 0)) (kl_ BK390)) (bz_ (by repeat (first | (with_reducible first | exact HB.out | apply ba_ | apply bn_ | apply bd_ | refine below_set ?_ GE373.out | refine below_set ?_ GE374.out | refine below_set ?_ GE390.out) | exact HB.out)))); have n1_ := ak_ (kb_ (g := gb373) (o := .cells #[.bool a3_0, .slice A3_1 l3_1.length c3_1, .slice A3_2 l3_2.length c3_2] 42 (0, 0)) (kl_ BK373) hb); have n2_ := ak_ (kb_ (g := gb374) (o := .cells #[.bool x375000_2, .int .u64 x375001_2, .int .i64 x375002_2] 48 (0, 0)) (kl_ BK374) hb); have n3_ := ak_ (kb_ (g := gb390) (o := .cells #[.int .u64 x391000_4, .int .u64 x391001_4] 24 (0, 0)) (kl_ BK390) hb); have n4_ := ak_ (bt_ (by repeat (first | (with_reducible first | exact HB.out | apply ba_ | apply bn_ | apply bd_ | refine below_set ?_ GE373.out | refine below_set ?_ GE374.out | refine below_set ?_ GE390.out) | exact HB.out)) hb); clear BK373; clear BK374; clear BK390; clear HB; have HO393 := n0_; have BK373 := n1_; have BK374 := n2_; have BK390 := n3_; have HB := n4_; clear n0_ n1_ n2_ n3_ n4_; (try clear hb); (try clear hk); (try clear ho0)))
                      have n0_ := ak_ (Kd.R_drew HO393.out)
                      have n1_ := ak_ (kd_ BK373.out)
                      have n2_ := ak_ (kd_ BK374.out)
                      have n3_ := ak_ (kd_ BK390.out)
                      have n4_ := ak_ (bd_ HB.out)
                      clear HO393
                      clear BK373
                      clear BK374
                      clear BK390
                      clear HB
                      have HO393 := n0_
                      have BK373 := n1_
                      have BK374 := n2_
                      have BK390 := n3_
                      have HB := n4_
                      clear n0_ n1_ n2_ n3_ n4_
                      obtain ⟨Ao83, co83, eo83⟩ := Kd.R_slice HO393.out
                      (first | subst eo83 | (injection eo83 with f1_ f2_ f3_; have f4_ := f1_.symm; have f5_ := f3_.symm; clear f1_ f2_ f3_; subst f4_; subst f5_))
                      have q82 : (1 : Int) ≤ ((t391.length : Int) : Int) := od_ (by first | (with_reducible assumption) | assumption)
                      obtain ⟨i082, hi082, _, hsz82, _⟩ := info_parts info24
                      have hroom82 : t391.length ≤ co83 := (Kd.R_reads' HO393.out).2.1
                      have hC82 : Kd.C k24 _ Ao83 t391.length t391 := (Kd.R_reads' HO393.out).2.2
                      have hcut82 := cut_to (P := Try.prog) 26 24 .i64 underlying26 hi082 Ao83 t391.length co83 1 (by omega) q82 hroom82
                      have hr82 := Kd.C_take (m := 1) hC82 (by omega)
                      have hy82 : y395.length = (1 : Int).toNat := (by rw [Ny395.out, List.length_take]; omega)
                      rw [← Ny395.out] at hr82
                      rw [← hy82] at hcut82
                      have HR398 := ak_ hr82
                      have HC398 := ak_ (show y395.length ≤ co83 from by omega)
                      clear hr82 hC82 hroom82 hi082 hsz82
                      have KY82 := ak_ hy82
                      clear hy82
                      have KL82 := ak_ (show 1 ≤ t391.length from by omega)
                      replace q82 := eq_true q82
                      refine start_ (n := 11) (S := fun w' => w'.cell? ⟨gb373, 0, none⟩ = some (.bool a3_0) ∧ w'.cell? ⟨gb373, 1, none⟩ = some (.slice A3_1 l3_1.length c3_1) ∧ w'.cell? ⟨gb373, 2, none⟩ = some (.slice A3_2 l3_2.length c3_2)) (ds := []) #[false, false, false, false, false, false, false, false, false, false, false] (by kernel_rfl) rfl rfl ⟨(kc_ BK373.out 0).trans rfl, (kc_ BK373.out 1).trans rfl, (kc_ BK373.out 2).trans rfl⟩ (fun hHeld => ?_); refine with_tabW medlarref23_Trace.tab28 medlarref23_Trace.bits28 (fun HT_ HW_ => ?_)
                      generalize w80.drew = w81 at HO393 BK373 BK374 BK390 HB HR398 hHeld ⊢
                      refine pure_ (i := 0) (N := some 115) (v := ?_) (a' := ?_) #[true, false, false, false, false, false, false, false, false, false, false] rfl rfl (any_of HT_.out (by kernel_rfl)) (fun _ _ _ h => h) (Or.inl ⟨by rfl, ?_⟩) ?_ ?_; rotate_left; (intro w'; go_simp; with_reducible rfl); rotate_left; (simp only [Act.put, setIfInBounds_toArray, set_cons_zero, set_cons_succ, i64_w, i32_w]; rfl)
                      refine pure_ (i := 2) (N := some 117) (v := ?_) (a' := ?_) #[true, false, true, false, false, false, false, false, false, false, false] rfl rfl (any_of HT_.out (by kernel_rfl)) (fun _ _ _ h => h) (Or.inl ⟨by rfl, ?_⟩) ?_ ?_; rotate_left; (intro w'; go_simp; with_reducible rfl); rotate_left; (simp only [Act.put, setIfInBounds_toArray, set_cons_zero, set_cons_succ, i64_w, i32_w]; rfl)
                      refine pure_ (i := 3) (N := some 118) (v := ?_) (a' := ?_) #[true, false, true, true, false, false, false, false, false, false, false] rfl rfl (any_of HT_.out (by kernel_rfl)) (fun _ _ _ h => h) (Or.inl ⟨by rfl, ?_⟩) ?_ ?_; rotate_left; (intro w'; go_simp; with_reducible rfl); rotate_left; (simp only [Act.put, setIfInBounds_toArray, set_cons_zero, set_cons_succ, i64_w, i32_w]; rfl)
                      refine pure_ (i := 4) (N := some 119) (v := ?_) (a' := ?_) #[true, false, true, true, true, false, false, false, false, false, false] rfl rfl (any_of HT_.out (by kernel_rfl)) (fun _ _ _ h => h) (Or.inl ⟨by rfl, ?_⟩) ?_ ?_; rotate_left; (intro w'; go_simp; with_reducible rfl); rotate_left; (simp only [Act.put, setIfInBounds_toArray, set_cons_zero, set_cons_succ, i64_w, i32_w]; rfl)
                      refine take_ (i := 1) (N := some 116) (v := ?_) (a' := ?_) #[true, true, true, true, true, false, false, false, false, false, false] rfl rfl (take_ofW HT_.out HW_.out (by kernel_rfl)) (fun _ _ _ h => h) (Or.inl ⟨by rfl, ?_⟩) hHeld ?_ ?_
                      rotate_left
                      ·rintro w' ⟨s0, s1, s2⟩
                       go_simp
                       with_reducible rfl
                      rotate_left
                      ·simp only [Act.put, setIfInBounds_toArray, set_cons_zero, set_cons_succ, i64_w, i32_w]
                       rfl
                      refine one_ (i := 5) (N := some 120) #[true, true, true, true, true, true, false, false, false, false, false] rfl rfl (one_of HT_.out (by kernel_rfl)) (by decide) (fun K hK => ?_)
                      refine goes_ func17 (by kernel_rfl) rfl #[.int .i64 a0, .agg #[.bool a3_0, .slice A3_1 l3_1.length c3_1, .slice A3_2 l3_2.length c3_2], .int .i64 x16_4, .slice Ao83 y395.length co83] (by rfl) rfl rfl (by (try simp only [map_toArray, map_cons, map_nil]); first | done | rfl | (simp only [length_drop, length_take]; rfl)) ?_
                      with_reducible refine (medlarref23_Ask.calls k4 a0 a3_0 _ _ l3_1 _ _ l3_2 x16_4 _ _ y395 true t400 _ ?side1 ?side2 ?side3 ?side4 ?side5 ?side6 A73.out).mono ?_
                      (case side1 => repeat (first | exact (Kd.C_below HR3_1.out HB.out) | (with_reducible refine Kd.C_alloc ?_ _) | (with_reducible refine Kd.C_drewN ?_ _) | (with_reducible refine Kd.C_drew ?_)))
                      (case side2 => exact HC3_1.out)
                      (case side3 => repeat (first | exact (Kd.C_below HR3_2.out HB.out) | (with_reducible refine Kd.C_alloc ?_ _) | (with_reducible refine Kd.C_drewN ?_ _) | (with_reducible refine Kd.C_drew ?_)))
                      (case side4 => exact HC3_2.out)
                      (case side5 => repeat (first | exact (by repeat (first | (with_reducible exact HR398.out) | (with_reducible refine Kd.C_alloc ?_ _) | (with_reducible refine Kd.C_drewN ?_ _) | (with_reducible refine Kd.C_drew ?_) | exact HR398.out)) | (with_reducible refine Kd.C_alloc ?_ _) | (with_reducible refine Kd.C_drewN ?_ _) | (with_reducible refine Kd.C_drew ?_)))
                      (case side6 => exact HC398.out)
                      rintro e w84 ⟨rfl, hb⟩
                      refine ⟨_, rfl, ?_⟩
                      have n0_ := ak_ (Kd.R_below (rl_ HO393) hb)
                      have n1_ := ak_ (kb_ (g := gb373) (o := .cells #[.bool a3_0, .slice A3_1 l3_1.length c3_1, .slice A3_2 l3_2.length c3_2] 42 (0, 0)) (kl_ BK373) hb)
                      have n2_ := ak_ (kb_ (g := gb374) (o := .cells #[.bool x375000_2, .int .u64 x375001_2, .int .i64 x375002_2] 48 (0, 0)) (kl_ BK374) hb)
                      have n3_ := ak_ (kb_ (g := gb390) (o := .cells #[.int .u64 x391000_4, .int .u64 x391001_4] 24 (0, 0)) (kl_ BK390) hb)
                      have n4_ := ak_ (Kd.C_below (by repeat (first | (with_reducible exact HR398.out) | (with_reducible refine Kd.C_alloc ?_ _) | (with_reducible refine Kd.C_drewN ?_ _) | (with_reducible refine Kd.C_drew ?_) | exact HR398.out)) hb)
                      have n5_ := ak_ (bt_ (by repeat (first | (with_reducible first | exact HB.out | apply ba_ | apply bn_ | apply bd_ | refine below_set ?_ GE373.out | refine below_set ?_ GE374.out | refine below_set ?_ GE390.out) | exact HB.out)) hb)
                      clear HO393
                      clear BK373
                      clear BK374
                      clear BK390
                      clear HR398
                      clear HB
                      have HO393 := n0_
                      have BK373 := n1_
                      have BK374 := n2_
                      have BK390 := n3_
                      have HR398 := n4_
                      have HB := n5_
                      clear n0_ n1_ n2_ n3_ n4_ n5_
                      (try clear hb)
                      (try clear hb2)
                      (try clear hk)
                      (try clear hi)
                      refine hK.out _ _ ⟨(kc_ BK373.out 0).trans rfl, (kc_ BK373.out 1).trans rfl, (kc_ BK373.out 2).trans rfl⟩ (fun hHeld => ?_)
                      clear hK K
                      refine norm_ (a' := ?_) ?_ ?_
                      rotate_left
                      ·show Act.put _ (some 120) _ = _
                       simp only [Act.put, setIfInBounds_toArray, set_cons_zero, set_cons_succ, i64_w, i32_w]
                       rfl
                      refine pure_ (i := 6) (N := some 114) (v := ?_) (a' := ?_) #[true, true, true, true, true, true, true, false, false, false, false] rfl rfl (any_of HT_.out (by kernel_rfl)) (fun _ _ _ h => h) (Or.inl ⟨by rfl, ?_⟩) ?_ ?_; rotate_left; (intro w'; go_simp; with_reducible rfl); rotate_left; (simp only [Act.put, setIfInBounds_toArray, set_cons_zero, set_cons_succ, i64_w, i32_w]; rfl)
                      refine pure_ (i := 7) (N := some 121) (v := ?_) (a' := ?_) #[true, true, true, true, true, true, true, true, false, false, false] rfl rfl (any_of HT_.out (by kernel_rfl)) (fun _ _ _ h => h) (Or.inl ⟨by rfl, ?_⟩) ?_ ?_; rotate_left; (intro w'; go_simp; with_reducible rfl); rotate_left; (simp only [Act.put, setIfInBounds_toArray, set_cons_zero, set_cons_succ, i64_w, i32_w]; rfl)
                      refine pure_ (i := 8) (N := some 122) (v := ?_) (a' := ?_) #[true, true, true, true, true, true, true, true, true, false, false] rfl rfl (any_of HT_.out (by kernel_rfl)) (fun _ _ _ h => h) (Or.inl ⟨by rfl, ?_⟩) ?_ ?_; rotate_left; (intro w'; go_simp; with_reducible rfl); rotate_left; (simp only [Act.put, setIfInBounds_toArray, set_cons_zero, set_cons_succ, i64_w, i32_w]; rfl)
                      refine pure_ (i := 9) (N := some 25) (v := ?_) (a' := ?_) #[true, true, true, true, true, true, true, true, true, true, false] rfl rfl (any_of HT_.out (by kernel_rfl)) (fun _ _ _ h => h) (Or.inl ⟨by rfl, ?_⟩) ?_ ?_; rotate_left; (intro w'; go_simp; with_reducible rfl); rotate_left; (simp only [Act.put, setIfInBounds_toArray, set_cons_zero, set_cons_succ, i64_w, i32_w]; rfl)
                      refine pure_ (i := 10) (N := some 26) (v := ?_) (a' := ?_) #[true, true, true, true, true, true, true, true, true, true, true] rfl rfl (any_of HT_.out (by kernel_rfl)) (fun _ _ _ h => h) (Or.inl ⟨by rfl, ?_⟩) ?_ ?_; rotate_left; (intro w'; go_simp; with_reducible rfl); rotate_left; (simp only [Act.put, setIfInBounds_toArray, set_cons_zero, set_cons_succ, i64_w, i32_w]; rfl)
                      refine done_ (done_of HT_.out (by kernel_rfl)) ?_
                      have p401 : 0 ≤ (1 : Int) := (by omega)
                      have q401 : 1 < (t391.length : Int) := od_ (by first | (with_reducible assumption) | assumption)
                      obtain ⟨ad401, e401, hx401_0, hx401_1⟩ := at_T24 (Kd.R_reads' HO393.out).2.2 1 p401 q401
                      cases e401
                      (try simp only [show (1 : Int).toNat = 1 from rfl, Nat.reduceMul, Nat.reduceEqDiff, Go.Addr.add, ↓reduceIte] at hx401_0)
                      (try simp only [show (1 : Int).toNat = 1 from rfl, Nat.reduceMul, Nat.reduceEqDiff, Go.Addr.add, ↓reduceIte] at hx401_1)
                      have qi401 : (1 < t391.length) = True := eq_true (by omega)
                      (try rw [show ((1 : Int)).toNat = 1 from rfl] at hx401_0)
                      (try rw [show 1 * 2 = 2 from rfl] at hx401_0)
                      (try rw [show ((1 : Int)).toNat = 1 from rfl] at hx401_1)
                      (try rw [show 1 * 2 = 2 from rfl] at hx401_1)
                      replace p401 := eq_true p401
                      replace q401 := eq_true q401
                      have hcz85_0 : w84.cell? ⟨gb390, 0, none⟩ = some (.int .u64 x391000_4) := (kc_ BK390.out 0).trans rfl
                      have hcz85_1 : w84.cell? ⟨gb390, 1, none⟩ = some (.int .u64 x391001_4) := (kc_ BK390.out 1).trans rfl
                      have hfz85_0 := kf_ BK390.out 0
                      have hfz85_1 := kf_ BK390.out 1
                      have p402 : 0 ≤ (0 : Int) := (by omega)
                      have q402 : 0 < (t391.length : Int) := od_ (by first | (with_reducible assumption) | assumption)
                      obtain ⟨ad402, e402, hx402_0, hx402_1⟩ := at_T24 (Kd.R_reads' HO393.out).2.2 0 p402 q402
                      obtain rfl : ad401 = ad402 := (by injection e402)
                      have qi402 : (0 < t391.length) = True := eq_true (by omega)
                      (try rw [show ((0 : Int)).toNat = 0 from rfl] at hx402_0)
                      (try rw [show 0 * 2 = 0 from rfl] at hx402_0)
                      (try rw [Addr.add_zero'] at hx402_0)
                      (try rw [show ((0 : Int)).toNat = 0 from rfl] at hx402_1)
                      (try rw [show 0 * 2 = 0 from rfl] at hx402_1)
                      (try rw [Addr.add_zero'] at hx402_1)
                      have hn402_0 : ad401.block ≠ gb390 := Kd.own_blk (Kd.R_away HO393.out (fun _ hk => by first | exact hk.2 | exact hk.1.2 | exact hk.1.1.2 | exact hk))
                      have hn402_1 : ad401.block ≠ gb390 := Kd.own_blk (Kd.R_away HO393.out (fun _ hk => by first | exact hk.2 | exact hk.1.2 | exact hk.1.1.2 | exact hk))
                      replace hx402_0 := (cell_far (p := ⟨gb390, 0, none⟩) (by first | (rw [add_block]; exact hn402_0) | (show (Addr.add _ _).block ≠ _; rw [add_block]; exact hn402_0) | exact hn402_0) (.int .u64 ((rd_T24 t391 1).f0))).trans hx402_0
                      replace hx402_1 := (cell_far (p := ⟨gb390, 0, none⟩) (by first | (rw [add_block]; exact hn402_0) | (show (Addr.add _ _).block ≠ _; rw [add_block]; exact hn402_0) | exact hn402_0) (.int .u64 ((rd_T24 t391 1).f0))).trans hx402_1
                      replace hx402_0 := (cell_far (p := ⟨gb390, 1, none⟩) (by first | (rw [add_block]; exact hn402_1) | (show (Addr.add _ _).block ≠ _; rw [add_block]; exact hn402_1) | exact hn402_1) (.int .u64 ((rd_T24 t391 1).f1))).trans hx402_0
                      replace hx402_1 := (cell_far (p := ⟨gb390, 1, none⟩) (by first | (rw [add_block]; exact hn402_1) | (show (Addr.add _ _).block ≠ _; rw [add_block]; exact hn402_1) | exact hn402_1) (.int .u64 ((rd_T24 t391 1).f1))).trans hx402_1
                      clear hn402_0
                      clear hn402_1
                      replace p402 := eq_true p402
                      replace q402 := eq_true q402
                      try go_wp2
                      go_roundg k4
                      case measure => have := HJ4.out; have := HK2.out; have := HK3.out; have := HK4.out; omega
                      case rel => exact ⟨(wrap64 (x16_4 + 1)), ((rd_T24 t391 0).f0), ((rd_T24 t391 0).f1), (by first | rfl | (simp; done) | (simp [*]; done)), H', ⟨by have := HJ4.out; have := HK2.out; have := HK3.out; have := HK4.out; omega⟩, ⟨by (with_reducible repeat (first | refine kn_ ?_ _ | refine kd_ ?_ | refine ka_ ?_ _)); refine blk_far ?_ NB373_390.out _; (with_reducible repeat (first | refine kn_ ?_ _ | refine kd_ ?_ | refine ka_ ?_ _)); refine blk_far ?_ NB373_390.out _; (with_reducible repeat (first | refine kn_ ?_ _ | refine kd_ ?_ | refine ka_ ?_ _)); refine blk_far ?_ NB373_390.out _; (with_reducible repeat (first | refine kn_ ?_ _ | refine kd_ ?_ | refine ka_ ?_ _)); refine blk_far ?_ NB373_390.out _; (with_reducible repeat (first | refine kn_ ?_ _ | refine kd_ ?_ | refine ka_ ?_ _)); exact BK373.out⟩, ⟨by (with_reducible repeat (first | refine kn_ ?_ _ | refine kd_ ?_ | refine ka_ ?_ _)); refine blk_far ?_ NB374_390.out _; (with_reducible repeat (first | refine kn_ ?_ _ | refine kd_ ?_ | refine ka_ ?_ _)); refine blk_far ?_ NB374_390.out _; (with_reducible repeat (first | refine kn_ ?_ _ | refine kd_ ?_ | refine ka_ ?_ _)); refine blk_far ?_ NB374_390.out _; (with_reducible repeat (first | refine kn_ ?_ _ | refine kd_ ?_ | refine ka_ ?_ _)); refine blk_far ?_ NB374_390.out _; (with_reducible repeat (first | refine kn_ ?_ _ | refine kd_ ?_ | refine ka_ ?_ _)); exact BK374.out⟩, ⟨by (with_reducible repeat (first | refine kn_ ?_ _ | refine kd_ ?_ | refine ka_ ?_ _)); refine blk_put (cs := #[.int .u64 ((rd_T24 t391 0).f0), .int .u64 ((rd_T24 t391 1).f1)]) ?_ 1 _ rfl; (with_reducible repeat (first | refine kn_ ?_ _ | refine kd_ ?_ | refine ka_ ?_ _)); refine blk_put (cs := #[.int .u64 ((rd_T24 t391 1).f0), .int .u64 ((rd_T24 t391 1).f1)]) ?_ 0 _ rfl; (with_reducible repeat (first | refine kn_ ?_ _ | refine kd_ ?_ | refine ka_ ?_ _)); refine blk_put (cs := #[.int .u64 ((rd_T24 t391 1).f0), .int .u64 x391001_4]) ?_ 1 _ rfl; (with_reducible repeat (first | refine kn_ ?_ _ | refine kd_ ?_ | refine ka_ ?_ _)); refine blk_put (cs := #[.int .u64 x391000_4, .int .u64 x391001_4]) ?_ 0 _ rfl; (with_reducible repeat (first | refine kn_ ?_ _ | refine kd_ ?_ | refine ka_ ?_ _)); exact BK390.out⟩, ⟨by repeat (first | (with_reducible first | exact HB.out | apply ba_ | apply bn_ | apply bd_ | refine below_set ?_ GE373.out | refine below_set ?_ GE374.out | refine below_set ?_ GE390.out) | exact HB.out)⟩⟩
                     ·rw [if_neg c76] at H
                      exact absurd H (by simp)
                    ·replace c75 := Bool.eq_false_iff.mpr c75
                     subst c75
                     have H1 : (medlarref23_Trace.l2 k4 a0 a1 (wrap64 (x16_4 + 1)) a3_0 l3_1 l3_2 ((rd_T24 t391 1).f0) ((rd_T24 t391 1).f1)) = some (r1, r2, r3, r4) := by rw [if_neg (show ¬ (false = true) by decide)] at H; exact H
                     clear H
                     have H := H1
                     clear H1
                     have H' := ak_ H
                     clear H
                     have hnb86 := NB390_373.out
                     have hnc86 := NB373_390.out
                     have hnb87 := NB390_374.out
                     have hnc87 := NB374_390.out
                     have hcz88_0 : wr.cell? ⟨gb390, 0, none⟩ = some (.int .u64 x391000_4) := (kc_ BK390.out 0).trans rfl
                     have hcz88_1 : wr.cell? ⟨gb390, 1, none⟩ = some (.int .u64 x391001_4) := (kc_ BK390.out 1).trans rfl
                     have hfz88_0 := kf_ BK390.out 0
                     have hfz88_1 := kf_ BK390.out 1
                     try go_wp2_with (first | ((with_reducible refine gate_callee (f := 22) rfl ?_); refine goesL_ (some 109) rfl rfl func22 (by kernel_rfl) rfl #[.int .i64 a0, .int .i64 a1, .agg #[.int .u64 x391000_4, .int .u64 x391001_4]] rfl (by (try simp only [map_toArray, map_cons, map_nil]); first | done | rfl) ?_; (with_reducible refine (medlarref23_Halves.calls k4 a0 a1 x391000_4 x391001_4 t391 t394 _ A70.out).mono ?_); rintro e w89 ⟨v392, rfl, ho0, hb⟩; refine ⟨_, rfl, ?_⟩; have n0_ := ak_ (Kd.R_lower (Kd.R_newB ho0 (g := gb390) (o := .cells #[.int .u64 x391000_4, .int .u64 x391001_4] 24 (0, 0)) (kl_ BK390)) (bz_ (by repeat (first | (with_reducible first | exact HB.out | apply ba_ | apply bn_ | apply bd_ | refine below_set ?_ GE373.out | refine below_set ?_ GE374.out | refine below_set ?_ GE390.out) | exact HB.out)))); have n1_ := ak_ (kb_ (g := gb373) (o := .cells #[.bool a3_0, .slice A3_1 l3_1.length c3_1, .slice A3_2 l3_2.length c3_2] 42 (0, 0)) (kl_ BK373) hb); have n2_ := ak_ (kb_ (g := gb374) (o := .cells #[.bool x375000_2, .int .u64 x375001_2, .int .i64 x375002_2] 48 (0, 0)) (kl_ BK374) hb); have n3_ := ak_ (kb_ (g := gb390) (o := .cells #[.int .u64 x391000_4, .int .u64 x391001_4] 24 (0, 0)) (kl_ BK390) hb); have n4_ := ak_ (bt_ (by repeat (first | (with_reducible first | exact HB.out | apply ba_ | apply bn_ | apply bd_ | refine below_set ?_ GE373.out | refine below_set ?_ GE374.out | refine below_set ?_ GE390.out) | exact HB.out)) hb); clear BK373; clear BK374; clear BK390; clear HB; have HO393 := n0_; have BK373 := n1_; have BK374 := n2_; have BK390 := n3_; have HB := n4_; clear n0_ n1_ n2_ n3_ n4_; (try clear hb); (try clear hk); (try clear ho0)))
                     have n0_ := ak_ (Kd.R_drew HO393.out)
                     have n1_ := ak_ (kd_ BK373.out)
                     have n2_ := ak_ (kd_ BK374.out)
                     have n3_ := ak_ (kd_ BK390.out)
                     have n4_ := ak_ (bd_ HB.out)
                     clear HO393
                     clear BK373
                     clear BK374
                     clear BK390
                     clear HB
                     have HO393 := n0_
                     have BK373 := n1_
                     have BK374 := n2_
                     have BK390 := n3_
                     have HB := n4_
                     clear n0_ n1_ n2_ n3_ n4_
                     obtain ⟨Ao92, co92, eo92⟩ := Kd.R_slice HO393.out
                     (first | subst eo92 | (injection eo92 with f1_ f2_ f3_; have f4_ := f1_.symm; have f5_ := f3_.symm; clear f1_ f2_ f3_; subst f4_; subst f5_))
                     have q91 : (1 : Int) ≤ ((t391.length : Int) : Int) := od_ (by first | (with_reducible assumption) | assumption)
                     obtain ⟨i091, hi091, _, hsz91, _⟩ := info_parts info24
                     have hroom91 : t391.length ≤ co92 := (Kd.R_reads' HO393.out).2.1
                     have hC91 : Kd.C k24 _ Ao92 t391.length t391 := (Kd.R_reads' HO393.out).2.2
                     have hcut91 := cut_to (P := Try.prog) 26 24 .i64 underlying26 hi091 Ao92 t391.length co92 1 (by omega) q91 hroom91
                     have hr91 := Kd.C_take (m := 1) hC91 (by omega)
                     have hy91 : y395.length = (1 : Int).toNat := (by rw [Ny395.out, List.length_take]; omega)
                     rw [← Ny395.out] at hr91
                     rw [← hy91] at hcut91
                     have HR398 := ak_ hr91
                     have HC398 := ak_ (show y395.length ≤ co92 from by omega)
                     clear hr91 hC91 hroom91 hi091 hsz91
                     have KY91 := ak_ hy91
                     clear hy91
                     have KL91 := ak_ (show 1 ≤ t391.length from by omega)
                     replace q91 := eq_true q91
                     refine start_ (n := 11) (S := fun w' => w'.cell? ⟨gb373, 0, none⟩ = some (.bool a3_0) ∧ w'.cell? ⟨gb373, 1, none⟩ = some (.slice A3_1 l3_1.length c3_1) ∧ w'.cell? ⟨gb373, 2, none⟩ = some (.slice A3_2 l3_2.length c3_2)) (ds := []) #[false, false, false, false, false, false, false, false, false, false, false] (by kernel_rfl) rfl rfl ⟨(kc_ BK373.out 0).trans rfl, (kc_ BK373.out 1).trans rfl, (kc_ BK373.out 2).trans rfl⟩ (fun hHeld => ?_); refine with_tabW medlarref23_Trace.tab28 medlarref23_Trace.bits28 (fun HT_ HW_ => ?_)
                     generalize w89.drew = w90 at HO393 BK373 BK374 BK390 HB HR398 hHeld ⊢
                     refine pure_ (i := 0) (N := some 115) (v := ?_) (a' := ?_) #[true, false, false, false, false, false, false, false, false, false, false] rfl rfl (any_of HT_.out (by kernel_rfl)) (fun _ _ _ h => h) (Or.inl ⟨by rfl, ?_⟩) ?_ ?_; rotate_left; (intro w'; go_simp; with_reducible rfl); rotate_left; (simp only [Act.put, setIfInBounds_toArray, set_cons_zero, set_cons_succ, i64_w, i32_w]; rfl)
                     refine pure_ (i := 2) (N := some 117) (v := ?_) (a' := ?_) #[true, false, true, false, false, false, false, false, false, false, false] rfl rfl (any_of HT_.out (by kernel_rfl)) (fun _ _ _ h => h) (Or.inl ⟨by rfl, ?_⟩) ?_ ?_; rotate_left; (intro w'; go_simp; with_reducible rfl); rotate_left; (simp only [Act.put, setIfInBounds_toArray, set_cons_zero, set_cons_succ, i64_w, i32_w]; rfl)
                     refine pure_ (i := 3) (N := some 118) (v := ?_) (a' := ?_) #[true, false, true, true, false, false, false, false, false, false, false] rfl rfl (any_of HT_.out (by kernel_rfl)) (fun _ _ _ h => h) (Or.inl ⟨by rfl, ?_⟩) ?_ ?_; rotate_left; (intro w'; go_simp; with_reducible rfl); rotate_left; (simp only [Act.put, setIfInBounds_toArray, set_cons_zero, set_cons_succ, i64_w, i32_w]; rfl)
                     refine pure_ (i := 4) (N := some 119) (v := ?_) (a' := ?_) #[true, false, true, true, true, false, false, false, false, false, false] rfl rfl (any_of HT_.out (by kernel_rfl)) (fun _ _ _ h => h) (Or.inl ⟨by rfl, ?_⟩) ?_ ?_; rotate_left; (intro w'; go_simp; with_reducible rfl); rotate_left; (simp only [Act.put, setIfInBounds_toArray, set_cons_zero, set_cons_succ, i64_w, i32_w]; rfl)
                     refine take_ (i := 1) (N := some 116) (v := ?_) (a' := ?_) #[true, true, true, true, true, false, false, false, false, false, false] rfl rfl (take_ofW HT_.out HW_.out (by kernel_rfl)) (fun _ _ _ h => h) (Or.inl ⟨by rfl, ?_⟩) hHeld ?_ ?_
                     rotate_left
                     ·rintro w' ⟨s0, s1, s2⟩
                      go_simp
                      with_reducible rfl
                     rotate_left
                     ·simp only [Act.put, setIfInBounds_toArray, set_cons_zero, set_cons_succ, i64_w, i32_w]
                      rfl
                     refine one_ (i := 5) (N := some 120) #[true, true, true, true, true, true, false, false, false, false, false] rfl rfl (one_of HT_.out (by kernel_rfl)) (by decide) (fun K hK => ?_)
                     refine goes_ func17 (by kernel_rfl) rfl #[.int .i64 a0, .agg #[.bool a3_0, .slice A3_1 l3_1.length c3_1, .slice A3_2 l3_2.length c3_2], .int .i64 x16_4, .slice Ao92 y395.length co92] (by rfl) rfl rfl (by (try simp only [map_toArray, map_cons, map_nil]); first | done | rfl | (simp only [length_drop, length_take]; rfl)) ?_
                     with_reducible refine (medlarref23_Ask.calls k4 a0 a3_0 _ _ l3_1 _ _ l3_2 x16_4 _ _ y395 false t400 _ ?side1 ?side2 ?side3 ?side4 ?side5 ?side6 A73.out).mono ?_
                     (case side1 => repeat (first | exact (Kd.C_below HR3_1.out HB.out) | (with_reducible refine Kd.C_alloc ?_ _) | (with_reducible refine Kd.C_drewN ?_ _) | (with_reducible refine Kd.C_drew ?_)))
                     (case side2 => exact HC3_1.out)
                     (case side3 => repeat (first | exact (Kd.C_below HR3_2.out HB.out) | (with_reducible refine Kd.C_alloc ?_ _) | (with_reducible refine Kd.C_drewN ?_ _) | (with_reducible refine Kd.C_drew ?_)))
                     (case side4 => exact HC3_2.out)
                     (case side5 => repeat (first | exact (by repeat (first | (with_reducible exact HR398.out) | (with_reducible refine Kd.C_alloc ?_ _) | (with_reducible refine Kd.C_drewN ?_ _) | (with_reducible refine Kd.C_drew ?_) | exact HR398.out)) | (with_reducible refine Kd.C_alloc ?_ _) | (with_reducible refine Kd.C_drewN ?_ _) | (with_reducible refine Kd.C_drew ?_)))
                     (case side6 => exact HC398.out)
                     rintro e w93 ⟨rfl, hb⟩
                     refine ⟨_, rfl, ?_⟩
                     have n0_ := ak_ (Kd.R_below (rl_ HO393) hb)
                     have n1_ := ak_ (kb_ (g := gb373) (o := .cells #[.bool a3_0, .slice A3_1 l3_1.length c3_1, .slice A3_2 l3_2.length c3_2] 42 (0, 0)) (kl_ BK373) hb)
                     have n2_ := ak_ (kb_ (g := gb374) (o := .cells #[.bool x375000_2, .int .u64 x375001_2, .int .i64 x375002_2] 48 (0, 0)) (kl_ BK374) hb)
                     have n3_ := ak_ (kb_ (g := gb390) (o := .cells #[.int .u64 x391000_4, .int .u64 x391001_4] 24 (0, 0)) (kl_ BK390) hb)
                     have n4_ := ak_ (Kd.C_below (by repeat (first | (with_reducible exact HR398.out) | (with_reducible refine Kd.C_alloc ?_ _) | (with_reducible refine Kd.C_drewN ?_ _) | (with_reducible refine Kd.C_drew ?_) | exact HR398.out)) hb)
                     have n5_ := ak_ (bt_ (by repeat (first | (with_reducible first | exact HB.out | apply ba_ | apply bn_ | apply bd_ | refine below_set ?_ GE373.out | refine below_set ?_ GE374.out | refine below_set ?_ GE390.out) | exact HB.out)) hb)
                     clear HO393
                     clear BK373
                     clear BK374
                     clear BK390
                     clear HR398
                     clear HB
                     have HO393 := n0_
                     have BK373 := n1_
                     have BK374 := n2_
                     have BK390 := n3_
                     have HR398 := n4_
                     have HB := n5_
                     clear n0_ n1_ n2_ n3_ n4_ n5_
                     (try clear hb)
                     (try clear hb2)
                     (try clear hk)
                     (try clear hi)
                     refine hK.out _ _ ⟨(kc_ BK373.out 0).trans rfl, (kc_ BK373.out 1).trans rfl, (kc_ BK373.out 2).trans rfl⟩ (fun hHeld => ?_)
                     clear hK K
                     refine norm_ (a' := ?_) ?_ ?_
                     rotate_left
                     ·show Act.put _ (some 120) _ = _
                      simp only [Act.put, setIfInBounds_toArray, set_cons_zero, set_cons_succ, i64_w, i32_w]
                      rfl
                     refine pure_ (i := 6) (N := some 114) (v := ?_) (a' := ?_) #[true, true, true, true, true, true, true, false, false, false, false] rfl rfl (any_of HT_.out (by kernel_rfl)) (fun _ _ _ h => h) (Or.inl ⟨by rfl, ?_⟩) ?_ ?_; rotate_left; (intro w'; go_simp; with_reducible rfl); rotate_left; (simp only [Act.put, setIfInBounds_toArray, set_cons_zero, set_cons_succ, i64_w, i32_w]; rfl)
                     refine pure_ (i := 7) (N := some 121) (v := ?_) (a' := ?_) #[true, true, true, true, true, true, true, true, false, false, false] rfl rfl (any_of HT_.out (by kernel_rfl)) (fun _ _ _ h => h) (Or.inl ⟨by rfl, ?_⟩) ?_ ?_; rotate_left; (intro w'; go_simp; with_reducible rfl); rotate_left; (simp only [Act.put, setIfInBounds_toArray, set_cons_zero, set_cons_succ, i64_w, i32_w]; rfl)
                     refine pure_ (i := 8) (N := some 122) (v := ?_) (a' := ?_) #[true, true, true, true, true, true, true, true, true, false, false] rfl rfl (any_of HT_.out (by kernel_rfl)) (fun _ _ _ h => h) (Or.inl ⟨by rfl, ?_⟩) ?_ ?_; rotate_left; (intro w'; go_simp; with_reducible rfl); rotate_left; (simp only [Act.put, setIfInBounds_toArray, set_cons_zero, set_cons_succ, i64_w, i32_w]; rfl)
                     refine pure_ (i := 9) (N := some 25) (v := ?_) (a' := ?_) #[true, true, true, true, true, true, true, true, true, true, false] rfl rfl (any_of HT_.out (by kernel_rfl)) (fun _ _ _ h => h) (Or.inl ⟨by rfl, ?_⟩) ?_ ?_; rotate_left; (intro w'; go_simp; with_reducible rfl); rotate_left; (simp only [Act.put, setIfInBounds_toArray, set_cons_zero, set_cons_succ, i64_w, i32_w]; rfl)
                     refine pure_ (i := 10) (N := some 26) (v := ?_) (a' := ?_) #[true, true, true, true, true, true, true, true, true, true, true] rfl rfl (any_of HT_.out (by kernel_rfl)) (fun _ _ _ h => h) (Or.inl ⟨by rfl, ?_⟩) ?_ ?_; rotate_left; (intro w'; go_simp; with_reducible rfl); rotate_left; (simp only [Act.put, setIfInBounds_toArray, set_cons_zero, set_cons_succ, i64_w, i32_w]; rfl)
                     refine done_ (done_of HT_.out (by kernel_rfl)) ?_
                     have p401 : 0 ≤ (1 : Int) := (by omega)
                     have q401 : 1 < (t391.length : Int) := od_ (by first | (with_reducible assumption) | assumption)
                     obtain ⟨ad401, e401, hx401_0, hx401_1⟩ := at_T24 (Kd.R_reads' HO393.out).2.2 1 p401 q401
                     cases e401
                     (try simp only [show (1 : Int).toNat = 1 from rfl, Nat.reduceMul, Nat.reduceEqDiff, Go.Addr.add, ↓reduceIte] at hx401_0)
                     (try simp only [show (1 : Int).toNat = 1 from rfl, Nat.reduceMul, Nat.reduceEqDiff, Go.Addr.add, ↓reduceIte] at hx401_1)
                     have qi401 : (1 < t391.length) = True := eq_true (by omega)
                     (try rw [show ((1 : Int)).toNat = 1 from rfl] at hx401_0)
                     (try rw [show 1 * 2 = 2 from rfl] at hx401_0)
                     (try rw [show ((1 : Int)).toNat = 1 from rfl] at hx401_1)
                     (try rw [show 1 * 2 = 2 from rfl] at hx401_1)
                     replace p401 := eq_true p401
                     replace q401 := eq_true q401
                     have hcz94_0 : w93.cell? ⟨gb390, 0, none⟩ = some (.int .u64 x391000_4) := (kc_ BK390.out 0).trans rfl
                     have hcz94_1 : w93.cell? ⟨gb390, 1, none⟩ = some (.int .u64 x391001_4) := (kc_ BK390.out 1).trans rfl
                     have hfz94_0 := kf_ BK390.out 0
                     have hfz94_1 := kf_ BK390.out 1
                     try go_wp2
                     go_roundg k4
                     case measure => have := HJ4.out; have := HK2.out; have := HK3.out; have := HK4.out; omega
                     case rel => exact ⟨(wrap64 (x16_4 + 1)), ((rd_T24 t391 1).f0), ((rd_T24 t391 1).f1), (by first | rfl | (simp; done) | (simp [*]; done)), H', ⟨by have := HJ4.out; have := HK2.out; have := HK3.out; have := HK4.out; omega⟩, ⟨by (with_reducible repeat (first | refine kn_ ?_ _ | refine kd_ ?_ | refine ka_ ?_ _)); refine blk_far ?_ NB373_390.out _; (with_reducible repeat (first | refine kn_ ?_ _ | refine kd_ ?_ | refine ka_ ?_ _)); refine blk_far ?_ NB373_390.out _; (with_reducible repeat (first | refine kn_ ?_ _ | refine kd_ ?_ | refine ka_ ?_ _)); exact BK373.out⟩, ⟨by (with_reducible repeat (first | refine kn_ ?_ _ | refine kd_ ?_ | refine ka_ ?_ _)); refine blk_far ?_ NB374_390.out _; (with_reducible repeat (first | refine kn_ ?_ _ | refine kd_ ?_ | refine ka_ ?_ _)); refine blk_far ?_ NB374_390.out _; (with_reducible repeat (first | refine kn_ ?_ _ | refine kd_ ?_ | refine ka_ ?_ _)); exact BK374.out⟩, ⟨by (with_reducible repeat (first | refine kn_ ?_ _ | refine kd_ ?_ | refine ka_ ?_ _)); refine blk_put (cs := #[.int .u64 ((rd_T24 t391 1).f0), .int .u64 x391001_4]) ?_ 1 _ rfl; (with_reducible repeat (first | refine kn_ ?_ _ | refine kd_ ?_ | refine ka_ ?_ _)); refine blk_put (cs := #[.int .u64 x391000_4, .int .u64 x391001_4]) ?_ 0 _ rfl; (with_reducible repeat (first | refine kn_ ?_ _ | refine kd_ ?_ | refine ka_ ?_ _)); exact BK390.out⟩, ⟨by repeat (first | (with_reducible first | exact HB.out | apply ba_ | apply bn_ | apply bd_ | refine below_set ?_ GE373.out | refine below_set ?_ GE374.out | refine below_set ?_ GE390.out) | exact HB.out)⟩⟩
                   ·rw [if_neg c74] at H
                    exact absurd H (by simp)
                  ·rw [if_neg c72] at H
                   exact absurd H (by simp)
                 ·rw [if_neg c71] at H
                  have c71b0 : (t394 == 0) = false := beq_eq_false_iff_ne.mpr c71
                  have c71b1 : (t394 != 0) = true := bne_iff_ne.mpr c71
                  replace H := bind_eq_some_iff.mp H
                  obtain ⟨⟨t403, t404⟩, A950, H⟩ := H
                  replace H : (some (true, t403, x16_4, 0)) = some (r1, r2, r3, r4) := H
                  have A95 := ak_ A950
                  clear A950
                  simp only [some.injEq, Prod.mk.injEq] at H
                  obtain ⟨rfl, rfl, rfl, rfl⟩ := H
                  have hnb96 := NB390_373.out
                  have hnc96 := NB373_390.out
                  have hnb97 := NB390_374.out
                  have hnc97 := NB374_390.out
                  have hcz98_0 : wr.cell? ⟨gb390, 0, none⟩ = some (.int .u64 x391000_4) := (kc_ BK390.out 0).trans rfl
                  have hcz98_1 : wr.cell? ⟨gb390, 1, none⟩ = some (.int .u64 x391001_4) := (kc_ BK390.out 1).trans rfl
                  have hfz98_0 := kf_ BK390.out 0
                  have hfz98_1 := kf_ BK390.out 1
                  go_wp2_with (first | ((with_reducible refine gate_callee (f := 22) rfl ?_); refine goesL_ (some 109) rfl rfl func22 (by kernel_rfl) rfl #[.int .i64 a0, .int .i64 a1, .agg #[.int .u64 x391000_4, .int .u64 x391001_4]] rfl (by (try simp only [map_toArray, map_cons, map_nil]); first | done | rfl) ?_; (with_reducible refine (medlarref23_Halves.calls k4 a0 a1 x391000_4 x391001_4 t391 t394 _ A70.out).mono ?_); rintro e w99 ⟨v392, rfl, ho0, hb⟩; refine ⟨_, rfl, ?_⟩; have n0_ := ak_ (Kd.R_lower (Kd.R_newB ho0 (g := gb390) (o := .cells #[.int .u64 x391000_4, .int .u64 x391001_4] 24 (0, 0)) (kl_ BK390)) (bz_ (by repeat (first | (with_reducible first | exact HB.out | apply ba_ | apply bn_ | apply bd_ | refine below_set ?_ GE373.out | refine below_set ?_ GE374.out | refine below_set ?_ GE390.out) | exact HB.out)))); have n1_ := ak_ (kb_ (g := gb373) (o := .cells #[.bool a3_0, .slice A3_1 l3_1.length c3_1, .slice A3_2 l3_2.length c3_2] 42 (0, 0)) (kl_ BK373) hb); have n2_ := ak_ (kb_ (g := gb374) (o := .cells #[.bool x375000_2, .int .u64 x375001_2, .int .i64 x375002_2] 48 (0, 0)) (kl_ BK374) hb); have n3_ := ak_ (kb_ (g := gb390) (o := .cells #[.int .u64 x391000_4, .int .u64 x391001_4] 24 (0, 0)) (kl_ BK390) hb); have n4_ := ak_ (bt_ (by repeat (first | (with_reducible first | exact HB.out | apply ba_ | apply bn_ | apply bd_ | refine below_set ?_ GE373.out | refine below_set ?_ GE374.out | refine below_set ?_ GE390.out) | exact HB.out)) hb); clear BK373; clear BK374; clear BK390; clear HB; have HO393 := n0_; have BK373 := n1_; have BK374 := n2_; have BK390 := n3_; have HB := n4_; clear n0_ n1_ n2_ n3_ n4_; (try clear hb); (try clear hk); (try clear ho0); have hcz100_0 : w99.cell? ⟨gb390, 0, none⟩ = some (.int .u64 x391000_4) := (kc_ BK390.out 0).trans rfl; have hcz100_1 : w99.cell? ⟨gb390, 1, none⟩ = some (.int .u64 x391001_4) := (kc_ BK390.out 1).trans rfl; have hfz100_0 := kf_ BK390.out 0; have hfz100_1 := kf_ BK390.out 1) | ((with_reducible refine gate_callee (f := 51) rfl ?_); refine goesL_ (some 135) rfl rfl func51 (by kernel_rfl) rfl #[.int .i64 a0, .agg #[.int .u64 x391000_4, .int .u64 x391001_4]] rfl (by (try simp only [map_toArray, map_cons, map_nil]); first | done | rfl) ?_; (with_reducible refine (medlarref23_only.calls k4 a0 x391000_4 x391001_4 t403 t404 _ A95.out).mono ?_); rintro e w101 ⟨rfl, hb⟩; refine ⟨_, rfl, ?_⟩; have n0_ := ak_ (Kd.R_below (rl_ HO393) hb); have n1_ := ak_ (kb_ (g := gb373) (o := .cells #[.bool a3_0, .slice A3_1 l3_1.length c3_1, .slice A3_2 l3_2.length c3_2] 42 (0, 0)) (kl_ BK373) hb); have n2_ := ak_ (kb_ (g := gb374) (o := .cells #[.bool x375000_2, .int .u64 x375001_2, .int .i64 x375002_2] 48 (0, 0)) (kl_ BK374) hb); have n3_ := ak_ (kb_ (g := gb390) (o := .cells #[.int .u64 x391000_4, .int .u64 x391001_4] 24 (0, 0)) (kl_ BK390) hb); have n4_ := ak_ (bt_ (by repeat (first | (with_reducible first | exact HB.out | apply ba_ | apply bn_ | apply bd_ | refine below_set ?_ GE373.out | refine below_set ?_ GE374.out | refine below_set ?_ GE390.out) | exact HB.out)) hb); clear HO393; clear BK373; clear BK374; clear BK390; clear HB; have HO393 := n0_; have BK373 := n1_; have BK374 := n2_; have BK390 := n3_; have HB := n4_; clear n0_ n1_ n2_ n3_ n4_; (try clear hb); (try clear hk); have hnb102 := NB374_373.out; have hnc102 := NB373_374.out; have hcz103_0 : w101.cell? ⟨gb374, 0, none⟩ = some (.bool x375000_2) := (kc_ BK374.out 0).trans rfl; have hcz103_1 : w101.cell? ⟨gb374, 1, none⟩ = some (.int .u64 x375001_2) := (kc_ BK374.out 1).trans rfl; have hcz103_2 : w101.cell? ⟨gb374, 2, none⟩ = some (.int .i64 x375002_2) := (kc_ BK374.out 2).trans rfl; have hfz103_0 := kf_ BK374.out 0; have hfz103_1 := kf_ BK374.out 1; have hfz103_2 := kf_ BK374.out 2))
                  refine bodyPost_ret (results_ct rfl _ _ gb374 48 #[.bool true, .int .u64 t403, .int .i64 x16_4] (0, 0) _ rfl (by (with_reducible repeat (first | refine kn_ ?_ _ | refine kd_ ?_ | refine ka_ ?_ _)); refine blk_put (cs := #[.bool true, .int .u64 t403, .int .i64 x375002_2]) ?_ 2 _ rfl; (with_reducible repeat (first | refine kn_ ?_ _ | refine kd_ ?_ | refine ka_ ?_ _)); refine blk_put (cs := #[.bool true, .int .u64 x375001_2, .int .i64 x375002_2]) ?_ 1 _ rfl; (with_reducible repeat (first | refine kn_ ?_ _ | refine kd_ ?_ | refine ka_ ?_ _)); refine blk_put (cs := #[.bool x375000_2, .int .u64 x375001_2, .int .i64 x375002_2]) ?_ 0 _ rfl; (with_reducible repeat (first | refine kn_ ?_ _ | refine kd_ ?_ | refine ka_ ?_ _)); exact BK374.out) underlying48 rfl (by kernel_rfl)) rfl ?_
                  exact ⟨by first | rfl | (simp <;> rfl) | (simp [*] <;> rfl), by repeat (first | (with_reducible first | exact HB.out | apply ba_ | apply bn_ | apply bd_ | refine below_set ?_ GE373.out | refine below_set ?_ GE374.out | refine below_set ?_ GE390.out) | exact HB.out)⟩
              ·rw [if_neg c65] at H
               exact absurd H (by simp)
             ·rw [if_neg c64] at H
              exact absurd H (by simp)
        ·replace c38 := Bool.eq_false_iff.mpr c38
         subst c38
         have H1 : (some (false, 0, 1, 0)) = some (r1, r2, r3, r4) := by rw [if_neg (show ¬ (false = true) by decide)] at H; exact H
         clear H
         have H := H1
         clear H1
         simp only [some.injEq, Prod.mk.injEq] at H
         obtain ⟨rfl, rfl, rfl, rfl⟩ := H
         have hnb104 := NB373_374.out
         have hnc104 := NB374_373.out
         have hcz105_0 : wr.cell? ⟨gb373, 0, none⟩ = some (.bool a3_0) := (kc_ BK373.out 0).trans rfl
         have hcz105_1 : wr.cell? ⟨gb373, 1, none⟩ = some (.slice A3_1 l3_1.length c3_1) := (kc_ BK373.out 1).trans rfl
         have hcz105_2 : wr.cell? ⟨gb373, 2, none⟩ = some (.slice A3_2 l3_2.length c3_2) := (kc_ BK373.out 2).trans rfl
         have hfz105_0 := kf_ BK373.out 0
         have hfz105_1 := kf_ BK373.out 1
         have hfz105_2 := kf_ BK373.out 2
         go_wp2_with (first | ((with_reducible refine gate_callee (f := 17) rfl ?_); refine goesL_ (some 62) rfl rfl func17 (by kernel_rfl) rfl #[.int .i64 a0, .agg #[.bool a3_0, .slice A3_1 l3_1.length c3_1, .slice A3_2 l3_2.length c3_2], .int .i64 0, .slice A2 l2.length c2] rfl (by (try simp only [map_toArray, map_cons, map_nil]); first | done | rfl) ?_; (with_reducible refine (medlarref23_Ask.calls k2 a0 a3_0 _ _ l3_1 _ _ l3_2 0 _ _ l2 false t380 _ ?side1 ?side2 ?side3 ?side4 ?side5 ?side6 A37.out).mono ?_); (case side1 => repeat (first | exact (Kd.C_below HR3_1.out HB.out) | (with_reducible refine Kd.C_alloc ?_ _) | (with_reducible refine Kd.C_drewN ?_ _) | (with_reducible refine Kd.C_drew ?_))); (case side2 => exact HC3_1.out); (case side3 => repeat (first | exact (Kd.C_below HR3_2.out HB.out) | (with_reducible refine Kd.C_alloc ?_ _) | (with_reducible refine Kd.C_drewN ?_ _) | (with_reducible refine Kd.C_drew ?_))); (case side4 => exact HC3_2.out); (case side5 => repeat (first | exact (Kd.C_below HR2.out HB.out) | (with_reducible refine Kd.C_alloc ?_ _) | (with_reducible refine Kd.C_drewN ?_ _) | (with_reducible refine Kd.C_drew ?_))); (case side6 => exact HC2.out); rintro e w106 ⟨rfl, hb⟩; refine ⟨_, rfl, ?_⟩; have n0_ := ak_ (kb_ (g := gb373) (o := .cells #[.bool a3_0, .slice A3_1 l3_1.length c3_1, .slice A3_2 l3_2.length c3_2] 42 (0, 0)) (kl_ BK373) hb); have n1_ := ak_ (kb_ (g := gb374) (o := .cells #[.bool x375000_2, .int .u64 x375001_2, .int .i64 x375002_2] 48 (0, 0)) (kl_ BK374) hb); have n2_ := ak_ (bt_ (by repeat (first | (with_reducible first | exact HB.out | apply ba_ | apply bn_ | apply bd_ | refine below_set ?_ GE373.out | refine below_set ?_ GE374.out) | exact HB.out)) hb); clear BK373; clear BK374; clear HB; have BK373 := n0_; have BK374 := n1_; have HB := n2_; clear n0_ n1_ n2_; (try clear hb); (try clear hk); have hcz107_0 : w106.cell? ⟨gb374, 0, none⟩ = some (.bool x375000_2) := (kc_ BK374.out 0).trans rfl; have hcz107_1 : w106.cell? ⟨gb374, 1, none⟩ = some (.int .u64 x375001_2) := (kc_ BK374.out 1).trans rfl; have hcz107_2 : w106.cell? ⟨gb374, 2, none⟩ = some (.int .i64 x375002_2) := (kc_ BK374.out 2).trans rfl; have hfz107_0 := kf_ BK374.out 0; have hfz107_1 := kf_ BK374.out 1; have hfz107_2 := kf_ BK374.out 2))
         refine bodyPost_ret (results_ct rfl _ _ gb374 48 #[.bool false, .int .u64 0, .int .i64 1] (0, 0) _ rfl (by (with_reducible repeat (first | refine kn_ ?_ _ | refine kd_ ?_ | refine ka_ ?_ _)); refine blk_put (cs := #[.bool false, .int .u64 0, .int .i64 x375002_2]) ?_ 2 _ rfl; (with_reducible repeat (first | refine kn_ ?_ _ | refine kd_ ?_ | refine ka_ ?_ _)); refine blk_put (cs := #[.bool false, .int .u64 x375001_2, .int .i64 x375002_2]) ?_ 1 _ rfl; (with_reducible repeat (first | refine kn_ ?_ _ | refine kd_ ?_ | refine ka_ ?_ _)); refine blk_put (cs := #[.bool x375000_2, .int .u64 x375001_2, .int .i64 x375002_2]) ?_ 0 _ rfl; (with_reducible repeat (first | refine kn_ ?_ _ | refine kd_ ?_ | refine ka_ ?_ _)); exact BK374.out) underlying48 rfl (by kernel_rfl)) rfl ?_
         exact ⟨by first | rfl | (simp <;> rfl) | (simp [*] <;> rfl), by repeat (first | (with_reducible first | exact HB.out | apply ba_ | apply bn_ | apply bd_ | refine below_set ?_ GE373.out | refine below_set ?_ GE374.out) | exact HB.out)⟩
def medlarref08_Same.l0 : Nat → List (S24) → List (S24) → Int → Int → Option (Bool)
  | 0, _, _, _, _ => none
  | k + 1, x0, x1, x12, x13 => if x13 < x12 then (if 0 ≤ x13 then (if x13 < (x0.length : Int) then (if x13 < (x1.length : Int) then (if (!(((rd_T24 x0 x13).f0) == ((rd_T24 x1 x13).f0)) || (!(((rd_T24 x0 x13).f1) == ((rd_T24 x1 x13).f1)))) = true then (some false) else (medlarref08_Same.l0 k x0 x1 x12 (wrap64 (x13 + 1)))) else (none)) else (none)) else (none)) else (some true)
def medlarref08_Same.f (k : Nat) (l0 : List (S24)) (l1 : List (S24)) : Option (Bool) := if (l0.length : Int) = (l1.length : Int) then (medlarref08_Same.l0 k l0 l1 (l0.length : Int) 0) else (some false)
set_option maxHeartbeats 8000000 in
set_option maxRecDepth 100000 in
theorem medlarref08_Same.calls (k : Nat) (A0 : Option Addr) (c0 : Nat) (l0 : List (S24)) (A1 : Option Addr) (c1 : Nat) (l1 : List (S24)) (r : Bool) (w : World) (hr0 : Kd.C k24 w A0 l0.length l0) (hc0 : l0.length ≤ c0) (hr1 : Kd.C k24 w A1 l1.length l1) (hc1 : l1.length ≤ c1) (h : medlarref08_Same.f k l0 l1 = some r) :
   Calls Try.prog 23 #[.slice A0 l0.length c0, .slice A1 l1.length c1] w fun e w' => e = .returned (.bool r) ∧ Drawn0 w w' := by
  have hu24 := underlying24
  have HR0 := ak_ hr0
  have HC0 := ak_ hc0
  clear hr0 hc0
  have HR1 := ak_ hr1
  have HC1 := ak_ hc1
  clear hr1 hc1
  have H : (if (l0.length : Int) = (l1.length : Int) then (medlarref08_Same.l0 k l0 l1 (l0.length : Int) 0) else (some false)) = some r := h
  clear h
  by_cases c3 : (l0.length : Int) = (l1.length : Int)
  ·rw [if_pos c3] at H
   have c3b0 : ((l0.length : Int) == (l1.length : Int)) = true := beq_iff_eq.mpr c3
   have c3b1 : ((l0.length : Int) != (l1.length : Int)) = false := bne_eq_false_iff_eq.mpr c3
   have c3b2 : (l0.length == l1.length) = true := by first | simpa using c3 | (simp at c3 ⊢; omega)
   clear c3
   have H' := ak_ H
   clear H
   go_enter func23, ntmps23
   go_wp2
   repeat (go_quiet (fail); try go_wp2)
   go_loopg [13] k (fun kq v13 w' => ∃ (x13_1 : Int), v13 = .int .i64 x13_1 ∧ Aside0 (medlarref08_Same.l0 kq l0 l1 (l0.length : Int) x13_1 = some r) ∧ Aside0 (kq ≤ k) ∧ Drawn0 w w')
   case atStart => exact ⟨(0), (by first | rfl | (simp; done) | (simp [*]; done)), H', ⟨Nat.le_refl _⟩, by repeat (first | exact Drawn0.refl _ | apply Drawn0.step)⟩
   case round =>
    clear H'
    try clear c1
    try clear c2
    try clear p2
    try clear c3
    try clear c3b0
    try clear c3b1
    try clear c3b2
    obtain ⟨x13_1, rfl, HA, HK1, ⟨m1, rfl⟩⟩ := hrel
    cases gk with
    | zero => exact absurd HA.out (by simp [medlarref08_Same.l0])
    | succ k1 =>
     have H := HA.out
     clear HA
     simp only [medlarref08_Same.l0] at H
     by_cases c4 : x13_1 < (l0.length : Int)
     ·rw [if_pos c4] at H
      have c4b0 := decide_eq_true c4
      clear c4
      by_cases c5 : 0 ≤ x13_1
      ·rw [if_pos c5] at H
       have c5b0 := decide_eq_true c5
       clear c5
       by_cases c6 : x13_1 < (l0.length : Int)
       ·rw [if_pos c6] at H
        have c6b0 := decide_eq_true c6
        clear c6
        by_cases c7 : x13_1 < (l1.length : Int)
        ·rw [if_pos c7] at H
         have c7b0 := decide_eq_true c7
         clear c7
         by_cases c8 : (!(((rd_T24 l0 x13_1).f0) == ((rd_T24 l1 x13_1).f0)) || (!(((rd_T24 l0 x13_1).f1) == ((rd_T24 l1 x13_1).f1)))) = true
         ·rw [if_pos c8] at H
          have c8b0 : (!(((rd_T24 l0 x13_1).f0) == ((rd_T24 l1 x13_1).f0)) || (!(((rd_T24 l0 x13_1).f1) == ((rd_T24 l1 x13_1).f1)))) = true := c8
          clear c8
          obtain rfl := Option.some.inj H
          have p405 : 0 ≤ (x13_1 : Int) := od_ (by first | (with_reducible assumption) | assumption)
          have q405 : x13_1 < (l0.length : Int) := od_ (by first | (with_reducible assumption) | assumption)
          obtain ⟨ad405, e405, hx405_0, hx405_1⟩ := at_T24 HR0.out x13_1 p405 q405
          cases e405
          replace p405 := eq_true p405
          replace q405 := eq_true q405
          have p406 : 0 ≤ (x13_1 : Int) := od_ (by first | (with_reducible assumption) | assumption)
          have q406 : x13_1 < (l1.length : Int) := od_ (by first | (with_reducible assumption) | assumption)
          obtain ⟨ad406, e406, hx406_0, hx406_1⟩ := at_T24 HR1.out x13_1 p406 q406
          cases e406
          replace p406 := eq_true p406
          replace q406 := eq_true q406
          go_wp2
          repeat (go_quiet (fail); try go_wp2)
          go_ret
          exact ⟨by first | rfl | (simp; done) | (simp [*]; done), by repeat (first | exact Drawn0.refl _ | apply Drawn0.step)⟩
         ·rw [if_neg c8] at H
          have c8b0 : (!(((rd_T24 l0 x13_1).f0) == ((rd_T24 l1 x13_1).f0)) || (!(((rd_T24 l0 x13_1).f1) == ((rd_T24 l1 x13_1).f1)))) = false := by simpa using c8
          clear c8
          have H' := ak_ H
          clear H
          have p405 : 0 ≤ (x13_1 : Int) := od_ (by first | (with_reducible assumption) | assumption)
          have q405 : x13_1 < (l0.length : Int) := od_ (by first | (with_reducible assumption) | assumption)
          obtain ⟨ad405, e405, hx405_0, hx405_1⟩ := at_T24 HR0.out x13_1 p405 q405
          cases e405
          replace p405 := eq_true p405
          replace q405 := eq_true q405
          have p406 : 0 ≤ (x13_1 : Int) := od_ (by first | (with_reducible assumption) | assumption)
          have q406 : x13_1 < (l1.length : Int) := od_ (by first | (with_reducible assumption) | assumption)
          obtain ⟨ad406, e406, hx406_0, hx406_1⟩ := at_T24 HR1.out x13_1 p406 q406
          cases e406
          replace p406 := eq_true p406
          replace q406 := eq_true q406
          go_wp2
          repeat (go_quiet (fail); try go_wp2)
          go_roundg k1
          case measure => have := HK1.out; omega
          case rel => exact ⟨(wrap64 (x13_1 + 1)), (by first | rfl | (simp; done) | (simp [*]; done)), H', ⟨by have := HK1.out; omega⟩, by repeat (first | exact Drawn0.refl _ | apply Drawn0.step)⟩
        ·rw [if_neg c7] at H
         exact absurd H (by simp)
       ·rw [if_neg c6] at H
        exact absurd H (by simp)
      ·rw [if_neg c5] at H
       exact absurd H (by simp)
     ·rw [if_neg c4] at H
      have c4b0 := decide_eq_false c4
      clear c4
      obtain rfl := Option.some.inj H
      go_wp2
      repeat (go_quiet (fail); try go_wp2)
      go_ret
      exact ⟨by first | rfl | (simp; done) | (simp [*]; done), by repeat (first | exact Drawn0.refl _ | apply Drawn0.step)⟩
  ·rw [if_neg c3] at H
   have c3b0 : ((l0.length : Int) == (l1.length : Int)) = false := beq_eq_false_iff_ne.mpr c3
   have c3b1 : ((l0.length : Int) != (l1.length : Int)) = true := bne_iff_ne.mpr c3
   have c3b2 : (l0.length == l1.length) = false := by first | simpa using c3 | (simp at c3 ⊢; omega)
   obtain rfl := Option.some.inj H
   go_enter func23, ntmps23
   go_wp2
   repeat (go_quiet (fail); try go_wp2)
   go_ret
   exact ⟨by first | rfl | (simp; done) | (simp [*]; done), by repeat (first | exact Drawn0.refl _ | apply Drawn0.step)⟩
end Go.Proofs.Ytnbiddloiiljjaa.MP
