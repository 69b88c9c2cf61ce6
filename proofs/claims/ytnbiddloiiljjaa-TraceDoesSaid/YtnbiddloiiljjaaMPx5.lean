-- written by a program of this session (wip/tools/mprint.sh) for this seat
import Derived.Test.YtnbiddloiiljjaaMPx0
import Derived.Test.YtnbiddloiiljjaaMPx2
import Derived.Test.YtnbiddloiiljjaaMPx4
namespace Go.Proofs.Ytnbiddloiiljjaa.MP
open Go.RowKit Go.Proofs.YtnbiddloiiljjaaW.PrintWords Go.Proofs.YtnbiddloiiljjaaW.PrintLast Go.Proofs.YtnbiddloiiljjaaW.PrintMore
open Option (bind_eq_some_iff some.injEq)
open _root_.Go.Proofs.Try
open List (setIfInBounds_toArray set_cons_zero set_cons_succ map_toArray map_cons map_nil length_drop length_take)
attribute [local go_sem] max2_int min2_int max_two min_two max_three min_three max_four min_four
set_option linter.unusedVariables false
set_option linter.unusedSimpArgs false
def bA5 (k n : Nat) : Array Bool := (Array.range n).map fun i => decide (i < k)
mutual
def medlarref23_Ask.j0 : Nat → Int → Int → List (S24) → Bool → Bool → List Int → List Bool → Option (Bool × Int)
  | 0, _, _, _, _, _, _, _ => none
  | k + 1, x0, x2, x3, x26, x274000, x274001, x274002 => if x26 = true then (some (false, 1)) else (medlarref23_Ask.l0 k x0 x2 x3 x3 (x3.length : Int) 0 x274000 x274001 x274002)
def medlarref23_Ask.l0 : Nat → Int → Int → List (S24) → List (S24) → Int → Int → Bool → List Int → List Bool → Option (Bool × Int)
  | 0, _, _, _, _, _, _, _, _, _ => none
  | k + 1, x0, x2, x3, x27, x28, x29, x274000, x274001, x274002 => if x29 < x28 then (if 0 ≤ x29 then (if x29 < (x27.length : Int) then ((medlarref08_Check.f k x0 ((rd_T24 x27 x29).f0) ((rd_T24 x27 x29).f1)).bind fun t277 => (if t277 = 0 then (medlarref23_Ask.l0 k x0 x2 x3 x27 x28 (wrap64 (x29 + 1)) x274000 x274001 x274002) else (some (false, 1)))) else (none)) else (none)) else (if x274000 = true then (if x2 < (x274002.length : Int) then (if 0 ≤ x2 then (some (rdOf false x274002 x2, 0)) else (none)) else (some (false, 0))) else (medlarref23_Ask.l1 k x0 x3 (x3.length : Int) 0 x274000 x274001 x274002))
def medlarref23_Ask.l1 : Nat → Int → List (S24) → Int → Int → Bool → List Int → List Bool → Option (Bool × Int)
  | 0, _, _, _, _, _, _, _ => none
  | k + 1, x0, x52, x53, x54, x274000, x274001, x274002 => if x54 < x53 then (if 0 ≤ x54 then (if x54 < (x52.length : Int) then (medlarref23_Ask.l2 k x0 x52 x53 x54 x274001 (x274001.length : Int) 0 x274000 x274001 x274002 ((rd_T24 x52 x54).f0) ((rd_T24 x52 x54).f1)) else (none)) else (none)) else (some (false, 0))
def medlarref23_Ask.l2 : Nat → Int → List (S24) → Int → Int → List Int → Int → Int → Bool → List Int → List Bool → Int → Int → Option (Bool × Int)
  | 0, _, _, _, _, _, _, _, _, _, _, _, _ => none
  | k + 1, x0, x52, x53, x54, x59, x60, x61, x274000, x274001, x274002, x281000, x281001 => if x61 < x60 then (if 0 ≤ x61 then (if x61 < (x59.length : Int) then ((medlarref08_Has.f k x0 x281000 x281001 (rd x59 x61)).bind fun bt282 => (if bt282.1 = true then (some (true, 0)) else (medlarref23_Ask.l2 k x0 x52 x53 x54 x59 x60 (wrap64 (x61 + 1)) x274000 x274001 x274002 x281000 x281001))) else (none)) else (none)) else (medlarref23_Ask.l1 k x0 x52 x53 (wrap64 (x54 + 1)) x274000 x274001 x274002)
end
def medlarref23_Ask.f (k : Nat) (a0 : Int) (a1_0 : Bool) (l1_1 : List Int) (l1_2 : List Bool) (a2 : Int) (l3 : List (S24)) : Option (Bool × Int) := (medlarref02_Check.f k a0 l1_1).bind fun t274 => (if t274 = 0 then (medlarref23_Ask.j0 k a0 a2 l3 (decide (a2 < 0)) a1_0 l1_1 l1_2) else (medlarref23_Ask.j0 k a0 a2 l3 true a1_0 l1_1 l1_2))
set_option maxHeartbeats 8000000 in
set_option maxRecDepth 100000 in
theorem medlarref23_Ask.calls (k : Nat) (a0 : Int) (a1_0 : Bool) (A1_1 : Option Addr) (c1_1 : Nat) (l1_1 : List Int) (A1_2 : Option Addr) (c1_2 : Nat) (l1_2 : List Bool) (a2 : Int) (A3 : Option Addr) (c3 : Nat) (l3 : List (S24)) (r1 : Bool) (r2 : Int) (w : World) (hr1_1 : Kd.C (Kd.int .u64) w A1_1 l1_1.length l1_1) (hc1_1 : l1_1.length ≤ c1_1) (hr1_2 : Kd.C Kd.bool w A1_2 l1_2.length l1_2) (hc1_2 : l1_2.length ≤ c1_2) (hr3 : Kd.C k24 w A3 l3.length l3) (hc3 : l3.length ≤ c3) (h : medlarref23_Ask.f k a0 a1_0 l1_1 l1_2 a2 l3 = some (r1, r2)) :
   Calls Try.prog 17 #[.int .i64 a0, .agg #[.bool a1_0, .slice A1_1 l1_1.length c1_1, .slice A1_2 l1_2.length c1_2], .int .i64 a2, .slice A3 l3.length c3] w fun e w' => e = .returned (.tuple #[.bool r1, .int .i64 r2]) ∧ Below w.heap.size w w' := by
  have hu42 := underlying42
  have hu24 := underlying24
  have HR1_1 := ak_ hr1_1
  have HC1_1 := ak_ hc1_1
  clear hr1_1 hc1_1
  have HR1_2 := ak_ hr1_2
  have HC1_2 := ak_ hc1_2
  clear hr1_2 hc1_2
  have HR3 := ak_ hr3
  have HC3 := ak_ hc3
  clear hr3 hc3
  have HB := ak_ (Below.refl w.heap.size w)
  have H : ((medlarref02_Check.f k a0 l1_1).bind fun t274 => (if t274 = 0 then (medlarref23_Ask.j0 k a0 a2 l3 (decide (a2 < 0)) a1_0 l1_1 l1_2) else (medlarref23_Ask.j0 k a0 a2 l3 true a1_0 l1_1 l1_2))) = some (r1, r2) := h
  clear h
  have HC5 := ak_ H
  clear H
  go_enter func17, ntmps17
  go_upto_region 1 with (first | ((with_reducible refine gate_dst (N := 5) rfl ?_); refine box_event ?hg (N := 5) ?hd (cs := #[.bool a1_0, .slice A1_1 l1_1.length c1_1, .slice A1_2 l1_2.length c1_2]) (t := 42) ?hr ?_; (case hd => rfl); (case hg => rfl); (case hr => first | (go_simp; done) | (go_simp; rfl)); intro gb273 hg w6 hbox hb; have n0_ := ak_ (bt_ (bl_ HB) hb); have n1_ := ak_ (hbox); have n2_ := ak_ ((gs_ hg HB)); have n3_ := ak_ ((gs_ hg HB)); clear HB; have HB := n0_; have BK273 := n1_; have GW273 := n2_; have GE273 := n3_; clear n0_ n1_ n2_ n3_; clear hb hbox hg))
  (try simp only [Act.put, setIfInBounds_toArray, set_cons_zero, set_cons_succ])
  go_cut [26] (fun v26 wc => ∃ (kq : Nat) (x26_4 : Bool), v26 = .bool x26_4 ∧ Aside0 (medlarref23_Ask.j0 kq a0 a2 l3 x26_4 a1_0 l1_1 l1_2 = some (r1, r2)) ∧ Aside0 (kq ≤ k) ∧ Aside0 (wc.heap[gb273]? = some (.cells #[.bool a1_0, (.slice A1_1 l1_1.length c1_1), (.slice A1_2 l1_2.length c1_2)] 42 (0, 0))) ∧ Aside0 (Below w.heap.size w wc))
  case first =>
   have H := HC5.out
   clear HC5
   replace H := bind_eq_some_iff.mp H
   obtain ⟨t274, A70, H⟩ := H
   replace H : (if t274 = 0 then (medlarref23_Ask.j0 k a0 a2 l3 (decide (a2 < 0)) a1_0 l1_1 l1_2) else (medlarref23_Ask.j0 k a0 a2 l3 true a1_0 l1_1 l1_2)) = some (r1, r2) := H
   have A7 := ak_ A70
   clear A70
   by_cases c8 : t274 = 0
   ·rw [if_pos c8] at H
    have c8b0 : (t274 == 0) = true := beq_iff_eq.mpr c8
    have c8b1 : (t274 != 0) = false := bne_eq_false_iff_eq.mpr c8
    clear c8
    (first | rw [c8b0] | (simp only [i64_w, i32_w]; rw [c8b0]) | skip)
    have H' := ak_ H
    clear H
    have hcz9_0 : w6.cell? ⟨gb273, 0, none⟩ = some (.bool a1_0) := (kc_ BK273.out 0).trans rfl
    have hcz9_1 : w6.cell? ⟨gb273, 1, none⟩ = some (.slice A1_1 l1_1.length c1_1) := (kc_ BK273.out 1).trans rfl
    have hcz9_2 : w6.cell? ⟨gb273, 2, none⟩ = some (.slice A1_2 l1_2.length c1_2) := (kc_ BK273.out 2).trans rfl
    have hfz9_0 := kf_ BK273.out 0
    have hfz9_1 := kf_ BK273.out 1
    have hfz9_2 := kf_ BK273.out 2
    go_wp2_with (first | ((with_reducible refine gate_callee (f := 42) rfl ?_); refine goesL_ (some 21) rfl rfl func42 (by kernel_rfl) rfl #[.int .i64 a0, .slice A1_1 l1_1.length c1_1] rfl (by (try simp only [map_toArray, map_cons, map_nil]); first | done | rfl) ?_; (with_reducible refine (medlarref02_Check.calls k a0 _ _ l1_1 t274 _ ?side1 ?side2 A7.out).mono ?_); (case side1 => repeat (first | exact (Kd.C_below HR1_1.out HB.out) | (with_reducible refine Kd.C_alloc ?_ _) | (with_reducible refine Kd.C_drewN ?_ _) | (with_reducible refine Kd.C_drew ?_))); (case side2 => exact HC1_1.out); rintro e w' ⟨rfl, ⟨nd, rfl⟩⟩; refine ⟨_, rfl, ?_⟩))
    go_meet
    case rel => exact ⟨_, (decide (a2 < 0)), (by first | rfl | (simp; done) | (simp [*]; done)), H', ⟨by first | omega | exact Nat.le_refl _⟩, ⟨kl_ BK273⟩, ⟨by repeat (first | (with_reducible first | exact HB.out | apply ba_ | apply bn_ | apply bd_ | refine below_set ?_ GE273.out) | exact HB.out)⟩⟩
   ·rw [if_neg c8] at H
    have c8b0 : (t274 == 0) = false := beq_eq_false_iff_ne.mpr c8
    have c8b1 : (t274 != 0) = true := bne_iff_ne.mpr c8
    (first | rw [c8b0] | (simp only [i64_w, i32_w]; rw [c8b0]) | skip)
    have H' := ak_ H
    clear H
    have hcz10_0 : w6.cell? ⟨gb273, 0, none⟩ = some (.bool a1_0) := (kc_ BK273.out 0).trans rfl
    have hcz10_1 : w6.cell? ⟨gb273, 1, none⟩ = some (.slice A1_1 l1_1.length c1_1) := (kc_ BK273.out 1).trans rfl
    have hcz10_2 : w6.cell? ⟨gb273, 2, none⟩ = some (.slice A1_2 l1_2.length c1_2) := (kc_ BK273.out 2).trans rfl
    have hfz10_0 := kf_ BK273.out 0
    have hfz10_1 := kf_ BK273.out 1
    have hfz10_2 := kf_ BK273.out 2
    go_wp2_with (first | ((with_reducible refine gate_callee (f := 42) rfl ?_); refine goesL_ (some 21) rfl rfl func42 (by kernel_rfl) rfl #[.int .i64 a0, .slice A1_1 l1_1.length c1_1] rfl (by (try simp only [map_toArray, map_cons, map_nil]); first | done | rfl) ?_; (with_reducible refine (medlarref02_Check.calls k a0 _ _ l1_1 t274 _ ?side1 ?side2 A7.out).mono ?_); (case side1 => repeat (first | exact (Kd.C_below HR1_1.out HB.out) | (with_reducible refine Kd.C_alloc ?_ _) | (with_reducible refine Kd.C_drewN ?_ _) | (with_reducible refine Kd.C_drew ?_))); (case side2 => exact HC1_1.out); rintro e w' ⟨rfl, ⟨nd, rfl⟩⟩; refine ⟨_, rfl, ?_⟩))
    go_meet
    case rel => exact ⟨_, (true), (by first | rfl | (simp; done) | (simp [*]; done)), H', ⟨by first | omega | exact Nat.le_refl _⟩, ⟨kl_ BK273⟩, ⟨by repeat (first | (with_reducible first | exact HB.out | apply ba_ | apply bn_ | apply bd_ | refine below_set ?_ GE273.out) | exact HB.out)⟩⟩
  case rest =>
   clear HC5
   try clear c1
   try clear p2
   try clear c3
   try clear c4
   try clear c8
   try clear c8b0
   try clear c8b1
   try clear hcz10_0
   try clear hcz10_1
   try clear hcz10_2
   try clear hcz9_0
   try clear hcz9_1
   try clear hcz9_2
   try clear hfz10_0
   try clear hfz10_1
   try clear hfz10_2
   try clear hfz9_0
   try clear hfz9_1
   try clear hfz9_2
   obtain ⟨kq, x26_4, rfl, HA, HJ4, BK273, HB⟩ := hcut
   cases kq with
   | zero => exact absurd HA.out (by simp [medlarref23_Ask.j0])
   | succ kj4 =>
    have H := HA.out
    clear HA
    simp only [medlarref23_Ask.j0] at H
    by_cases c11 : x26_4 = true
    ·subst c11
     have H1 : (some (false, 1)) = some (r1, r2) := by rw [if_pos rfl] at H; exact H
     clear H
     have H := H1
     clear H1
     simp only [some.injEq, Prod.mk.injEq] at H
     obtain ⟨rfl, rfl⟩ := H
     go_wp2
     go_ret2
     exact ⟨by first | rfl | (simp <;> rfl) | (simp [*] <;> rfl), by repeat (first | (with_reducible first | exact HB.out | apply ba_ | apply bn_ | apply bd_ | refine below_set ?_ GE273.out) | exact HB.out)⟩
    ·replace c11 := Bool.eq_false_iff.mpr c11
     subst c11
     have H1 : (medlarref23_Ask.l0 kj4 a0 a2 l3 l3 (l3.length : Int) 0 a1_0 l1_1 l1_2) = some (r1, r2) := by rw [if_neg (show ¬ (false = true) by decide)] at H; exact H
     clear H
     have H := H1
     clear H1
     have H' := ak_ H
     clear H
     go_wp2
     go_loopg [29] kj4 (fun kq v29 w' => ∃ (x29_2 : Int), v29 = .int .i64 x29_2 ∧ Aside0 (medlarref23_Ask.l0 kq a0 a2 l3 l3 (l3.length : Int) x29_2 a1_0 l1_1 l1_2 = some (r1, r2)) ∧ Aside0 (kq ≤ kj4) ∧ Aside0 (w'.heap[gb273]? = some (.cells #[.bool a1_0, (.slice A1_1 l1_1.length c1_1), (.slice A1_2 l1_2.length c1_2)] 42 (0, 0))) ∧ Aside0 (Below w.heap.size w w'))
     case atStart => exact ⟨(0), (by first | rfl | (simp; done) | (simp [*]; done)), H', ⟨Nat.le_refl _⟩, ⟨kl_ BK273⟩, ⟨by repeat (first | (with_reducible first | exact HB.out | apply ba_ | apply bn_ | apply bd_ | refine below_set ?_ GE273.out) | exact HB.out)⟩⟩
     case round =>
      clear H'
      try clear c1
      try clear p2
      try clear c3
      try clear c4
      try clear c8
      try clear c8b0
      try clear c8b1
      try clear c11
      try clear hcz10_0
      try clear hcz10_1
      try clear hcz10_2
      try clear hcz9_0
      try clear hcz9_1
      try clear hcz9_2
      try clear hfz10_0
      try clear hfz10_1
      try clear hfz10_2
      try clear hfz9_0
      try clear hfz9_1
      try clear hfz9_2
      try clear p2
      obtain ⟨x29_2, rfl, HA, HK2, BK273, HB⟩ := hrel
      cases gk with
      | zero => exact absurd HA.out (by simp [medlarref23_Ask.l0])
      | succ k2 =>
       have H := HA.out
       clear HA
       simp only [medlarref23_Ask.l0] at H
       by_cases c12 : x29_2 < (l3.length : Int)
       ·rw [if_pos c12] at H
        have c12b0 := decide_eq_true c12
        clear c12
        by_cases c13 : 0 ≤ x29_2
        ·rw [if_pos c13] at H
         have c13b0 := decide_eq_true c13
         clear c13
         by_cases c14 : x29_2 < (l3.length : Int)
         ·rw [if_pos c14] at H
          have c14b0 := decide_eq_true c14
          clear c14
          replace H := bind_eq_some_iff.mp H
          obtain ⟨t277, A150, H⟩ := H
          replace H : (if t277 = 0 then (medlarref23_Ask.l0 k2 a0 a2 l3 l3 (l3.length : Int) (wrap64 (x29_2 + 1)) a1_0 l1_1 l1_2) else (some (false, 1))) = some (r1, r2) := H
          have A15 := ak_ A150
          clear A150
          by_cases c16 : t277 = 0
          ·rw [if_pos c16] at H
           have c16b0 : (t277 == 0) = true := beq_iff_eq.mpr c16
           have c16b1 : (t277 != 0) = false := bne_eq_false_iff_eq.mpr c16
           clear c16
           have H' := ak_ H
           clear H
           have p275 : 0 ≤ (x29_2 : Int) := od_ (by first | (with_reducible assumption) | assumption)
           have q275 : x29_2 < (l3.length : Int) := od_ (by first | (with_reducible assumption) | assumption)
           obtain ⟨ad275, e275, hx275_0, hx275_1⟩ := at_T24 HR3.out x29_2 p275 q275
           cases e275
           replace hx275_0 := (HB.out.cell (World.block_lt_of_cell? w _ hx275_0)).trans hx275_0
           replace hx275_1 := (HB.out.cell (World.block_lt_of_cell? w _ hx275_1)).trans hx275_1
           replace p275 := eq_true p275
           replace q275 := eq_true q275
           go_wp2_with (first | ((with_reducible refine gate_dst (N := 11) rfl ?_); refine box_event ?hg (N := 11) ?hd (cs := #[.int .u64 0, .int .u64 0]) (t := 24) ?hr ?_; (case hd => rfl); (case hg => rfl); (case hr => first | (go_simp; done) | (go_simp; rfl)); intro gb276 hg w17 hbox hb; have n0_ := ak_ (kb_ (g := gb273) (o := .cells #[.bool a1_0, .slice A1_1 l1_1.length c1_1, .slice A1_2 l1_2.length c1_2] 42 (0, 0)) (kl_ BK273) hb); have n1_ := ak_ (bt_ (by repeat (first | (with_reducible first | exact HB.out | apply ba_ | apply bn_ | apply bd_ | refine below_set ?_ GE273.out) | exact HB.out)) hb); have n2_ := ak_ (hbox); have n3_ := ak_ ((by rw [hg]; exact (bz_ (by repeat (first | (with_reducible first | exact HB.out | apply ba_ | apply bn_ | apply bd_ | refine below_set ?_ GE273.out) | exact HB.out))) : w.heap.size ≤ gb276)); have n4_ := ak_ ((by rw [hg]; exact (bz_ (by repeat (first | (with_reducible first | exact HB.out | apply ba_ | apply bn_ | apply bd_ | refine below_set ?_ GE273.out) | exact HB.out))) : w.heap.size ≤ gb276)); have n5_ := ak_ ((by rw [hg]; exact Nat.ne_of_lt (blk_lt (g := gb273) (o := .cells #[.bool a1_0, .slice A1_1 l1_1.length c1_1, .slice A1_2 l1_2.length c1_2] 42 (0, 0)) (kl_ BK273)) : gb273 ≠ gb276)); have n6_ := ak_ ((by rw [hg]; exact Nat.ne_of_gt (blk_lt (g := gb273) (o := .cells #[.bool a1_0, .slice A1_1 l1_1.length c1_1, .slice A1_2 l1_2.length c1_2] 42 (0, 0)) (kl_ BK273)) : gb276 ≠ gb273)); clear BK273; clear HB; have BK273 := n0_; have HB := n1_; have BK276 := n2_; have GW276 := n3_; have GE276 := n4_; have NB273_276 := n5_; have NB276_273 := n6_; clear n0_ n1_ n2_ n3_ n4_ n5_ n6_; clear hb hbox hg; have hnb18 := NB276_273.out; have hnc18 := NB273_276.out; have hcz19_0 : w17.cell? ⟨gb276, 0, none⟩ = some (.int .u64 0) := (kc_ BK276.out 0).trans rfl; have hcz19_1 : w17.cell? ⟨gb276, 1, none⟩ = some (.int .u64 0) := (kc_ BK276.out 1).trans rfl; have hfz19_0 := kf_ BK276.out 0; have hfz19_1 := kf_ BK276.out 1) | ((with_reducible refine gate_callee (f := 43) rfl ?_); refine goesL_ (some 35) rfl rfl func43 (by kernel_rfl) rfl #[.int .i64 a0, .agg #[.int .u64 ((rd_T24 l3 x29_2).f0), .int .u64 ((rd_T24 l3 x29_2).f1)]] rfl (by (try simp only [map_toArray, map_cons, map_nil]); first | done | rfl) ?_; (with_reducible refine (medlarref08_Check.calls k2 a0 ((rd_T24 l3 x29_2).f0) ((rd_T24 l3 x29_2).f1) t277 _ A15.out).mono ?_); rintro e w20 ⟨rfl, hb⟩; refine ⟨_, rfl, ?_⟩; have n0_ := ak_ (kb_ (g := gb273) (o := .cells #[.bool a1_0, .slice A1_1 l1_1.length c1_1, .slice A1_2 l1_2.length c1_2] 42 (0, 0)) (by (with_reducible repeat (first | refine kn_ ?_ _ | refine kd_ ?_ | refine ka_ ?_ _)); refine blk_far ?_ NB273_276.out _; (with_reducible repeat (first | refine kn_ ?_ _ | refine kd_ ?_ | refine ka_ ?_ _)); refine blk_far ?_ NB273_276.out _; (with_reducible repeat (first | refine kn_ ?_ _ | refine kd_ ?_ | refine ka_ ?_ _)); exact BK273.out) hb); have n1_ := ak_ (kb_ (g := gb276) (o := .cells #[.int .u64 ((rd_T24 l3 x29_2).f0), .int .u64 ((rd_T24 l3 x29_2).f1)] 24 (0, 0)) (by (with_reducible repeat (first | refine kn_ ?_ _ | refine kd_ ?_ | refine ka_ ?_ _)); refine blk_put (cs := #[.int .u64 ((rd_T24 l3 x29_2).f0), .int .u64 0]) ?_ 1 _ rfl; (with_reducible repeat (first | refine kn_ ?_ _ | refine kd_ ?_ | refine ka_ ?_ _)); refine blk_put (cs := #[.int .u64 0, .int .u64 0]) ?_ 0 _ rfl; (with_reducible repeat (first | refine kn_ ?_ _ | refine kd_ ?_ | refine ka_ ?_ _)); exact BK276.out) hb); have n2_ := ak_ (bt_ (by repeat (first | (with_reducible first | exact HB.out | apply ba_ | apply bn_ | apply bd_ | refine below_set ?_ GE273.out | refine below_set ?_ GE276.out) | exact HB.out)) hb); clear BK273; clear BK276; clear HB; have BK273 := n0_; have BK276 := n1_; have HB := n2_; clear n0_ n1_ n2_; (try clear hb); (try clear hk)))
           go_roundg k2
           case measure => have := HJ4.out; have := HK2.out; omega
           case rel => exact ⟨(wrap64 (x29_2 + 1)), (by first | rfl | (simp; done) | (simp [*]; done)), H', ⟨by have := HJ4.out; have := HK2.out; omega⟩, ⟨kl_ BK273⟩, ⟨by repeat (first | (with_reducible first | exact HB.out | apply ba_ | apply bn_ | apply bd_ | refine below_set ?_ GE273.out | refine below_set ?_ GE276.out) | exact HB.out)⟩⟩
          ·rw [if_neg c16] at H
           have c16b0 : (t277 == 0) = false := beq_eq_false_iff_ne.mpr c16
           have c16b1 : (t277 != 0) = true := bne_iff_ne.mpr c16
           simp only [some.injEq, Prod.mk.injEq] at H
           obtain ⟨rfl, rfl⟩ := H
           have p275 : 0 ≤ (x29_2 : Int) := od_ (by first | (with_reducible assumption) | assumption)
           have q275 : x29_2 < (l3.length : Int) := od_ (by first | (with_reducible assumption) | assumption)
           obtain ⟨ad275, e275, hx275_0, hx275_1⟩ := at_T24 HR3.out x29_2 p275 q275
           cases e275
           replace hx275_0 := (HB.out.cell (World.block_lt_of_cell? w _ hx275_0)).trans hx275_0
           replace hx275_1 := (HB.out.cell (World.block_lt_of_cell? w _ hx275_1)).trans hx275_1
           replace p275 := eq_true p275
           replace q275 := eq_true q275
           go_wp2_with (first | ((with_reducible refine gate_dst (N := 11) rfl ?_); refine box_event ?hg (N := 11) ?hd (cs := #[.int .u64 0, .int .u64 0]) (t := 24) ?hr ?_; (case hd => rfl); (case hg => rfl); (case hr => first | (go_simp; done) | (go_simp; rfl)); intro gb276 hg w21 hbox hb; have n0_ := ak_ (kb_ (g := gb273) (o := .cells #[.bool a1_0, .slice A1_1 l1_1.length c1_1, .slice A1_2 l1_2.length c1_2] 42 (0, 0)) (kl_ BK273) hb); have n1_ := ak_ (bt_ (by repeat (first | (with_reducible first | exact HB.out | apply ba_ | apply bn_ | apply bd_ | refine below_set ?_ GE273.out) | exact HB.out)) hb); have n2_ := ak_ (hbox); have n3_ := ak_ ((by rw [hg]; exact (bz_ (by repeat (first | (with_reducible first | exact HB.out | apply ba_ | apply bn_ | apply bd_ | refine below_set ?_ GE273.out) | exact HB.out))) : w.heap.size ≤ gb276)); have n4_ := ak_ ((by rw [hg]; exact (bz_ (by repeat (first | (with_reducible first | exact HB.out | apply ba_ | apply bn_ | apply bd_ | refine below_set ?_ GE273.out) | exact HB.out))) : w.heap.size ≤ gb276)); have n5_ := ak_ ((by rw [hg]; exact Nat.ne_of_lt (blk_lt (g := gb273) (o := .cells #[.bool a1_0, .slice A1_1 l1_1.length c1_1, .slice A1_2 l1_2.length c1_2] 42 (0, 0)) (kl_ BK273)) : gb273 ≠ gb276)); have n6_ := ak_ ((by rw [hg]; exact Nat.ne_of_gt (blk_lt (g := gb273) (o := .cells #[.bool a1_0, .slice A1_1 l1_1.length c1_1, .slice A1_2 l1_2.length c1_2] 42 (0, 0)) (kl_ BK273)) : gb276 ≠ gb273)); clear BK273; clear HB; have BK273 := n0_; have HB := n1_; have BK276 := n2_; have GW276 := n3_; have GE276 := n4_; have NB273_276 := n5_; have NB276_273 := n6_; clear n0_ n1_ n2_ n3_ n4_ n5_ n6_; clear hb hbox hg; have hnb22 := NB276_273.out; have hnc22 := NB273_276.out; have hcz23_0 : w21.cell? ⟨gb276, 0, none⟩ = some (.int .u64 0) := (kc_ BK276.out 0).trans rfl; have hcz23_1 : w21.cell? ⟨gb276, 1, none⟩ = some (.int .u64 0) := (kc_ BK276.out 1).trans rfl; have hfz23_0 := kf_ BK276.out 0; have hfz23_1 := kf_ BK276.out 1) | ((with_reducible refine gate_callee (f := 43) rfl ?_); refine goesL_ (some 35) rfl rfl func43 (by kernel_rfl) rfl #[.int .i64 a0, .agg #[.int .u64 ((rd_T24 l3 x29_2).f0), .int .u64 ((rd_T24 l3 x29_2).f1)]] rfl (by (try simp only [map_toArray, map_cons, map_nil]); first | done | rfl) ?_; (with_reducible refine (medlarref08_Check.calls k2 a0 ((rd_T24 l3 x29_2).f0) ((rd_T24 l3 x29_2).f1) t277 _ A15.out).mono ?_); rintro e w24 ⟨rfl, hb⟩; refine ⟨_, rfl, ?_⟩; have n0_ := ak_ (kb_ (g := gb273) (o := .cells #[.bool a1_0, .slice A1_1 l1_1.length c1_1, .slice A1_2 l1_2.length c1_2] 42 (0, 0)) (by (with_reducible repeat (first | refine kn_ ?_ _ | refine kd_ ?_ | refine ka_ ?_ _)); refine blk_far ?_ NB273_276.out _; (with_reducible repeat (first | refine kn_ ?_ _ | refine kd_ ?_ | refine ka_ ?_ _)); refine blk_far ?_ NB273_276.out _; (with_reducible repeat (first | refine kn_ ?_ _ | refine kd_ ?_ | refine ka_ ?_ _)); exact BK273.out) hb); have n1_ := ak_ (kb_ (g := gb276) (o := .cells #[.int .u64 ((rd_T24 l3 x29_2).f0), .int .u64 ((rd_T24 l3 x29_2).f1)] 24 (0, 0)) (by (with_reducible repeat (first | refine kn_ ?_ _ | refine kd_ ?_ | refine ka_ ?_ _)); refine blk_put (cs := #[.int .u64 ((rd_T24 l3 x29_2).f0), .int .u64 0]) ?_ 1 _ rfl; (with_reducible repeat (first | refine kn_ ?_ _ | refine kd_ ?_ | refine ka_ ?_ _)); refine blk_put (cs := #[.int .u64 0, .int .u64 0]) ?_ 0 _ rfl; (with_reducible repeat (first | refine kn_ ?_ _ | refine kd_ ?_ | refine ka_ ?_ _)); exact BK276.out) hb); have n2_ := ak_ (bt_ (by repeat (first | (with_reducible first | exact HB.out | apply ba_ | apply bn_ | apply bd_ | refine below_set ?_ GE273.out | refine below_set ?_ GE276.out) | exact HB.out)) hb); clear BK273; clear BK276; clear HB; have BK273 := n0_; have BK276 := n1_; have HB := n2_; clear n0_ n1_ n2_; (try clear hb); (try clear hk)))
           go_ret2
           exact ⟨by first | rfl | (simp <;> rfl) | (simp [*] <;> rfl), by repeat (first | (with_reducible first | exact HB.out | apply ba_ | apply bn_ | apply bd_ | refine below_set ?_ GE273.out | refine below_set ?_ GE276.out) | exact HB.out)⟩
         ·rw [if_neg c14] at H
          exact absurd H (by simp)
        ·rw [if_neg c13] at H
         exact absurd H (by simp)
       ·rw [if_neg c12] at H
        have c12b0 := decide_eq_false c12
        clear c12
        by_cases c25 : a1_0 = true
        ·subst c25
         have H1 : (if a2 < (l1_2.length : Int) then (if 0 ≤ a2 then (some (rdOf false l1_2 a2, 0)) else (none)) else (some (false, 0))) = some (r1, r2) := by rw [if_pos rfl] at H; exact H
         clear H
         have H := H1
         clear H1
         by_cases c26 : a2 < (l1_2.length : Int)
         ·rw [if_pos c26] at H
          have c26b0 := decide_eq_true c26
          clear c26
          by_cases c27 : 0 ≤ a2
          ·rw [if_pos c27] at H
           have c27b0 := decide_eq_true c27
           clear c27
           simp only [some.injEq, Prod.mk.injEq] at H
           obtain ⟨rfl, rfl⟩ := H
           have hcz28_0 : wr.cell? ⟨gb273, 0, none⟩ = some (.bool true) := (kc_ BK273.out 0).trans rfl
           have hcz28_1 : wr.cell? ⟨gb273, 1, none⟩ = some (.slice A1_1 l1_1.length c1_1) := (kc_ BK273.out 1).trans rfl
           have hcz28_2 : wr.cell? ⟨gb273, 2, none⟩ = some (.slice A1_2 l1_2.length c1_2) := (kc_ BK273.out 2).trans rfl
           have hfz28_0 := kf_ BK273.out 0
           have hfz28_1 := kf_ BK273.out 1
           have hfz28_2 := kf_ BK273.out 2
           have p278 : 0 ≤ (a2 : Int) := od_ (by first | (with_reducible assumption) | assumption)
           have q278 : a2 < (l1_2.length : Int) := od_ (by first | (with_reducible assumption) | assumption)
           obtain ⟨ad278, e278, hx278_0⟩ := Kd.at_bool HR1_2.out a2 p278 q278
           cases e278
           replace hx278_0 := (HB.out.cell (World.block_lt_of_cell? w _ hx278_0)).trans hx278_0
           replace p278 := eq_true p278
           replace q278 := eq_true q278
           go_wp2
           go_ret2
           exact ⟨by first | rfl | (simp <;> rfl) | (simp [*] <;> rfl), by repeat (first | (with_reducible first | exact HB.out | apply ba_ | apply bn_ | apply bd_ | refine below_set ?_ GE273.out) | exact HB.out)⟩
          ·rw [if_neg c27] at H
           exact absurd H (by simp)
         ·rw [if_neg c26] at H
          have c26b0 := decide_eq_false c26
          clear c26
          simp only [some.injEq, Prod.mk.injEq] at H
          obtain ⟨rfl, rfl⟩ := H
          have hcz29_0 : wr.cell? ⟨gb273, 0, none⟩ = some (.bool true) := (kc_ BK273.out 0).trans rfl
          have hcz29_1 : wr.cell? ⟨gb273, 1, none⟩ = some (.slice A1_1 l1_1.length c1_1) := (kc_ BK273.out 1).trans rfl
          have hcz29_2 : wr.cell? ⟨gb273, 2, none⟩ = some (.slice A1_2 l1_2.length c1_2) := (kc_ BK273.out 2).trans rfl
          have hfz29_0 := kf_ BK273.out 0
          have hfz29_1 := kf_ BK273.out 1
          have hfz29_2 := kf_ BK273.out 2
          go_wp2
          go_ret2
          exact ⟨by first | rfl | (simp <;> rfl) | (simp [*] <;> rfl), by repeat (first | (with_reducible first | exact HB.out | apply ba_ | apply bn_ | apply bd_ | refine below_set ?_ GE273.out) | exact HB.out)⟩
        ·replace c25 := Bool.eq_false_iff.mpr c25
         subst c25
         have H1 : (medlarref23_Ask.l1 k2 a0 l3 (l3.length : Int) 0 false l1_1 l1_2) = some (r1, r2) := by rw [if_neg (show ¬ (false = true) by decide)] at H; exact H
         clear H
         have H := H1
         clear H1
         have H' := ak_ H
         clear H
         have hcz30_0 : wr.cell? ⟨gb273, 0, none⟩ = some (.bool false) := (kc_ BK273.out 0).trans rfl
         have hcz30_1 : wr.cell? ⟨gb273, 1, none⟩ = some (.slice A1_1 l1_1.length c1_1) := (kc_ BK273.out 1).trans rfl
         have hcz30_2 : wr.cell? ⟨gb273, 2, none⟩ = some (.slice A1_2 l1_2.length c1_2) := (kc_ BK273.out 2).trans rfl
         have hfz30_0 := kf_ BK273.out 0
         have hfz30_1 := kf_ BK273.out 1
         have hfz30_2 := kf_ BK273.out 2
         go_wp2
         go_loopg [54] k2 (fun kq v54 w' => ∃ (x54_3 : Int), v54 = .int .i64 x54_3 ∧ Aside0 (medlarref23_Ask.l1 kq a0 l3 (l3.length : Int) x54_3 false l1_1 l1_2 = some (r1, r2)) ∧ Aside0 (kq ≤ k2) ∧ Aside0 (w'.heap[gb273]? = some (.cells #[.bool false, (.slice A1_1 l1_1.length c1_1), (.slice A1_2 l1_2.length c1_2)] 42 (0, 0))) ∧ Aside0 (Below w.heap.size w w'))
         case atStart => exact ⟨(0), (by first | rfl | (simp; done) | (simp [*]; done)), H', ⟨Nat.le_refl _⟩, ⟨kl_ BK273⟩, ⟨by repeat (first | (with_reducible first | exact HB.out | apply ba_ | apply bn_ | apply bd_ | refine below_set ?_ GE273.out) | exact HB.out)⟩⟩
         case round =>
          clear H'
          try clear c1
          try clear c2
          try clear p2
          try clear q2
          try clear hx2
          try clear c3
          try clear c4
          try clear p6
          try clear c8
          try clear c8b0
          try clear c8b1
          try clear c11
          try clear c12
          try clear c12b0
          try clear c13
          try clear c13b0
          try clear c14
          try clear c14b0
          try clear c16
          try clear c16b0
          try clear c16b1
          try clear c17
          try clear c18
          try clear c22
          try clear c25
          try clear c26
          try clear c26b0
          try clear c27
          try clear c27b0
          try clear p27
          try clear q27
          try clear hx27
          try clear hcz10_0
          try clear hcz10_1
          try clear hcz10_2
          try clear hcz19_0
          try clear hcz19_1
          try clear hcz23_0
          try clear hcz23_1
          try clear hcz28_0
          try clear hcz28_1
          try clear hcz28_2
          try clear hcz29_0
          try clear hcz29_1
          try clear hcz29_2
          try clear hcz30_0
          try clear hcz30_1
          try clear hcz30_2
          try clear hcz9_0
          try clear hcz9_1
          try clear hcz9_2
          try clear hfz10_0
          try clear hfz10_1
          try clear hfz10_2
          try clear hfz19_0
          try clear hfz19_1
          try clear hfz23_0
          try clear hfz23_1
          try clear hfz28_0
          try clear hfz28_1
          try clear hfz28_2
          try clear hfz29_0
          try clear hfz29_1
          try clear hfz29_2
          try clear hfz30_0
          try clear hfz30_1
          try clear hfz30_2
          try clear hfz9_0
          try clear hfz9_1
          try clear hfz9_2
          try clear hx275_0
          try clear hx275_1
          try clear hx278_0
          try clear p2
          try clear p275
          try clear p278
          try clear q275
          try clear q278
          obtain ⟨x54_3, rfl, HA, HK3, BK273, HB⟩ := hrel
          cases gk with
          | zero => exact absurd HA.out (by simp [medlarref23_Ask.l1])
          | succ k3 =>
           have H := HA.out
           clear HA
           simp only [medlarref23_Ask.l1] at H
           by_cases c31 : x54_3 < (l3.length : Int)
           ·rw [if_pos c31] at H
            have c31b0 := decide_eq_true c31
            clear c31
            by_cases c32 : 0 ≤ x54_3
            ·rw [if_pos c32] at H
             have c32b0 := decide_eq_true c32
             clear c32
             by_cases c33 : x54_3 < (l3.length : Int)
             ·rw [if_pos c33] at H
              have c33b0 := decide_eq_true c33
              clear c33
              have H' := ak_ H
              clear H
              have p279 : 0 ≤ (x54_3 : Int) := od_ (by first | (with_reducible assumption) | assumption)
              have q279 : x54_3 < (l3.length : Int) := od_ (by first | (with_reducible assumption) | assumption)
              obtain ⟨ad279, e279, hx279_0, hx279_1⟩ := at_T24 HR3.out x54_3 p279 q279
              cases e279
              replace hx279_0 := (HB.out.cell (World.block_lt_of_cell? w _ hx279_0)).trans hx279_0
              replace hx279_1 := (HB.out.cell (World.block_lt_of_cell? w _ hx279_1)).trans hx279_1
              replace p279 := eq_true p279
              replace q279 := eq_true q279
              go_wp2_with (first | ((with_reducible refine gate_dst (N := 13) rfl ?_); refine box_event ?hg (N := 13) ?hd (cs := #[.int .u64 0, .int .u64 0]) (t := 24) ?hr ?_; (case hd => rfl); (case hg => rfl); (case hr => first | (go_simp; done) | (go_simp; rfl)); intro gb280 hg w34 hbox hb; have n0_ := ak_ (kb_ (g := gb273) (o := .cells #[.bool false, .slice A1_1 l1_1.length c1_1, .slice A1_2 l1_2.length c1_2] 42 (0, 0)) (kl_ BK273) hb); have n1_ := ak_ (bt_ (by repeat (first | (with_reducible first | exact HB.out | apply ba_ | apply bn_ | apply bd_ | refine below_set ?_ GE273.out) | exact HB.out)) hb); have n2_ := ak_ (hbox); have n3_ := ak_ ((by rw [hg]; exact (bz_ (by repeat (first | (with_reducible first | exact HB.out | apply ba_ | apply bn_ | apply bd_ | refine below_set ?_ GE273.out) | exact HB.out))) : w.heap.size ≤ gb280)); have n4_ := ak_ ((by rw [hg]; exact (bz_ (by repeat (first | (with_reducible first | exact HB.out | apply ba_ | apply bn_ | apply bd_ | refine below_set ?_ GE273.out) | exact HB.out))) : w.heap.size ≤ gb280)); have n5_ := ak_ ((by rw [hg]; exact Nat.ne_of_lt (blk_lt (g := gb273) (o := .cells #[.bool false, .slice A1_1 l1_1.length c1_1, .slice A1_2 l1_2.length c1_2] 42 (0, 0)) (kl_ BK273)) : gb273 ≠ gb280)); have n6_ := ak_ ((by rw [hg]; exact Nat.ne_of_gt (blk_lt (g := gb273) (o := .cells #[.bool false, .slice A1_1 l1_1.length c1_1, .slice A1_2 l1_2.length c1_2] 42 (0, 0)) (kl_ BK273)) : gb280 ≠ gb273)); clear BK273; clear HB; have BK273 := n0_; have HB := n1_; have BK280 := n2_; have GW280 := n3_; have GE280 := n4_; have NB273_280 := n5_; have NB280_273 := n6_; clear n0_ n1_ n2_ n3_ n4_ n5_ n6_; clear hb hbox hg; have hnb35 := NB280_273.out; have hnc35 := NB273_280.out; have hcz36_0 : w34.cell? ⟨gb280, 0, none⟩ = some (.int .u64 0) := (kc_ BK280.out 0).trans rfl; have hcz36_1 : w34.cell? ⟨gb280, 1, none⟩ = some (.int .u64 0) := (kc_ BK280.out 1).trans rfl; have hfz36_0 := kf_ BK280.out 0; have hfz36_1 := kf_ BK280.out 1; have hcz37_0 : w34.cell? ⟨gb273, 0, none⟩ = some (.bool false) := (kc_ BK273.out 0).trans rfl; have hcz37_1 : w34.cell? ⟨gb273, 1, none⟩ = some (.slice A1_1 l1_1.length c1_1) := (kc_ BK273.out 1).trans rfl; have hcz37_2 : w34.cell? ⟨gb273, 2, none⟩ = some (.slice A1_2 l1_2.length c1_2) := (kc_ BK273.out 2).trans rfl; have hfz37_0 := kf_ BK273.out 0; have hfz37_1 := kf_ BK273.out 1; have hfz37_2 := kf_ BK273.out 2))
              go_loopg [61] k3 (fun kq v61 w' => ∃ (x61_4 : Int), v61 = .int .i64 x61_4 ∧ Aside0 (medlarref23_Ask.l2 kq a0 l3 (l3.length : Int) x54_3 l1_1 (l1_1.length : Int) x61_4 false l1_1 l1_2 ((rd_T24 l3 x54_3).f0) ((rd_T24 l3 x54_3).f1) = some (r1, r2)) ∧ Aside0 (kq ≤ k3) ∧ Aside0 (w'.heap[gb273]? = some (.cells #[.bool false, (.slice A1_1 l1_1.length c1_1), (.slice A1_2 l1_2.length c1_2)] 42 (0, 0))) ∧ Aside0 (w'.heap[gb280]? = some (.cells #[.int .u64 ((rd_T24 l3 x54_3).f0), .int .u64 ((rd_T24 l3 x54_3).f1)] 24 (0, 0))) ∧ Aside0 (Below w.heap.size w w'))
              case atStart => exact ⟨(0), (by first | rfl | (simp; done) | (simp [*]; done)), H', ⟨Nat.le_refl _⟩, ⟨by (with_reducible repeat (first | refine kn_ ?_ _ | refine kd_ ?_ | refine ka_ ?_ _)); refine blk_far ?_ NB273_280.out _; (with_reducible repeat (first | refine kn_ ?_ _ | refine kd_ ?_ | refine ka_ ?_ _)); refine blk_far ?_ NB273_280.out _; (with_reducible repeat (first | refine kn_ ?_ _ | refine kd_ ?_ | refine ka_ ?_ _)); exact BK273.out⟩, ⟨by (with_reducible repeat (first | refine kn_ ?_ _ | refine kd_ ?_ | refine ka_ ?_ _)); refine blk_put (cs := #[.int .u64 ((rd_T24 l3 x54_3).f0), .int .u64 0]) ?_ 1 _ rfl; (with_reducible repeat (first | refine kn_ ?_ _ | refine kd_ ?_ | refine ka_ ?_ _)); refine blk_put (cs := #[.int .u64 0, .int .u64 0]) ?_ 0 _ rfl; (with_reducible repeat (first | refine kn_ ?_ _ | refine kd_ ?_ | refine ka_ ?_ _)); exact BK280.out⟩, ⟨by repeat (first | (with_reducible first | exact HB.out | apply ba_ | apply bn_ | apply bd_ | refine below_set ?_ GE273.out | refine below_set ?_ GE280.out) | exact HB.out)⟩⟩
              case round =>
               clear H'
               try clear c1
               try clear c2
               try clear p2
               try clear q2
               try clear hx2
               try clear c3
               try clear c4
               try clear p6
               try clear c8
               try clear c8b0
               try clear c8b1
               try clear c11
               try clear c12
               try clear c12b0
               try clear c13
               try clear c13b0
               try clear c14
               try clear c14b0
               try clear c16
               try clear c16b0
               try clear c16b1
               try clear c17
               try clear c18
               try clear c22
               try clear c25
               try clear c26
               try clear c26b0
               try clear c27
               try clear c27b0
               try clear p27
               try clear q27
               try clear hx27
               try clear c31
               try clear c31b0
               try clear c32
               try clear c32b0
               try clear c33
               try clear c33b0
               try clear c35
               try clear hcz10_0
               try clear hcz10_1
               try clear hcz10_2
               try clear hcz19_0
               try clear hcz19_1
               try clear hcz23_0
               try clear hcz23_1
               try clear hcz28_0
               try clear hcz28_1
               try clear hcz28_2
               try clear hcz29_0
               try clear hcz29_1
               try clear hcz29_2
               try clear hcz30_0
               try clear hcz30_1
               try clear hcz30_2
               try clear hcz36_0
               try clear hcz36_1
               try clear hcz37_0
               try clear hcz37_1
               try clear hcz37_2
               try clear hcz9_0
               try clear hcz9_1
               try clear hcz9_2
               try clear hfz10_0
               try clear hfz10_1
               try clear hfz10_2
               try clear hfz19_0
               try clear hfz19_1
               try clear hfz23_0
               try clear hfz23_1
               try clear hfz28_0
               try clear hfz28_1
               try clear hfz28_2
               try clear hfz29_0
               try clear hfz29_1
               try clear hfz29_2
               try clear hfz30_0
               try clear hfz30_1
               try clear hfz30_2
               try clear hfz36_0
               try clear hfz36_1
               try clear hfz37_0
               try clear hfz37_1
               try clear hfz37_2
               try clear hfz9_0
               try clear hfz9_1
               try clear hfz9_2
               try clear hx275_0
               try clear hx275_1
               try clear hx278_0
               try clear hx279_0
               try clear hx279_1
               try clear p2
               try clear p27
               try clear p275
               try clear p278
               try clear p279
               try clear p6
               try clear q2
               try clear q27
               try clear q275
               try clear q278
               try clear q279
               obtain ⟨x61_4, rfl, HA, HK4, BK273, BK280, HB⟩ := hrel
               cases gk with
               | zero => exact absurd HA.out (by simp [medlarref23_Ask.l2])
               | succ k4 =>
                have H := HA.out
                clear HA
                simp only [medlarref23_Ask.l2] at H
                by_cases c38 : x61_4 < (l1_1.length : Int)
                ·rw [if_pos c38] at H
                 have c38b0 := decide_eq_true c38
                 clear c38
                 by_cases c39 : 0 ≤ x61_4
                 ·rw [if_pos c39] at H
                  have c39b0 := decide_eq_true c39
                  clear c39
                  by_cases c40 : x61_4 < (l1_1.length : Int)
                  ·rw [if_pos c40] at H
                   have c40b0 := decide_eq_true c40
                   clear c40
                   replace H := bind_eq_some_iff.mp H
                   obtain ⟨⟨t282, t283⟩, A410, H⟩ := H
                   replace H : (if t282 = true then (some (true, 0)) else (medlarref23_Ask.l2 k4 a0 l3 (l3.length : Int) x54_3 l1_1 (l1_1.length : Int) (wrap64 (x61_4 + 1)) false l1_1 l1_2 ((rd_T24 l3 x54_3).f0) ((rd_T24 l3 x54_3).f1))) = some (r1, r2) := H
                   have A41 := ak_ A410
                   clear A410
                   by_cases c42 : t282 = true
                   ·subst c42
                    have H1 : (some (true, 0)) = some (r1, r2) := by rw [if_pos rfl] at H; exact H
                    clear H
                    have H := H1
                    clear H1
                    simp only [some.injEq, Prod.mk.injEq] at H
                    obtain ⟨rfl, rfl⟩ := H
                    have p281 : 0 ≤ (x61_4 : Int) := od_ (by first | (with_reducible assumption) | assumption)
                    have q281 : x61_4 < (l1_1.length : Int) := od_ (by first | (with_reducible assumption) | assumption)
                    obtain ⟨ad281, e281, hx281_0⟩ := Kd.at_int HR1_1.out x61_4 p281 q281
                    cases e281
                    replace hx281_0 := (HB.out.cell (World.block_lt_of_cell? w _ hx281_0)).trans hx281_0
                    replace p281 := eq_true p281
                    replace q281 := eq_true q281
                    have hnb43 := NB280_273.out
                    have hnc43 := NB273_280.out
                    have hcz44_0 : wr.cell? ⟨gb280, 0, none⟩ = some (.int .u64 ((rd_T24 l3 x54_3).f0)) := (kc_ BK280.out 0).trans rfl
                    have hcz44_1 : wr.cell? ⟨gb280, 1, none⟩ = some (.int .u64 ((rd_T24 l3 x54_3).f1)) := (kc_ BK280.out 1).trans rfl
                    have hfz44_0 := kf_ BK280.out 0
                    have hfz44_1 := kf_ BK280.out 1
                    go_wp2_with (first | ((with_reducible refine gate_callee (f := 44) rfl ?_); refine goesL_ (some 69) rfl rfl func44 (by kernel_rfl) rfl #[.int .i64 a0, .agg #[.int .u64 ((rd_T24 l3 x54_3).f0), .int .u64 ((rd_T24 l3 x54_3).f1)], .int .u64 (rd l1_1 x61_4)] rfl (by (try simp only [map_toArray, map_cons, map_nil]); first | done | rfl) ?_; (with_reducible refine (medlarref08_Has.calls k4 a0 ((rd_T24 l3 x54_3).f0) ((rd_T24 l3 x54_3).f1) (rd l1_1 x61_4) true t283 _ A41.out).mono ?_); rintro e w45 ⟨rfl, hb⟩; refine ⟨_, rfl, ?_⟩; have n0_ := ak_ (kb_ (g := gb273) (o := .cells #[.bool false, .slice (some ad281) l1_1.length c1_1, .slice A1_2 l1_2.length c1_2] 42 (0, 0)) (kl_ BK273) hb); have n1_ := ak_ (kb_ (g := gb280) (o := .cells #[.int .u64 ((rd_T24 l3 x54_3).f0), .int .u64 ((rd_T24 l3 x54_3).f1)] 24 (0, 0)) (kl_ BK280) hb); have n2_ := ak_ (bt_ (by repeat (first | (with_reducible first | exact HB.out | apply ba_ | apply bn_ | apply bd_ | refine below_set ?_ GE273.out | refine below_set ?_ GE280.out) | exact HB.out)) hb); clear BK273; clear BK280; clear HB; have BK273 := n0_; have BK280 := n1_; have HB := n2_; clear n0_ n1_ n2_; (try clear hb); (try clear hk)))
                    go_ret2
                    exact ⟨by first | rfl | (simp <;> rfl) | (simp [*] <;> rfl), by repeat (first | (with_reducible first | exact HB.out | apply ba_ | apply bn_ | apply bd_ | refine below_set ?_ GE273.out | refine below_set ?_ GE280.out) | exact HB.out)⟩
                   ·replace c42 := Bool.eq_false_iff.mpr c42
                    subst c42
                    have H1 : (medlarref23_Ask.l2 k4 a0 l3 (l3.length : Int) x54_3 l1_1 (l1_1.length : Int) (wrap64 (x61_4 + 1)) false l1_1 l1_2 ((rd_T24 l3 x54_3).f0) ((rd_T24 l3 x54_3).f1)) = some (r1, r2) := by rw [if_neg (show ¬ (false = true) by decide)] at H; exact H
                    clear H
                    have H := H1
                    clear H1
                    have H' := ak_ H
                    clear H
                    have p281 : 0 ≤ (x61_4 : Int) := od_ (by first | (with_reducible assumption) | assumption)
                    have q281 : x61_4 < (l1_1.length : Int) := od_ (by first | (with_reducible assumption) | assumption)
                    obtain ⟨ad281, e281, hx281_0⟩ := Kd.at_int HR1_1.out x61_4 p281 q281
                    cases e281
                    replace hx281_0 := (HB.out.cell (World.block_lt_of_cell? w _ hx281_0)).trans hx281_0
                    replace p281 := eq_true p281
                    replace q281 := eq_true q281
                    have hnb46 := NB280_273.out
                    have hnc46 := NB273_280.out
                    have hcz47_0 : wr.cell? ⟨gb280, 0, none⟩ = some (.int .u64 ((rd_T24 l3 x54_3).f0)) := (kc_ BK280.out 0).trans rfl
                    have hcz47_1 : wr.cell? ⟨gb280, 1, none⟩ = some (.int .u64 ((rd_T24 l3 x54_3).f1)) := (kc_ BK280.out 1).trans rfl
                    have hfz47_0 := kf_ BK280.out 0
                    have hfz47_1 := kf_ BK280.out 1
                    go_wp2_with (first | ((with_reducible refine gate_callee (f := 44) rfl ?_); refine goesL_ (some 69) rfl rfl func44 (by kernel_rfl) rfl #[.int .i64 a0, .agg #[.int .u64 ((rd_T24 l3 x54_3).f0), .int .u64 ((rd_T24 l3 x54_3).f1)], .int .u64 (rd l1_1 x61_4)] rfl (by (try simp only [map_toArray, map_cons, map_nil]); first | done | rfl) ?_; (with_reducible refine (medlarref08_Has.calls k4 a0 ((rd_T24 l3 x54_3).f0) ((rd_T24 l3 x54_3).f1) (rd l1_1 x61_4) false t283 _ A41.out).mono ?_); rintro e w48 ⟨rfl, hb⟩; refine ⟨_, rfl, ?_⟩; have n0_ := ak_ (kb_ (g := gb273) (o := .cells #[.bool false, .slice (some ad281) l1_1.length c1_1, .slice A1_2 l1_2.length c1_2] 42 (0, 0)) (kl_ BK273) hb); have n1_ := ak_ (kb_ (g := gb280) (o := .cells #[.int .u64 ((rd_T24 l3 x54_3).f0), .int .u64 ((rd_T24 l3 x54_3).f1)] 24 (0, 0)) (kl_ BK280) hb); have n2_ := ak_ (bt_ (by repeat (first | (with_reducible first | exact HB.out | apply ba_ | apply bn_ | apply bd_ | refine below_set ?_ GE273.out | refine below_set ?_ GE280.out) | exact HB.out)) hb); clear BK273; clear BK280; clear HB; have BK273 := n0_; have BK280 := n1_; have HB := n2_; clear n0_ n1_ n2_; (try clear hb); (try clear hk)))
                    go_roundg k4
                    case measure => have := HJ4.out; have := HK2.out; have := HK3.out; have := HK4.out; omega
                    case rel => exact ⟨(wrap64 (x61_4 + 1)), (by first | rfl | (simp; done) | (simp [*]; done)), H', ⟨by have := HJ4.out; have := HK2.out; have := HK3.out; have := HK4.out; omega⟩, ⟨kl_ BK273⟩, ⟨kl_ BK280⟩, ⟨by repeat (first | (with_reducible first | exact HB.out | apply ba_ | apply bn_ | apply bd_ | refine below_set ?_ GE273.out | refine below_set ?_ GE280.out) | exact HB.out)⟩⟩
                  ·rw [if_neg c40] at H
                   exact absurd H (by simp)
                 ·rw [if_neg c39] at H
                  exact absurd H (by simp)
                ·rw [if_neg c38] at H
                 have c38b0 := decide_eq_false c38
                 clear c38
                 have H' := ak_ H
                 clear H
                 go_wp2
                 go_roundg k4
                 case measure => have := HJ4.out; have := HK2.out; have := HK3.out; have := HK4.out; omega
                 case rel => exact ⟨(wrap64 (x54_3 + 1)), (by first | rfl | (simp; done) | (simp [*]; done)), H', ⟨by have := HJ4.out; have := HK2.out; have := HK3.out; have := HK4.out; omega⟩, ⟨kl_ BK273⟩, ⟨by repeat (first | (with_reducible first | exact HB.out | apply ba_ | apply bn_ | apply bd_ | refine below_set ?_ GE273.out | refine below_set ?_ GE280.out) | exact HB.out)⟩⟩
             ·rw [if_neg c33] at H
              exact absurd H (by simp)
            ·rw [if_neg c32] at H
             exact absurd H (by simp)
           ·rw [if_neg c31] at H
            have c31b0 := decide_eq_false c31
            clear c31
            simp only [some.injEq, Prod.mk.injEq] at H
            obtain ⟨rfl, rfl⟩ := H
            go_wp2
            go_ret2
            exact ⟨by first | rfl | (simp <;> rfl) | (simp [*] <;> rfl), by repeat (first | (with_reducible first | exact HB.out | apply ba_ | apply bn_ | apply bd_ | refine below_set ?_ GE273.out) | exact HB.out)⟩
def bits_Len.f (k : Nat) (a0 : Int) : Option (Int) := (bits_Len64.f k a0).bind fun t284 => (some t284)
set_option maxHeartbeats 8000000 in
set_option maxRecDepth 100000 in
theorem bits_Len.calls (k : Nat) (a0 : Int) (r : Int) (w : World) (h : bits_Len.f k a0 = some r) :
   Calls Try.prog 45 #[.int .u64 a0] w fun e w' => e = .returned (.int .i64 r) ∧ Drawn0 w w' := by
  have H : ((bits_Len64.f k a0).bind fun t284 => (some t284)) = some r := h
  clear h
  replace H := bind_eq_some_iff.mp H
  obtain ⟨t284, A20, H⟩ := H
  replace H : (some t284) = some r := H
  have A2 := ak_ A20
  clear A20
  obtain rfl := Option.some.inj H
  go_enter func45, ntmps45
  go_wp2_with (first | ((with_reducible refine gate_callee (f := 72) rfl ?_); refine goesL_ (some 7) rfl rfl func72 (by kernel_rfl) rfl #[.int .u64 a0] rfl (by (try simp only [map_toArray, map_cons, map_nil]); first | done | rfl) ?_; (with_reducible refine (bits_Len64.calls k a0 t284 _ A2.out).mono ?_); rintro e w' ⟨rfl, ⟨nd, rfl⟩⟩; refine ⟨_, rfl, ?_⟩))
  go_ret
  exact ⟨by first | rfl | (simp; done) | (simp [*]; done), by repeat (first | exact Drawn0.refl _ | apply Drawn0.step)⟩
def trace_Bound.f (k : Nat) (a0 : Int) (a1 : Int) : Option (Int × Int) := (node_Check.f k a0 1).bind fun t285 => (if t285 = 0 then (if a1 < 1 then (some (0, 1)) else (if a1 > 32768 then (some (0, 1)) else ((bits_Len.f k (IntKind.u64.wrap (a1))).bind fun t286 => (some (wrap64 ((wrap64 ((wrap64 (2 * a0)) + t286)) + 3), 0))))) else (some (0, 1)))
set_option maxHeartbeats 8000000 in
set_option maxRecDepth 100000 in
theorem trace_Bound.calls (k : Nat) (a0 : Int) (a1 : Int) (r1 : Int) (r2 : Int) (w : World) (h : trace_Bound.f k a0 a1 = some (r1, r2)) :
   Calls Try.prog 18 #[.int .i64 a0, .int .i64 a1] w fun e w' => e = .returned (.tuple #[.int .i64 r1, .int .i64 r2]) ∧ Drawn0 w w' := by
  have H : ((node_Check.f k a0 1).bind fun t285 => (if t285 = 0 then (if a1 < 1 then (some (0, 1)) else (if a1 > 32768 then (some (0, 1)) else ((bits_Len.f k (IntKind.u64.wrap (a1))).bind fun t286 => (some (wrap64 ((wrap64 ((wrap64 (2 * a0)) + t286)) + 3), 0))))) else (some (0, 1)))) = some (r1, r2) := h
  clear h
  replace H := bind_eq_some_iff.mp H
  obtain ⟨t285, A30, H⟩ := H
  replace H : (if t285 = 0 then (if a1 < 1 then (some (0, 1)) else (if a1 > 32768 then (some (0, 1)) else ((bits_Len.f k (IntKind.u64.wrap (a1))).bind fun t286 => (some (wrap64 ((wrap64 ((wrap64 (2 * a0)) + t286)) + 3), 0))))) else (some (0, 1))) = some (r1, r2) := H
  have A3 := ak_ A30
  clear A30
  by_cases c4 : t285 = 0
  ·rw [if_pos c4] at H
   have c4b0 : (t285 == 0) = true := beq_iff_eq.mpr c4
   have c4b1 : (t285 != 0) = false := bne_eq_false_iff_eq.mpr c4
   clear c4
   by_cases c5 : a1 < 1
   ·rw [if_pos c5] at H
    have c5b0 := decide_eq_true c5
    clear c5
    simp only [some.injEq, Prod.mk.injEq] at H
    obtain ⟨rfl, rfl⟩ := H
    go_enter func18, ntmps18
    go_wp2_with (first | ((with_reducible refine gate_callee (f := 33) rfl ?_); refine goesL_ (some 8) rfl rfl func33 (by kernel_rfl) rfl #[.int .i64 a0, .int .u64 1] rfl (by (try simp only [map_toArray, map_cons, map_nil]); first | done | rfl) ?_; (with_reducible refine (node_Check.calls k a0 1 t285 _ A3.out).mono ?_); rintro e w' ⟨rfl, ⟨nd, rfl⟩⟩; refine ⟨_, rfl, ?_⟩))
    go_ret2
    exact ⟨by first | rfl | (simp; done) | (simp [*]; done), by repeat (first | exact Drawn0.refl _ | apply Drawn0.step)⟩
   ·rw [if_neg c5] at H
    have c5b0 := decide_eq_false c5
    clear c5
    by_cases c6 : a1 > 32768
    ·rw [if_pos c6] at H
     have c6b0 : decide (32768 < a1) = true := decide_eq_true c6
     clear c6
     simp only [some.injEq, Prod.mk.injEq] at H
     obtain ⟨rfl, rfl⟩ := H
     go_enter func18, ntmps18
     go_wp2_with (first | ((with_reducible refine gate_callee (f := 33) rfl ?_); refine goesL_ (some 8) rfl rfl func33 (by kernel_rfl) rfl #[.int .i64 a0, .int .u64 1] rfl (by (try simp only [map_toArray, map_cons, map_nil]); first | done | rfl) ?_; (with_reducible refine (node_Check.calls k a0 1 t285 _ A3.out).mono ?_); rintro e w' ⟨rfl, ⟨nd, rfl⟩⟩; refine ⟨_, rfl, ?_⟩))
     go_ret2
     exact ⟨by first | rfl | (simp; done) | (simp [*]; done), by repeat (first | exact Drawn0.refl _ | apply Drawn0.step)⟩
    ·rw [if_neg c6] at H
     have c6b0 : decide (32768 < a1) = false := decide_eq_false c6
     clear c6
     replace H := bind_eq_some_iff.mp H
     obtain ⟨t286, A70, H⟩ := H
     replace H : (some (wrap64 ((wrap64 ((wrap64 (2 * a0)) + t286)) + 3), 0)) = some (r1, r2) := H
     have A7 := ak_ A70
     clear A70
     simp only [some.injEq, Prod.mk.injEq] at H
     obtain ⟨rfl, rfl⟩ := H
     go_enter func18, ntmps18
     go_wp2_with (first | ((with_reducible refine gate_callee (f := 33) rfl ?_); refine goesL_ (some 8) rfl rfl func33 (by kernel_rfl) rfl #[.int .i64 a0, .int .u64 1] rfl (by (try simp only [map_toArray, map_cons, map_nil]); first | done | rfl) ?_; (with_reducible refine (node_Check.calls k a0 1 t285 _ A3.out).mono ?_); rintro e w' ⟨rfl, ⟨nd, rfl⟩⟩; refine ⟨_, rfl, ?_⟩) | ((with_reducible refine gate_callee (f := 45) rfl ?_); refine goesL_ (some 23) rfl rfl func45 (by kernel_rfl) rfl #[.int .u64 (IntKind.u64.wrap (a1))] rfl (by (try simp only [map_toArray, map_cons, map_nil]); first | done | rfl) ?_; (with_reducible refine (bits_Len.calls k (IntKind.u64.wrap (a1)) t286 _ A7.out).mono ?_); rintro e w' ⟨rfl, ⟨nd, rfl⟩⟩; refine ⟨_, rfl, ?_⟩))
     go_ret2
     exact ⟨by first | rfl | (simp; done) | (simp [*]; done), by repeat (first | exact Drawn0.refl _ | apply Drawn0.step)⟩
  ·rw [if_neg c4] at H
   have c4b0 : (t285 == 0) = false := beq_eq_false_iff_ne.mpr c4
   have c4b1 : (t285 != 0) = true := bne_iff_ne.mpr c4
   simp only [some.injEq, Prod.mk.injEq] at H
   obtain ⟨rfl, rfl⟩ := H
   go_enter func18, ntmps18
   go_wp2_with (first | ((with_reducible refine gate_callee (f := 33) rfl ?_); refine goesL_ (some 8) rfl rfl func33 (by kernel_rfl) rfl #[.int .i64 a0, .int .u64 1] rfl (by (try simp only [map_toArray, map_cons, map_nil]); first | done | rfl) ?_; (with_reducible refine (node_Check.calls k a0 1 t285 _ A3.out).mono ?_); rintro e w' ⟨rfl, ⟨nd, rfl⟩⟩; refine ⟨_, rfl, ?_⟩))
   go_ret2
   exact ⟨by first | rfl | (simp; done) | (simp [*]; done), by repeat (first | exact Drawn0.refl _ | apply Drawn0.step)⟩
mutual
def medlarref23_Bound.j0 : Nat → Int → Int → Bool → Option (Int × Int)
  | 0, _, _, _ => none
  | k + 1, x0, x1, x18 => if x18 = true then (some (0, 1)) else (medlarref23_Bound.l0 k x0 0 x1)
def medlarref23_Bound.l0 : Nat → Int → Int → Int → Option (Int × Int)
  | 0, _, _, _ => none
  | k + 1, x0, x6, x7 => if x7 > 0 then (medlarref23_Bound.l0 k x0 (wrap64 (x6 + 1)) (wrap64 (Int.tdiv x7 2))) else (some (wrap64 ((wrap64 ((wrap64 (2 * x0)) + x6)) + 3), 0))
end
def medlarref23_Bound.f (k : Nat) (a0 : Int) (a1 : Int) : Option (Int × Int) := (medlarref01_Check.f k a0 1).bind fun t287 => (if t287 = 0 then (if a1 < 1 then (medlarref23_Bound.j0 k a0 a1 true) else (medlarref23_Bound.j0 k a0 a1 (decide (a1 > 32768)))) else (medlarref23_Bound.j0 k a0 a1 true))
set_option maxHeartbeats 8000000 in
set_option maxRecDepth 100000 in
theorem medlarref23_Bound.calls (k : Nat) (a0 : Int) (a1 : Int) (r1 : Int) (r2 : Int) (w : World) (h : medlarref23_Bound.f k a0 a1 = some (r1, r2)) :
   Calls Try.prog 19 #[.int .i64 a0, .int .i64 a1] w fun e w' => e = .returned (.tuple #[.int .i64 r1, .int .i64 r2]) ∧ Drawn0 w w' := by
  have H : ((medlarref01_Check.f k a0 1).bind fun t287 => (if t287 = 0 then (if a1 < 1 then (medlarref23_Bound.j0 k a0 a1 true) else (medlarref23_Bound.j0 k a0 a1 (decide (a1 > 32768)))) else (medlarref23_Bound.j0 k a0 a1 true))) = some (r1, r2) := h
  clear h
  have HC3 := ak_ H
  clear H
  go_enter func19, ntmps19
  go_upto_region 1 with (fail)
  go_cut [18] (fun v18 wc => ∃ (kq : Nat) (x18_2 : Bool), v18 = .bool x18_2 ∧ Aside0 (medlarref23_Bound.j0 kq a0 a1 x18_2 = some (r1, r2)) ∧ Aside0 (kq ≤ k) ∧ Drawn0 w wc)
  case first =>
   have H := HC3.out
   clear HC3
   replace H := bind_eq_some_iff.mp H
   obtain ⟨t287, A40, H⟩ := H
   replace H : (if t287 = 0 then (if a1 < 1 then (medlarref23_Bound.j0 k a0 a1 true) else (medlarref23_Bound.j0 k a0 a1 (decide (a1 > 32768)))) else (medlarref23_Bound.j0 k a0 a1 true)) = some (r1, r2) := H
   have A4 := ak_ A40
   clear A40
   by_cases c5 : t287 = 0
   ·rw [if_pos c5] at H
    have c5b0 : (t287 == 0) = true := beq_iff_eq.mpr c5
    have c5b1 : (t287 != 0) = false := bne_eq_false_iff_eq.mpr c5
    clear c5
    (first | rw [c5b0] | (simp only [i64_w, i32_w]; rw [c5b0]) | skip)
    by_cases c6 : a1 < 1
    ·rw [if_pos c6] at H
     have c6b0 := decide_eq_true c6
     clear c6
     have H' := ak_ H
     clear H
     go_wp2_with (first | ((with_reducible refine gate_callee (f := 46) rfl ?_); refine goesL_ (some 9) rfl rfl func46 (by kernel_rfl) rfl #[.int .i64 a0, .int .u64 1] rfl (by (try simp only [map_toArray, map_cons, map_nil]); first | done | rfl) ?_; (with_reducible refine (medlarref01_Check.calls k a0 1 t287 _ A4.out).mono ?_); rintro e w' ⟨rfl, ⟨nd, rfl⟩⟩; refine ⟨_, rfl, ?_⟩))
     go_meet
     case rel => exact ⟨_, (true), (by first | rfl | (simp; done) | (simp [*]; done)), H', ⟨by first | omega | exact Nat.le_refl _⟩, by repeat (first | exact Drawn0.refl _ | apply Drawn0.step)⟩
    ·rw [if_neg c6] at H
     have c6b0 := decide_eq_false c6
     clear c6
     have H' := ak_ H
     clear H
     go_wp2_with (first | ((with_reducible refine gate_callee (f := 46) rfl ?_); refine goesL_ (some 9) rfl rfl func46 (by kernel_rfl) rfl #[.int .i64 a0, .int .u64 1] rfl (by (try simp only [map_toArray, map_cons, map_nil]); first | done | rfl) ?_; (with_reducible refine (medlarref01_Check.calls k a0 1 t287 _ A4.out).mono ?_); rintro e w' ⟨rfl, ⟨nd, rfl⟩⟩; refine ⟨_, rfl, ?_⟩))
     go_meet
     case rel => exact ⟨_, (decide (a1 > 32768)), (by first | rfl | (simp; done) | (simp [*]; done)), H', ⟨by first | omega | exact Nat.le_refl _⟩, by repeat (first | exact Drawn0.refl _ | apply Drawn0.step)⟩
   ·rw [if_neg c5] at H
    have c5b0 : (t287 == 0) = false := beq_eq_false_iff_ne.mpr c5
    have c5b1 : (t287 != 0) = true := bne_iff_ne.mpr c5
    (first | rw [c5b0] | (simp only [i64_w, i32_w]; rw [c5b0]) | skip)
    have H' := ak_ H
    clear H
    go_wp2_with (first | ((with_reducible refine gate_callee (f := 46) rfl ?_); refine goesL_ (some 9) rfl rfl func46 (by kernel_rfl) rfl #[.int .i64 a0, .int .u64 1] rfl (by (try simp only [map_toArray, map_cons, map_nil]); first | done | rfl) ?_; (with_reducible refine (medlarref01_Check.calls k a0 1 t287 _ A4.out).mono ?_); rintro e w' ⟨rfl, ⟨nd, rfl⟩⟩; refine ⟨_, rfl, ?_⟩))
    go_meet
    case rel => exact ⟨_, (true), (by first | rfl | (simp; done) | (simp [*]; done)), H', ⟨by first | omega | exact Nat.le_refl _⟩, by repeat (first | exact Drawn0.refl _ | apply Drawn0.step)⟩
  case rest =>
   clear HC3
   try clear c1
   try clear p2
   try clear c4
   try clear c5
   try clear c5b0
   try clear c5b1
   try clear c6
   try clear c6b0
   obtain ⟨kq, x18_2, rfl, HA, HJ2, ⟨mc2, rfl⟩⟩ := hcut
   cases kq with
   | zero => exact absurd HA.out (by simp [medlarref23_Bound.j0])
   | succ kj2 =>
    have H := HA.out
    clear HA
    simp only [medlarref23_Bound.j0] at H
    by_cases c7 : x18_2 = true
    ·subst c7
     have H1 : (some (0, 1)) = some (r1, r2) := by rw [if_pos rfl] at H; exact H
     clear H
     have H := H1
     clear H1
     simp only [some.injEq, Prod.mk.injEq] at H
     obtain ⟨rfl, rfl⟩ := H
     go_wp2
     go_ret2
     exact ⟨by first | rfl | (simp; done) | (simp [*]; done), by repeat (first | exact Drawn0.refl _ | apply Drawn0.step)⟩
    ·replace c7 := Bool.eq_false_iff.mpr c7
     subst c7
     have H1 : (medlarref23_Bound.l0 kj2 a0 0 a1) = some (r1, r2) := by rw [if_neg (show ¬ (false = true) by decide)] at H; exact H
     clear H
     have H := H1
     clear H1
     have H' := ak_ H
     clear H
     go_wp2
     go_loopg [6, 7] kj2 (fun kq v6 v7 w' => ∃ (x6_2 : Int) (x7_2 : Int), v6 = .int .i64 x6_2 ∧ v7 = .int .i64 x7_2 ∧ Aside0 (medlarref23_Bound.l0 kq a0 x6_2 x7_2 = some (r1, r2)) ∧ Aside0 (kq ≤ kj2) ∧ Drawn0 w w')
     case atStart => exact ⟨(0), (a1), (by first | rfl | (simp; done) | (simp [*]; done)), (by first | rfl | (simp; done) | (simp [*]; done)), H', ⟨Nat.le_refl _⟩, by repeat (first | exact Drawn0.refl _ | apply Drawn0.step)⟩
     case round =>
      clear H'
      try clear c1
      try clear c2
      try clear p2
      try clear c4
      try clear c5
      try clear c5b0
      try clear c5b1
      try clear c6
      try clear c6b0
      try clear c7
      try clear p2
      obtain ⟨x6_2, x7_2, rfl, rfl, HA, HK2, ⟨m2, rfl⟩⟩ := hrel
      cases gk with
      | zero => exact absurd HA.out (by simp [medlarref23_Bound.l0])
      | succ k2 =>
       have H := HA.out
       clear HA
       simp only [medlarref23_Bound.l0] at H
       by_cases c8 : x7_2 > 0
       ·rw [if_pos c8] at H
        have c8b0 : decide (0 < x7_2) = true := decide_eq_true c8
        clear c8
        have H' := ak_ H
        clear H
        go_wp2
        go_roundg k2
        case measure => have := HJ2.out; have := HK2.out; omega
        case rel => exact ⟨(wrap64 (x6_2 + 1)), (wrap64 (Int.tdiv x7_2 2)), (by first | rfl | (simp; done) | (simp [*]; done)), (by first | rfl | (simp; done) | (simp [*]; done)), H', ⟨by have := HJ2.out; have := HK2.out; omega⟩, by repeat (first | exact Drawn0.refl _ | apply Drawn0.step)⟩
       ·rw [if_neg c8] at H
        have c8b0 : decide (0 < x7_2) = false := decide_eq_false c8
        clear c8
        simp only [some.injEq, Prod.mk.injEq] at H
        obtain ⟨rfl, rfl⟩ := H
        go_wp2
        go_ret2
        exact ⟨by first | rfl | (simp; done) | (simp [*]; done), by repeat (first | exact Drawn0.refl _ | apply Drawn0.step)⟩
def medlarref12_scheme.f (k : Nat) (a0 : Int) (a1 : Int) : Option (Bool) := (medlarref01_May.f k a0 1).bind fun t288 => (if t288 = true then (if a1 ≥ 1 then (some (decide (a1 ≤ 3))) else (some false)) else (some false))
set_option maxHeartbeats 8000000 in
set_option maxRecDepth 100000 in
theorem medlarref12_scheme.calls (k : Nat) (a0 : Int) (a1 : Int) (r : Bool) (w : World) (h : medlarref12_scheme.f k a0 a1 = some r) :
   Calls Try.prog 95 #[.int .i64 a0, .int .i64 a1] w fun e w' => e = .returned (.bool r) ∧ Drawn0 w w' := by
  have H : ((medlarref01_May.f k a0 1).bind fun t288 => (if t288 = true then (if a1 ≥ 1 then (some (decide (a1 ≤ 3))) else (some false)) else (some false))) = some r := h
  clear h
  replace H := bind_eq_some_iff.mp H
  obtain ⟨t288, A30, H⟩ := H
  replace H : (if t288 = true then (if a1 ≥ 1 then (some (decide (a1 ≤ 3))) else (some false)) else (some false)) = some r := H
  have A3 := ak_ A30
  clear A30
  by_cases c4 : t288 = true
  ·subst c4
   have H1 : (if a1 ≥ 1 then (some (decide (a1 ≤ 3))) else (some false)) = some r := by rw [if_pos rfl] at H; exact H
   clear H
   have H := H1
   clear H1
   by_cases c5 : a1 ≥ 1
   ·rw [if_pos c5] at H
    have c5b0 : decide (1 ≤ a1) = true := decide_eq_true c5
    clear c5
    obtain rfl := Option.some.inj H
    go_enter func95, ntmps95
    go_wp2_with (first | ((with_reducible refine gate_callee (f := 69) rfl ?_); refine goesL_ (some 6) rfl rfl func69 (by kernel_rfl) rfl #[.int .i64 a0, .int .u64 1] rfl (by (try simp only [map_toArray, map_cons, map_nil]); first | done | rfl) ?_; (with_reducible refine (medlarref01_May.calls k a0 1 true _ A3.out).mono ?_); rintro e w' ⟨rfl, ⟨nd, rfl⟩⟩; refine ⟨_, rfl, ?_⟩))
    go_ret
    exact ⟨by first | rfl | (simp; done) | (simp [*]; done), by repeat (first | exact Drawn0.refl _ | apply Drawn0.step)⟩
   ·rw [if_neg c5] at H
    have c5b0 : decide (1 ≤ a1) = false := decide_eq_false c5
    clear c5
    obtain rfl := Option.some.inj H
    go_enter func95, ntmps95
    go_wp2_with (first | ((with_reducible refine gate_callee (f := 69) rfl ?_); refine goesL_ (some 6) rfl rfl func69 (by kernel_rfl) rfl #[.int .i64 a0, .int .u64 1] rfl (by (try simp only [map_toArray, map_cons, map_nil]); first | done | rfl) ?_; (with_reducible refine (medlarref01_May.calls k a0 1 true _ A3.out).mono ?_); rintro e w' ⟨rfl, ⟨nd, rfl⟩⟩; refine ⟨_, rfl, ?_⟩))
    go_ret
    exact ⟨by first | rfl | (simp; done) | (simp [*]; done), by repeat (first | exact Drawn0.refl _ | apply Drawn0.step)⟩
  ·replace c4 := Bool.eq_false_iff.mpr c4
   subst c4
   have H1 : (some false) = some r := by rw [if_neg (show ¬ (false = true) by decide)] at H; exact H
   clear H
   have H := H1
   clear H1
   obtain rfl := Option.some.inj H
   go_enter func95, ntmps95
   go_wp2_with (first | ((with_reducible refine gate_callee (f := 69) rfl ?_); refine goesL_ (some 6) rfl rfl func69 (by kernel_rfl) rfl #[.int .i64 a0, .int .u64 1] rfl (by (try simp only [map_toArray, map_cons, map_nil]); first | done | rfl) ?_; (with_reducible refine (medlarref01_May.calls k a0 1 false _ A3.out).mono ?_); rintro e w' ⟨rfl, ⟨nd, rfl⟩⟩; refine ⟨_, rfl, ?_⟩))
   go_ret
   exact ⟨by first | rfl | (simp; done) | (simp [*]; done), by repeat (first | exact Drawn0.refl _ | apply Drawn0.step)⟩
mutual
def medlarref08_Step.j0 : Nat → Int → Bool → Option (Int × Int)
  | 0, _, _ => none
  | k + 1, x0, x10 => if x10 = true then (some (0, 1)) else (medlarref08_Step.l0 k x0 1)
def medlarref08_Step.l0 : Nat → Int → Int → Option (Int × Int)
  | 0, _, _ => none
  | k + 1, x0, x4 => if (wrap64 (x4 * x4)) < x0 then (medlarref08_Step.l0 k x0 (wrap64 (x4 + 1))) else (some (x4, 0))
end
def medlarref08_Step.f (k : Nat) (a0 : Int) : Option (Int × Int) := if a0 < 1 then (medlarref08_Step.j0 k a0 true) else (medlarref08_Step.j0 k a0 (decide (a0 > 32)))
theorem medlarref08_Step.mono_l : ∀ k, (∀ y0 y1, LeO (medlarref08_Step.j0 k y0 y1) (medlarref08_Step.j0 (k + 1) y0 y1)) ∧ (∀ y0 y1, LeO (medlarref08_Step.l0 k y0 y1) (medlarref08_Step.l0 (k + 1) y0 y1))
  | 0 => ⟨fun _ _ r h => by simp [medlarref08_Step.j0] at h, fun _ _ r h => by simp [medlarref08_Step.l0] at h⟩
  | k + 1 => by
   obtain ⟨ih0, ih1⟩ := medlarref08_Step.mono_l k
   refine ⟨?_, ?_⟩
   ·intro y0 y1
    unfold medlarref08_Step.j0
    repeat' first
    | (with_reducible exact ih0 _ _)
    | (with_reducible exact ih1 _ _)
    | (with_reducible exact LeO.refl _)
    | (with_reducible exact LeO.none _)
    | (with_reducible refine LeO.ite ?_ ?_)
    | (with_reducible refine LeO.bind ?_ (fun _ => ?_))
    | exact ih0 _ _
    | exact ih1 _ _
    | exact LeO.none _
    | refine LeO.ite ?_ ?_
    | refine LeO.bind ?_ (fun _ => ?_)
   ·intro y0 y1
    unfold medlarref08_Step.l0
    repeat' first
    | (with_reducible exact ih0 _ _)
    | (with_reducible exact ih1 _ _)
    | (with_reducible exact LeO.refl _)
    | (with_reducible exact LeO.none _)
    | (with_reducible refine LeO.ite ?_ ?_)
    | (with_reducible refine LeO.bind ?_ (fun _ => ?_))
    | exact ih0 _ _
    | exact ih1 _ _
    | exact LeO.none _
    | refine LeO.ite ?_ ?_
    | refine LeO.bind ?_ (fun _ => ?_)
theorem medlarref08_Step.mono : ∀ a0 k, LeO (medlarref08_Step.f k a0) (medlarref08_Step.f (k + 1) a0) := by
  intro a0 k
  obtain ⟨ih0, ih1⟩ := medlarref08_Step.mono_l k
  unfold medlarref08_Step.f
  repeat' first
    | (with_reducible exact ih0 _ _)
    | (with_reducible exact ih1 _ _)
    | (with_reducible exact LeO.refl _)
    | (with_reducible exact LeO.none _)
    | (with_reducible refine LeO.ite ?_ ?_)
    | (with_reducible refine LeO.bind ?_ (fun _ => ?_))
    | exact ih0 _ _
    | exact ih1 _ _
    | exact LeO.none _
    | refine LeO.ite ?_ ?_
    | refine LeO.bind ?_ (fun _ => ?_)
set_option maxHeartbeats 8000000 in
set_option maxRecDepth 100000 in
theorem medlarref08_Step.calls (k : Nat) (a0 : Int) (r1 : Int) (r2 : Int) (w : World) (h : medlarref08_Step.f k a0 = some (r1, r2)) :
   Calls Try.prog 125 #[.int .i64 a0] w fun e w' => e = .returned (.tuple #[.int .i64 r1, .int .i64 r2]) ∧ Drawn0 w w' := by
  have H : (if a0 < 1 then (medlarref08_Step.j0 k a0 true) else (medlarref08_Step.j0 k a0 (decide (a0 > 32)))) = some (r1, r2) := h
  clear h
  have HC2 := ak_ H
  clear H
  go_enter func125, ntmps125
  go_upto_region 1 with (fail)
  go_cut [10] (fun v10 wc => ∃ (kq : Nat) (x10_1 : Bool), v10 = .bool x10_1 ∧ Aside0 (medlarref08_Step.j0 kq a0 x10_1 = some (r1, r2)) ∧ Aside0 (kq ≤ k) ∧ Drawn0 w wc)
  case first =>
   have H := HC2.out
   clear HC2
   by_cases c3 : a0 < 1
   ·rw [if_pos c3] at H
    have c3b0 := decide_eq_true c3
    clear c3
    (first | rw [c3b0] | (simp only [i64_w, i32_w]; rw [c3b0]) | skip)
    have H' := ak_ H
    clear H
    go_wp2
    go_meet
    case rel => exact ⟨_, (true), (by first | rfl | (simp; done) | (simp [*]; done)), H', ⟨by first | omega | exact Nat.le_refl _⟩, by repeat (first | exact Drawn0.refl _ | apply Drawn0.step)⟩
   ·rw [if_neg c3] at H
    have c3b0 := decide_eq_false c3
    clear c3
    (first | rw [c3b0] | (simp only [i64_w, i32_w]; rw [c3b0]) | skip)
    have H' := ak_ H
    clear H
    go_wp2
    go_meet
    case rel => exact ⟨_, (decide (a0 > 32)), (by first | rfl | (simp; done) | (simp [*]; done)), H', ⟨by first | omega | exact Nat.le_refl _⟩, by repeat (first | exact Drawn0.refl _ | apply Drawn0.step)⟩
  case rest =>
   clear HC2
   try clear c1
   try clear p2
   try clear c3
   try clear c3b0
   obtain ⟨kq, x10_1, rfl, HA, HJ1, ⟨mc1, rfl⟩⟩ := hcut
   cases kq with
   | zero => exact absurd HA.out (by simp [medlarref08_Step.j0])
   | succ kj1 =>
    have H := HA.out
    clear HA
    simp only [medlarref08_Step.j0] at H
    by_cases c4 : x10_1 = true
    ·subst c4
     have H1 : (some (0, 1)) = some (r1, r2) := by rw [if_pos rfl] at H; exact H
     clear H
     have H := H1
     clear H1
     simp only [some.injEq, Prod.mk.injEq] at H
     obtain ⟨rfl, rfl⟩ := H
     go_wp2
     go_ret2
     exact ⟨by first | rfl | (simp; done) | (simp [*]; done), by repeat (first | exact Drawn0.refl _ | apply Drawn0.step)⟩
    ·replace c4 := Bool.eq_false_iff.mpr c4
     subst c4
     have H1 : (medlarref08_Step.l0 kj1 a0 1) = some (r1, r2) := by rw [if_neg (show ¬ (false = true) by decide)] at H; exact H
     clear H
     have H := H1
     clear H1
     have H' := ak_ H
     clear H
     go_wp2
     go_loopg [4] kj1 (fun kq v4 w' => ∃ (x4_2 : Int), v4 = .int .i64 x4_2 ∧ Aside0 (medlarref08_Step.l0 kq a0 x4_2 = some (r1, r2)) ∧ Aside0 (kq ≤ kj1) ∧ Drawn0 w w')
     case atStart => exact ⟨(1), (by first | rfl | (simp; done) | (simp [*]; done)), H', ⟨Nat.le_refl _⟩, by repeat (first | exact Drawn0.refl _ | apply Drawn0.step)⟩
     case round =>
      clear H'
      try clear c1
      try clear p2
      try clear c3
      try clear c3b0
      try clear c4
      try clear p2
      obtain ⟨x4_2, rfl, HA, HK2, ⟨m2, rfl⟩⟩ := hrel
      cases gk with
      | zero => exact absurd HA.out (by simp [medlarref08_Step.l0])
      | succ k2 =>
       have H := HA.out
       clear HA
       simp only [medlarref08_Step.l0] at H
       by_cases c5 : (wrap64 (x4_2 * x4_2)) < a0
       ·rw [if_pos c5] at H
        have c5b0 := decide_eq_true c5
        clear c5
        have H' := ak_ H
        clear H
        go_wp2
        go_roundg k2
        case measure => have := HJ1.out; have := HK2.out; omega
        case rel => exact ⟨(wrap64 (x4_2 + 1)), (by first | rfl | (simp; done) | (simp [*]; done)), H', ⟨by have := HJ1.out; have := HK2.out; omega⟩, by repeat (first | exact Drawn0.refl _ | apply Drawn0.step)⟩
       ·rw [if_neg c5] at H
        have c5b0 := decide_eq_false c5
        clear c5
        simp only [some.injEq, Prod.mk.injEq] at H
        obtain ⟨rfl, rfl⟩ := H
        go_wp2
        go_ret2
        exact ⟨by first | rfl | (simp; done) | (simp [*]; done), by repeat (first | exact Drawn0.refl _ | apply Drawn0.step)⟩
def medlarref08_special.f (k : Nat) (a0 : Int) (a1 : Int) : Option (Bool) := (medlarref08_Step.f k a0).bind fun bt289 => (if bt289.1 = 0 then (none) else (if (Int.tmod a1 bt289.1) = 0 then (some true) else (some (a1 == a0))))
theorem medlarref08_special.mono : ∀ a0 a1 k, LeO (medlarref08_special.f k a0 a1) (medlarref08_special.f (k + 1) a0 a1) := by
  intro a0 a1 k
  unfold medlarref08_special.f
  repeat' first
    | (with_reducible exact medlarref08_Step.mono _ _)
    | (with_reducible exact LeO.refl _)
    | (with_reducible exact LeO.none _)
    | (with_reducible refine LeO.ite ?_ ?_)
    | (with_reducible refine LeO.bind ?_ (fun _ => ?_))
    | exact medlarref08_Step.mono _ _
    | exact LeO.none _
    | refine LeO.ite ?_ ?_
    | refine LeO.bind ?_ (fun _ => ?_)
set_option maxHeartbeats 8000000 in
set_option maxRecDepth 100000 in
theorem medlarref08_special.calls (k : Nat) (a0 : Int) (a1 : Int) (r : Bool) (w : World) (h : medlarref08_special.f k a0 a1 = some r) :
   Calls Try.prog 110 #[.int .i64 a0, .int .i64 a1] w fun e w' => e = .returned (.bool r) ∧ Drawn0 w w' := by
  have H : ((medlarref08_Step.f k a0).bind fun bt289 => (if bt289.1 = 0 then (none) else (if (Int.tmod a1 bt289.1) = 0 then (some true) else (some (a1 == a0))))) = some r := h
  clear h
  replace H := bind_eq_some_iff.mp H
  obtain ⟨⟨t289, t290⟩, A30, H⟩ := H
  replace H : (if t289 = 0 then (none) else (if (Int.tmod a1 t289) = 0 then (some true) else (some (a1 == a0)))) = some r := H
  have A3 := ak_ A30
  clear A30
  by_cases c4 : t289 = 0
  ·rw [if_pos c4] at H
   exact absurd H (by simp)
  ·rw [if_neg c4] at H
   have c4b0 : (t289 == 0) = false := beq_eq_false_iff_ne.mpr c4
   have c4b1 : (t289 != 0) = true := bne_iff_ne.mpr c4
   by_cases c5 : (Int.tmod a1 t289) = 0
   ·rw [if_pos c5] at H
    have c5b0 : ((Int.tmod a1 t289) == 0) = true := beq_iff_eq.mpr c5
    have c5b1 : ((Int.tmod a1 t289) != 0) = false := bne_eq_false_iff_eq.mpr c5
    clear c5
    obtain rfl := Option.some.inj H
    go_enter func110, ntmps110
    go_wp2_with (first | ((with_reducible refine gate_callee (f := 125) rfl ?_); refine goesL_ (some 9) rfl rfl func125 (by kernel_rfl) rfl #[.int .i64 a0] rfl (by (try simp only [map_toArray, map_cons, map_nil]); first | done | rfl) ?_; (with_reducible refine (medlarref08_Step.calls k a0 t289 t290 _ A3.out).mono ?_); rintro e w' ⟨rfl, ⟨nd, rfl⟩⟩; refine ⟨_, rfl, ?_⟩))
    go_ret
    exact ⟨by first | rfl | (simp; done) | (simp [*]; done), by repeat (first | exact Drawn0.refl _ | apply Drawn0.step)⟩
   ·rw [if_neg c5] at H
    have c5b0 : ((Int.tmod a1 t289) == 0) = false := beq_eq_false_iff_ne.mpr c5
    have c5b1 : ((Int.tmod a1 t289) != 0) = true := bne_iff_ne.mpr c5
    obtain rfl := Option.some.inj H
    go_enter func110, ntmps110
    go_wp2_with (first | ((with_reducible refine gate_callee (f := 125) rfl ?_); refine goesL_ (some 9) rfl rfl func125 (by kernel_rfl) rfl #[.int .i64 a0] rfl (by (try simp only [map_toArray, map_cons, map_nil]); first | done | rfl) ?_; (with_reducible refine (medlarref08_Step.calls k a0 t289 t290 _ A3.out).mono ?_); rintro e w' ⟨rfl, ⟨nd, rfl⟩⟩; refine ⟨_, rfl, ?_⟩))
    go_ret
    exact ⟨by first | rfl | (simp; done) | (simp [*]; done), by repeat (first | exact Drawn0.refl _ | apply Drawn0.step)⟩
def medlarref08_depth.f (k : Nat) (a0 : Int) : Option (Int) := (medlarref01_Chain.f k a0).bind fun t291 => (some (wrap64 ((t291.length : Int) - 1)))
set_option maxHeartbeats 8000000 in
set_option maxRecDepth 100000 in
theorem medlarref08_depth.calls (k : Nat) (a0 : Int) (r : Int) (w : World) (h : medlarref08_depth.f k a0 = some r) :
   Calls Try.prog 111 #[.int .u64 a0] w fun e w' => e = .returned (.int .i64 r) ∧ Below w.heap.size w w' := by
  have HB := ak_ (Below.refl w.heap.size w)
  have H : ((medlarref01_Chain.f k a0).bind fun t291 => (some (wrap64 ((t291.length : Int) - 1)))) = some r := h
  clear h
  replace H := bind_eq_some_iff.mp H
  obtain ⟨t291, A20, H⟩ := H
  replace H : (some (wrap64 ((t291.length : Int) - 1))) = some r := H
  have A2 := ak_ A20
  clear A20
  obtain rfl := Option.some.inj H
  go_enter func111, ntmps111
  go_wp2_with (first | ((with_reducible refine gate_callee (f := 75) rfl ?_); refine goesL_ (some 4) rfl rfl func75 (by kernel_rfl) rfl #[.int .u64 a0] rfl (by (try simp only [map_toArray, map_cons, map_nil]); first | done | rfl) ?_; (with_reducible refine (medlarref01_Chain.calls k a0 t291 _ A2.out).mono ?_); rintro e w3 ⟨v292, rfl, ho0, hb⟩; refine ⟨_, rfl, ?_⟩; have n0_ := ak_ (Kd.R_lower ho0 (bz_ (bl_ HB))); have n1_ := ak_ (bt_ (bl_ HB) hb); clear HB; have HO293 := n0_; have HB := n1_; clear n0_ n1_; (try clear hb); (try clear hk); (try clear ho0); obtain ⟨Ao4, co4, eo4⟩ := Kd.R_slice HO293.out; subst eo4))
  go_ret
  exact ⟨by first | rfl | (simp <;> rfl) | (simp [*] <;> rfl), bl_ HB⟩
def medlarref08_next.l0 : Nat → Int → Int → Option (Int)
  | 0, _, _ => none
  | k + 1, x0, x1 => (medlarref08_special.f k x0 x1).bind fun t294 => (if t294 = true then (some x1) else (medlarref08_next.l0 k x0 (wrap64 (x1 + 1))))
def medlarref08_next.f (k : Nat) (a0 : Int) (a1 : Int) : Option (Int) := medlarref08_next.l0 k a0 (wrap64 (a1 + 1))
theorem medlarref08_next.mono_l : ∀ k, (∀ y0 y1, LeO (medlarref08_next.l0 k y0 y1) (medlarref08_next.l0 (k + 1) y0 y1))
  | 0 => fun _ _ r h => by simp [medlarref08_next.l0] at h
  | k + 1 => by
   have ih0 := medlarref08_next.mono_l k
   ·intro y0 y1
    unfold medlarref08_next.l0
    repeat' first
    | (with_reducible exact ih0 _ _)
    | (with_reducible exact medlarref08_special.mono _ _ _)
    | (with_reducible exact LeO.refl _)
    | (with_reducible exact LeO.none _)
    | (with_reducible refine LeO.ite ?_ ?_)
    | (with_reducible refine LeO.bind ?_ (fun _ => ?_))
    | exact ih0 _ _
    | exact medlarref08_special.mono _ _ _
    | exact LeO.none _
    | refine LeO.ite ?_ ?_
    | refine LeO.bind ?_ (fun _ => ?_)
set_option maxHeartbeats 8000000 in
set_option maxRecDepth 100000 in
theorem medlarref08_next.calls (k : Nat) (a0 : Int) (a1 : Int) (r : Int) (w : World) (h : medlarref08_next.f k a0 a1 = some r) :
   Calls Try.prog 112 #[.int .i64 a0, .int .i64 a1] w fun e w' => e = .returned (.int .i64 r) ∧ Drawn0 w w' := by
  have H : (medlarref08_next.l0 k a0 (wrap64 (a1 + 1))) = some r := h
  clear h
  have H' := ak_ H
  clear H
  go_enter func112, ntmps112
  go_wp2
  go_loopg [1] k (fun kq v1 w' => ∃ (x1_1 : Int), v1 = .int .i64 x1_1 ∧ Aside0 (medlarref08_next.l0 kq a0 x1_1 = some r) ∧ Aside0 (kq ≤ k) ∧ Drawn0 w w')
  case atStart => exact ⟨(wrap64 (a1 + 1)), (by first | rfl | (simp; done) | (simp [*]; done)), H', ⟨Nat.le_refl _⟩, by repeat (first | exact Drawn0.refl _ | apply Drawn0.step)⟩
  case round =>
   clear H'
   try clear c1
   try clear p2
   obtain ⟨x1_1, rfl, HA, HK1, ⟨m1, rfl⟩⟩ := hrel
   cases gk with
   | zero => exact absurd HA.out (by simp [medlarref08_next.l0])
   | succ k1 =>
    have H := HA.out
    clear HA
    simp only [medlarref08_next.l0] at H
    replace H := bind_eq_some_iff.mp H
    obtain ⟨t294, A30, H⟩ := H
    replace H : (if t294 = true then (some x1_1) else (medlarref08_next.l0 k1 a0 (wrap64 (x1_1 + 1)))) = some r := H
    have A3 := ak_ A30
    clear A30
    by_cases c4 : t294 = true
    ·subst c4
     have H1 : (some x1_1) = some r := by rw [if_pos rfl] at H; exact H
     clear H
     have H := H1
     clear H1
     obtain rfl := Option.some.inj H
     go_wp2_with (first | ((with_reducible refine gate_callee (f := 110) rfl ?_); refine goesL_ (some 9) rfl rfl func110 (by kernel_rfl) rfl #[.int .i64 a0, .int .i64 x1_1] rfl (by (try simp only [map_toArray, map_cons, map_nil]); first | done | rfl) ?_; (with_reducible refine (medlarref08_special.calls k1 a0 x1_1 true _ A3.out).mono ?_); rintro e w' ⟨rfl, ⟨nd, rfl⟩⟩; refine ⟨_, rfl, ?_⟩))
     go_ret
     exact ⟨by first | rfl | (simp; done) | (simp [*]; done), by repeat (first | exact Drawn0.refl _ | apply Drawn0.step)⟩
    ·replace c4 := Bool.eq_false_iff.mpr c4
     subst c4
     have H1 : (medlarref08_next.l0 k1 a0 (wrap64 (x1_1 + 1))) = some r := by rw [if_neg (show ¬ (false = true) by decide)] at H; exact H
     clear H
     have H := H1
     clear H1
     have H' := ak_ H
     clear H
     go_wp2_with (first | ((with_reducible refine gate_callee (f := 110) rfl ?_); refine goesL_ (some 9) rfl rfl func110 (by kernel_rfl) rfl #[.int .i64 a0, .int .i64 x1_1] rfl (by (try simp only [map_toArray, map_cons, map_nil]); first | done | rfl) ?_; (with_reducible refine (medlarref08_special.calls k1 a0 x1_1 false _ A3.out).mono ?_); rintro e w' ⟨rfl, ⟨nd, rfl⟩⟩; refine ⟨_, rfl, ?_⟩))
     go_roundg k1
     case measure => have := HK1.out; omega
     case rel => exact ⟨(wrap64 (x1_1 + 1)), (by first | rfl | (simp; done) | (simp [*]; done)), H', ⟨by have := HK1.out; omega⟩, by repeat (first | exact Drawn0.refl _ | apply Drawn0.step)⟩
def medlarref08_Useful.f (k : Nat) (a0 : Int) (a1_0 : Int) (a1_1 : Int) : Option (Bool × Int) := (medlarref08_Check.f k a0 a1_0 a1_1).bind fun t296 => (if t296 = 0 then (if a1_1 = 0 then (some ((a1_0 == 1), 0)) else ((medlarref08_depth.f k a1_0).bind fun t297 => ((medlarref08_special.f k a0 t297).bind fun t298 => (if t298 = true then (some (true, 0)) else ((medlarref08_depth.f k a1_0).bind fun t299 => ((medlarref08_next.f k a0 t299).bind fun t300 => ((medlarref08_depth.f k a1_1).bind fun t301 => (some (decide (t300 ≥ t301), 0))))))))) else (some (false, 1)))
def medlarref08_Useful.T5 : Bool × List (List Nat × List Nat) := (true, [([], []), ([], []), ([1], [1]), ([2], [2]), ([0, 3, 3], [0, 3]), ([4, 4], [4]), ([5], [5]), ([5], [5]), ([7, 5], [5, 7]), ([8, 5, 5], [5, 8]), ([6, 9, 9, 5], [5, 6, 9]), ([5], [5]), ([11, 5], [5, 11]), ([12, 10, 5], [5, 12]), ([10, 13, 5], [5, 10, 13]), ([5, 14], [5, 14]), ([15, 13, 0, 1, 2, 3, 4, 5, 6, 7, 8, 9, 10, 11, 12, 13, 14, 15], [15]), ([16, 0, 1, 2, 3, 4, 5, 6, 7, 8, 9, 10, 11, 12, 13, 14, 15, 16], [])])
def medlarref08_Useful.B5 : List Nat := [0, 0, 2, 6, 15, 31, 63, 63, 191, 447, 1023, 63, 2111, 8191, 16383, 32767, 65535, 131071]
theorem medlarref08_Useful.tab5 : rtab .any (opsOf Try.f96 5) = medlarref08_Useful.T5 := by kernel_rfl
theorem medlarref08_Useful.bits5 : waitsOk medlarref08_Useful.T5.2 medlarref08_Useful.B5 = true := by kernel_rfl
set_option maxHeartbeats 8000000 in
set_option maxRecDepth 100000 in
theorem medlarref08_Useful.calls (k : Nat) (a0 : Int) (a1_0 : Int) (a1_1 : Int) (r1 : Bool) (r2 : Int) (w : World) (h : medlarref08_Useful.f k a0 a1_0 a1_1 = some (r1, r2)) :
   Calls Try.prog 96 #[.int .i64 a0, .agg #[.int .u64 a1_0, .int .u64 a1_1]] w fun e w' => e = .returned (.tuple #[.bool r1, .int .i64 r2]) ∧ Below w.heap.size w w' := by
  have hu24 := underlying24
  have HB := ak_ (Below.refl w.heap.size w)
  have H : ((medlarref08_Check.f k a0 a1_0 a1_1).bind fun t296 => (if t296 = 0 then (if a1_1 = 0 then (some ((a1_0 == 1), 0)) else ((medlarref08_depth.f k a1_0).bind fun t297 => ((medlarref08_special.f k a0 t297).bind fun t298 => (if t298 = true then (some (true, 0)) else ((medlarref08_depth.f k a1_0).bind fun t299 => ((medlarref08_next.f k a0 t299).bind fun t300 => ((medlarref08_depth.f k a1_1).bind fun t301 => (some (decide (t300 ≥ t301), 0))))))))) else (some (false, 1)))) = some (r1, r2) := h
  clear h
  replace H := bind_eq_some_iff.mp H
  obtain ⟨t296, A30, H⟩ := H
  replace H : (if t296 = 0 then (if a1_1 = 0 then (some ((a1_0 == 1), 0)) else ((medlarref08_depth.f k a1_0).bind fun t297 => ((medlarref08_special.f k a0 t297).bind fun t298 => (if t298 = true then (some (true, 0)) else ((medlarref08_depth.f k a1_0).bind fun t299 => ((medlarref08_next.f k a0 t299).bind fun t300 => ((medlarref08_depth.f k a1_1).bind fun t301 => (some (decide (t300 ≥ t301), 0))))))))) else (some (false, 1))) = some (r1, r2) := H
  have A3 := ak_ A30
  clear A30
  by_cases c4 : t296 = 0
  ·rw [if_pos c4] at H
   have c4b0 : (t296 == 0) = true := beq_iff_eq.mpr c4
   have c4b1 : (t296 != 0) = false := bne_eq_false_iff_eq.mpr c4
   clear c4
   by_cases c5 : a1_1 = 0
   ·rw [if_pos c5] at H
    have c5b0 : (a1_1 == 0) = true := beq_iff_eq.mpr c5
    have c5b1 : (a1_1 != 0) = false := bne_eq_false_iff_eq.mpr c5
    clear c5
    simp only [some.injEq, Prod.mk.injEq] at H
    obtain ⟨rfl, rfl⟩ := H
    go_enter func96, ntmps96
    go_wp2_with (first | ((with_reducible refine gate_dst (N := 3) rfl ?_); refine box_event ?hg (N := 3) ?hd (cs := #[.int .u64 a1_0, .int .u64 a1_1]) (t := 24) ?hr ?_; (case hd => rfl); (case hg => rfl); (case hr => first | (go_simp; done) | (go_simp; rfl)); intro gb295 hg w6 hbox hb; have n0_ := ak_ (bt_ (bl_ HB) hb); have n1_ := ak_ (hbox); have n2_ := ak_ ((gs_ hg HB)); have n3_ := ak_ ((gs_ hg HB)); clear HB; have HB := n0_; have BK295 := n1_; have GW295 := n2_; have GE295 := n3_; clear n0_ n1_ n2_ n3_; clear hb hbox hg; have hcz7_0 : w6.cell? ⟨gb295, 0, none⟩ = some (.int .u64 a1_0) := (kc_ BK295.out 0).trans rfl; have hcz7_1 : w6.cell? ⟨gb295, 1, none⟩ = some (.int .u64 a1_1) := (kc_ BK295.out 1).trans rfl; have hfz7_0 := kf_ BK295.out 0; have hfz7_1 := kf_ BK295.out 1) | ((with_reducible refine gate_callee (f := 43) rfl ?_); refine goesL_ (some 8) rfl rfl func43 (by kernel_rfl) rfl #[.int .i64 a0, .agg #[.int .u64 a1_0, .int .u64 a1_1]] rfl (by (try simp only [map_toArray, map_cons, map_nil]); first | done | rfl) ?_; (with_reducible refine (medlarref08_Check.calls k a0 a1_0 a1_1 t296 _ A3.out).mono ?_); rintro e w8 ⟨rfl, hb⟩; refine ⟨_, rfl, ?_⟩; have n0_ := ak_ (kb_ (g := gb295) (o := .cells #[.int .u64 a1_0, .int .u64 a1_1] 24 (0, 0)) (kl_ BK295) hb); have n1_ := ak_ (bt_ (by repeat (first | (with_reducible first | exact HB.out | apply ba_ | apply bn_ | apply bd_ | refine below_set ?_ GE295.out) | exact HB.out)) hb); clear BK295; clear HB; have BK295 := n0_; have HB := n1_; clear n0_ n1_; (try clear hb); (try clear hk); have hcz9_0 : w8.cell? ⟨gb295, 0, none⟩ = some (.int .u64 a1_0) := (kc_ BK295.out 0).trans rfl; have hcz9_1 : w8.cell? ⟨gb295, 1, none⟩ = some (.int .u64 a1_1) := (kc_ BK295.out 1).trans rfl; have hfz9_0 := kf_ BK295.out 0; have hfz9_1 := kf_ BK295.out 1))
    go_ret2
    exact ⟨by first | rfl | (simp <;> rfl) | (simp [*] <;> rfl), by repeat (first | (with_reducible first | exact HB.out | apply ba_ | apply bn_ | apply bd_ | refine below_set ?_ GE295.out) | exact HB.out)⟩
   ·rw [if_neg c5] at H
    have c5b0 : (a1_1 == 0) = false := beq_eq_false_iff_ne.mpr c5
    have c5b1 : (a1_1 != 0) = true := bne_iff_ne.mpr c5
    replace H := bind_eq_some_iff.mp H
    obtain ⟨t297, A100, H⟩ := H
    replace H : ((medlarref08_special.f k a0 t297).bind fun t298 => (if t298 = true then (some (true, 0)) else ((medlarref08_depth.f k a1_0).bind fun t299 => ((medlarref08_next.f k a0 t299).bind fun t300 => ((medlarref08_depth.f k a1_1).bind fun t301 => (some (decide (t300 ≥ t301), 0))))))) = some (r1, r2) := H
    have A10 := ak_ A100
    clear A100
    replace H := bind_eq_some_iff.mp H
    obtain ⟨t298, A110, H⟩ := H
    replace H : (if t298 = true then (some (true, 0)) else ((medlarref08_depth.f k a1_0).bind fun t299 => ((medlarref08_next.f k a0 t299).bind fun t300 => ((medlarref08_depth.f k a1_1).bind fun t301 => (some (decide (t300 ≥ t301), 0)))))) = some (r1, r2) := H
    have A11 := ak_ A110
    clear A110
    by_cases c12 : t298 = true
    ·subst c12
     have H1 : (some (true, 0)) = some (r1, r2) := by rw [if_pos rfl] at H; exact H
     clear H
     have H := H1
     clear H1
     simp only [some.injEq, Prod.mk.injEq] at H
     obtain ⟨rfl, rfl⟩ := H
     go_enter func96, ntmps96
     try go_wp2_with (first | ((with_reducible refine gate_dst (N := 3) rfl ?_); refine box_event ?hg (N := 3) ?hd (cs := #[.int .u64 a1_0, .int .u64 a1_1]) (t := 24) ?hr ?_; (case hd => rfl); (case hg => rfl); (case hr => first | (go_simp; done) | (go_simp; rfl)); intro gb295 hg w13 hbox hb; have n0_ := ak_ (bt_ (bl_ HB) hb); have n1_ := ak_ (hbox); have n2_ := ak_ ((gs_ hg HB)); have n3_ := ak_ ((gs_ hg HB)); clear HB; have HB := n0_; have BK295 := n1_; have GW295 := n2_; have GE295 := n3_; clear n0_ n1_ n2_ n3_; clear hb hbox hg; have hcz14_0 : w13.cell? ⟨gb295, 0, none⟩ = some (.int .u64 a1_0) := (kc_ BK295.out 0).trans rfl; have hcz14_1 : w13.cell? ⟨gb295, 1, none⟩ = some (.int .u64 a1_1) := (kc_ BK295.out 1).trans rfl; have hfz14_0 := kf_ BK295.out 0; have hfz14_1 := kf_ BK295.out 1) | ((with_reducible refine gate_callee (f := 43) rfl ?_); refine goesL_ (some 8) rfl rfl func43 (by kernel_rfl) rfl #[.int .i64 a0, .agg #[.int .u64 a1_0, .int .u64 a1_1]] rfl (by (try simp only [map_toArray, map_cons, map_nil]); first | done | rfl) ?_; (with_reducible refine (medlarref08_Check.calls k a0 a1_0 a1_1 t296 _ A3.out).mono ?_); rintro e w15 ⟨rfl, hb⟩; refine ⟨_, rfl, ?_⟩; have n0_ := ak_ (kb_ (g := gb295) (o := .cells #[.int .u64 a1_0, .int .u64 a1_1] 24 (0, 0)) (kl_ BK295) hb); have n1_ := ak_ (bt_ (by repeat (first | (with_reducible first | exact HB.out | apply ba_ | apply bn_ | apply bd_ | refine below_set ?_ GE295.out) | exact HB.out)) hb); clear BK295; clear HB; have BK295 := n0_; have HB := n1_; clear n0_ n1_; (try clear hb); (try clear hk); have hcz16_0 : w15.cell? ⟨gb295, 0, none⟩ = some (.int .u64 a1_0) := (kc_ BK295.out 0).trans rfl; have hcz16_1 : w15.cell? ⟨gb295, 1, none⟩ = some (.int .u64 a1_1) := (kc_ BK295.out 1).trans rfl; have hfz16_0 := kf_ BK295.out 0; have hfz16_1 := kf_ BK295.out 1))
     have n0_ := ak_ (kd_ BK295.out)
     have n1_ := ak_ (bd_ HB.out)
     clear BK295
     clear HB
     have BK295 := n0_
     have HB := n1_
     clear n0_ n1_
     refine start_ (n := 18) (S := fun w' => w'.cell? ⟨gb295, 0, none⟩ = some (.int .u64 a1_0) ∧ w'.cell? ⟨gb295, 1, none⟩ = some (.int .u64 a1_1)) (ds := []) #[false, false, false, false, false, false, false, false, false, false, false, false, false, false, false, false, false, false] (by kernel_rfl) rfl rfl ⟨(kc_ BK295.out 0).trans rfl, (kc_ BK295.out 1).trans rfl⟩ (fun hHeld => ?_); refine with_tabW medlarref08_Useful.tab5 medlarref08_Useful.bits5 (fun HT_ HW_ => ?_)
     generalize w15.drew = w17 at BK295 HB hHeld ⊢
     refine pure_ (i := 0) (N := some 16) (v := ?_) (a' := ?_) (bA5 1 18) rfl rfl (any_of HT_.out (by kernel_rfl)) (fun _ _ _ h => h) (Or.inl ⟨by rfl, ?_⟩) ?_ ?_; rotate_left; (intro w'; go_simp; with_reducible rfl); rotate_left; (simp only [Act.put, setIfInBounds_toArray, set_cons_zero, set_cons_succ, i64_w, i32_w]; rfl)
     refine pure_ (i := 1) (N := some 17) (v := ?_) (a' := ?_) (bA5 2 18) rfl rfl (any_of HT_.out (by kernel_rfl)) (fun _ _ _ h => h) (Or.inl ⟨by rfl, ?_⟩) ?_ ?_; rotate_left; (intro w'; go_simp; with_reducible rfl); rotate_left; (simp only [Act.put, setIfInBounds_toArray, set_cons_zero, set_cons_succ, i64_w, i32_w]; rfl)
     refine take_ (i := 2) (N := some 18) (v := ?_) (a' := ?_) (bA5 3 18) rfl rfl (take_ofW HT_.out HW_.out (by kernel_rfl)) (fun _ _ _ h => h) (Or.inl ⟨by rfl, ?_⟩) hHeld ?_ ?_
     rotate_left
     ·rintro w' ⟨s0, s1⟩
      go_simp
      with_reducible rfl
     rotate_left
     ·simp only [Act.put, setIfInBounds_toArray, set_cons_zero, set_cons_succ, i64_w, i32_w]
      rfl
     refine one_ (i := 3) (N := some 19) (bA5 4 18) rfl rfl (one_of HT_.out (by kernel_rfl)) (by decide) (fun K hK => ?_)
     refine goes_ func111 (by kernel_rfl) rfl #[.int .u64 a1_0] (by rfl) rfl rfl (by (try simp only [map_toArray, map_cons, map_nil]); first | done | rfl | (simp only [length_drop, length_take]; rfl)) ?_
     with_reducible refine (medlarref08_depth.calls k a1_0 t297 _ A10.out).mono ?_
     rintro e w18 ⟨rfl, hb⟩
     refine ⟨_, rfl, ?_⟩
     have n0_ := ak_ (kb_ (g := gb295) (o := .cells #[.int .u64 a1_0, .int .u64 a1_1] 24 (0, 0)) (kl_ BK295) hb)
     have n1_ := ak_ (bt_ (by repeat (first | (with_reducible first | exact HB.out | apply ba_ | apply bn_ | apply bd_ | refine below_set ?_ GE295.out) | exact HB.out)) hb)
     clear BK295
     clear HB
     have BK295 := n0_
     have HB := n1_
     clear n0_ n1_
     (try clear hb)
     (try clear hb2)
     (try clear hk)
     (try clear hi)
     refine hK.out _ _ ⟨(kc_ BK295.out 0).trans rfl, (kc_ BK295.out 1).trans rfl⟩ (fun hHeld => ?_)
     clear hK K
     refine norm_ (a' := ?_) ?_ ?_
     rotate_left
     ·show Act.put _ (some 19) _ = _
      simp only [Act.put, setIfInBounds_toArray, set_cons_zero, set_cons_succ, i64_w, i32_w]
      rfl
     refine one_ (i := 4) (N := some 20) (bA5 5 18) rfl rfl (one_of HT_.out (by kernel_rfl)) (by decide) (fun K hK => ?_)
     refine goes_ func110 (by kernel_rfl) rfl #[.int .i64 a0, .int .i64 t297] (by rfl) rfl rfl (by (try simp only [map_toArray, map_cons, map_nil]); first | done | rfl | (simp only [length_drop, length_take]; rfl)) ?_
     with_reducible refine (medlarref08_special.calls k a0 t297 true _ A11.out).mono ?_
     rintro e w' ⟨rfl, ⟨nd, rfl⟩⟩
     refine ⟨_, rfl, ?_⟩
     refine hK.out _ _ ⟨(kc_ BK295.out 0).trans rfl, (kc_ BK295.out 1).trans rfl⟩ (fun hHeld => ?_)
     clear hK K
     refine norm_ (a' := ?_) ?_ ?_
     rotate_left
     ·show Act.put _ (some 20) _ = _
      simp only [Act.put, setIfInBounds_toArray, set_cons_zero, set_cons_succ, i64_w, i32_w]
      rfl
     refine pure_ (i := 5) (N := some 21) (v := ?_) (a' := ?_) (bA5 6 18) rfl rfl (any_of HT_.out (by kernel_rfl)) (fun _ _ _ h => h) (Or.inl ⟨by rfl, ?_⟩) ?_ ?_; rotate_left; (intro w'; go_simp; with_reducible rfl); rotate_left; (simp only [Act.put, setIfInBounds_toArray, set_cons_zero, set_cons_succ, i64_w, i32_w]; rfl)
     refine pure_ (i := 6) (N := some 22) (v := undef) (a' := ?_) (bA5 7 18) rfl rfl (any_of HT_.out (by kernel_rfl)) (fun _ _ _ h => h) (Or.inr ⟨by rfl, rfl⟩) ?_ ?_
     rotate_left
     ·simp only [Act.put, setIfInBounds_toArray, set_cons_zero, set_cons_succ, i64_w, i32_w]
      rfl
     refine pure_ (i := 7) (N := some 23) (v := undef) (a' := ?_) (bA5 8 18) rfl rfl (any_of HT_.out (by kernel_rfl)) (fun _ _ _ h => h) (Or.inr ⟨by rfl, rfl⟩) ?_ ?_
     rotate_left
     ·simp only [Act.put, setIfInBounds_toArray, set_cons_zero, set_cons_succ, i64_w, i32_w]
      rfl
     refine pure_ (i := 8) (N := some 24) (v := undef) (a' := ?_) (bA5 9 18) rfl rfl (any_of HT_.out (by kernel_rfl)) (fun _ _ _ h => h) (Or.inr ⟨by rfl, rfl⟩) ?_ ?_
     rotate_left
     ·simp only [Act.put, setIfInBounds_toArray, set_cons_zero, set_cons_succ, i64_w, i32_w]
      rfl
     refine pure_ (i := 9) (N := some 25) (v := undef) (a' := ?_) (bA5 10 18) rfl rfl (any_of HT_.out (by kernel_rfl)) (fun _ _ _ h => h) (Or.inr ⟨by rfl, rfl⟩) ?_ ?_
     rotate_left
     ·simp only [Act.put, setIfInBounds_toArray, set_cons_zero, set_cons_succ, i64_w, i32_w]
      rfl
     refine pure_ (i := 10) (N := some 26) (v := undef) (a' := ?_) (bA5 11 18) rfl rfl (any_of HT_.out (by kernel_rfl)) (fun _ _ _ h => h) (Or.inr ⟨by rfl, rfl⟩) ?_ ?_
     rotate_left
     ·simp only [Act.put, setIfInBounds_toArray, set_cons_zero, set_cons_succ, i64_w, i32_w]
      rfl
     refine pure_ (i := 11) (N := some 27) (v := undef) (a' := ?_) (bA5 12 18) rfl rfl (any_of HT_.out (by kernel_rfl)) (fun _ _ _ h => h) (Or.inr ⟨by rfl, rfl⟩) ?_ ?_
     rotate_left
     ·simp only [Act.put, setIfInBounds_toArray, set_cons_zero, set_cons_succ, i64_w, i32_w]
      rfl
     refine pure_ (i := 12) (N := some 28) (v := undef) (a' := ?_) (bA5 13 18) rfl rfl (any_of HT_.out (by kernel_rfl)) (fun _ _ _ h => h) (Or.inr ⟨by rfl, rfl⟩) ?_ ?_
     rotate_left
     ·simp only [Act.put, setIfInBounds_toArray, set_cons_zero, set_cons_succ, i64_w, i32_w]
      rfl
     refine pure_ (i := 13) (N := some 29) (v := undef) (a' := ?_) (bA5 14 18) rfl rfl (any_of HT_.out (by kernel_rfl)) (fun _ _ _ h => h) (Or.inr ⟨by rfl, rfl⟩) ?_ ?_
     rotate_left
     ·simp only [Act.put, setIfInBounds_toArray, set_cons_zero, set_cons_succ, i64_w, i32_w]
      rfl
     refine pure_ (i := 14) (N := some 30) (v := undef) (a' := ?_) (bA5 15 18) rfl rfl (any_of HT_.out (by kernel_rfl)) (fun _ _ _ h => h) (Or.inr ⟨by rfl, rfl⟩) ?_ ?_
     rotate_left
     ·simp only [Act.put, setIfInBounds_toArray, set_cons_zero, set_cons_succ, i64_w, i32_w]
      rfl
     refine pure_ (i := 15) (N := some 31) (v := ?_) (a' := ?_) (bA5 16 18) rfl rfl (any_of HT_.out (by kernel_rfl)) (fun _ _ _ h => h) (Or.inl ⟨by rfl, ?_⟩) ?_ ?_; rotate_left; (intro w'; go_simp; with_reducible rfl); rotate_left; (simp only [Act.put, setIfInBounds_toArray, set_cons_zero, set_cons_succ, i64_w, i32_w]; rfl)
     refine pure_ (i := 16) (N := some 4) (v := ?_) (a' := ?_) (bA5 17 18) rfl rfl (any_of HT_.out (by kernel_rfl)) (fun _ _ _ h => h) (Or.inl ⟨by rfl, ?_⟩) ?_ ?_; rotate_left; (intro w'; go_simp; with_reducible rfl); rotate_left; (simp only [Act.put, setIfInBounds_toArray, set_cons_zero, set_cons_succ, i64_w, i32_w]; rfl)
     refine pure_ (i := 17) (N := some 5) (v := ?_) (a' := ?_) (bA5 18 18) rfl rfl (any_of HT_.out (by kernel_rfl)) (fun _ _ _ h => h) (Or.inl ⟨by rfl, ?_⟩) ?_ ?_; rotate_left; (intro w'; go_simp; with_reducible rfl); rotate_left; (simp only [Act.put, setIfInBounds_toArray, set_cons_zero, set_cons_succ, i64_w, i32_w]; rfl)
     refine done_ (done_of HT_.out (by kernel_rfl)) ?_
     try go_wp2
     go_ret2
     exact ⟨by first | rfl | (simp <;> rfl) | (simp [*] <;> rfl), by repeat (first | (with_reducible first | exact HB.out | apply ba_ | apply bn_ | apply bd_ | refine below_set ?_ GE295.out) | exact HB.out)⟩
    ·replace c12 := Bool.eq_false_iff.mpr c12
     subst c12
     have H1 : ((medlarref08_depth.f k a1_0).bind fun t299 => ((medlarref08_next.f k a0 t299).bind fun t300 => ((medlarref08_depth.f k a1_1).bind fun t301 => (some (decide (t300 ≥ t301), 0))))) = some (r1, r2) := by rw [if_neg (show ¬ (false = true) by decide)] at H; exact H
     clear H
     have H := H1
     clear H1
     replace H := bind_eq_some_iff.mp H
     obtain ⟨t299, A190, H⟩ := H
     replace H : ((medlarref08_next.f k a0 t299).bind fun t300 => ((medlarref08_depth.f k a1_1).bind fun t301 => (some (decide (t300 ≥ t301), 0)))) = some (r1, r2) := H
     have A19 := ak_ A190
     clear A190
     replace H := bind_eq_some_iff.mp H
     obtain ⟨t300, A200, H⟩ := H
     replace H : ((medlarref08_depth.f k a1_1).bind fun t301 => (some (decide (t300 ≥ t301), 0))) = some (r1, r2) := H
     have A20 := ak_ A200
     clear A200
     replace H := bind_eq_some_iff.mp H
     obtain ⟨t301, A210, H⟩ := H
     replace H : (some (decide (t300 ≥ t301), 0)) = some (r1, r2) := H
     have A21 := ak_ A210
     clear A210
     simp only [some.injEq, Prod.mk.injEq] at H
     obtain ⟨rfl, rfl⟩ := H
     go_enter func96, ntmps96
     try go_wp2_with (first | ((with_reducible refine gate_dst (N := 3) rfl ?_); refine box_event ?hg (N := 3) ?hd (cs := #[.int .u64 a1_0, .int .u64 a1_1]) (t := 24) ?hr ?_; (case hd => rfl); (case hg => rfl); (case hr => first | (go_simp; done) | (go_simp; rfl)); intro gb295 hg w22 hbox hb; have n0_ := ak_ (bt_ (bl_ HB) hb); have n1_ := ak_ (hbox); have n2_ := ak_ ((gs_ hg HB)); have n3_ := ak_ ((gs_ hg HB)); clear HB; have HB := n0_; have BK295 := n1_; have GW295 := n2_; have GE295 := n3_; clear n0_ n1_ n2_ n3_; clear hb hbox hg; have hcz23_0 : w22.cell? ⟨gb295, 0, none⟩ = some (.int .u64 a1_0) := (kc_ BK295.out 0).trans rfl; have hcz23_1 : w22.cell? ⟨gb295, 1, none⟩ = some (.int .u64 a1_1) := (kc_ BK295.out 1).trans rfl; have hfz23_0 := kf_ BK295.out 0; have hfz23_1 := kf_ BK295.out 1) | ((with_reducible refine gate_callee (f := 43) rfl ?_); refine goesL_ (some 8) rfl rfl func43 (by kernel_rfl) rfl #[.int .i64 a0, .agg #[.int .u64 a1_0, .int .u64 a1_1]] rfl (by (try simp only [map_toArray, map_cons, map_nil]); first | done | rfl) ?_; (with_reducible refine (medlarref08_Check.calls k a0 a1_0 a1_1 t296 _ A3.out).mono ?_); rintro e w24 ⟨rfl, hb⟩; refine ⟨_, rfl, ?_⟩; have n0_ := ak_ (kb_ (g := gb295) (o := .cells #[.int .u64 a1_0, .int .u64 a1_1] 24 (0, 0)) (kl_ BK295) hb); have n1_ := ak_ (bt_ (by repeat (first | (with_reducible first | exact HB.out | apply ba_ | apply bn_ | apply bd_ | refine below_set ?_ GE295.out) | exact HB.out)) hb); clear BK295; clear HB; have BK295 := n0_; have HB := n1_; clear n0_ n1_; (try clear hb); (try clear hk); have hcz25_0 : w24.cell? ⟨gb295, 0, none⟩ = some (.int .u64 a1_0) := (kc_ BK295.out 0).trans rfl; have hcz25_1 : w24.cell? ⟨gb295, 1, none⟩ = some (.int .u64 a1_1) := (kc_ BK295.out 1).trans rfl; have hfz25_0 := kf_ BK295.out 0; have hfz25_1 := kf_ BK295.out 1))
     have n0_ := ak_ (kd_ BK295.out)
     have n1_ := ak_ (bd_ HB.out)
     clear BK295
     clear HB
     have BK295 := n0_
     have HB := n1_
     clear n0_ n1_
     refine start_ (n := 18) (S := fun w' => w'.cell? ⟨gb295, 0, none⟩ = some (.int .u64 a1_0) ∧ w'.cell? ⟨gb295, 1, none⟩ = some (.int .u64 a1_1)) (ds := []) #[false, false, false, false, false, false, false, false, false, false, false, false, false, false, false, false, false, false] (by kernel_rfl) rfl rfl ⟨(kc_ BK295.out 0).trans rfl, (kc_ BK295.out 1).trans rfl⟩ (fun hHeld => ?_); refine with_tabW medlarref08_Useful.tab5 medlarref08_Useful.bits5 (fun HT_ HW_ => ?_)
     generalize w24.drew = w26 at BK295 HB hHeld ⊢
     refine pure_ (i := 0) (N := some 16) (v := ?_) (a' := ?_) (bA5 1 18) rfl rfl (any_of HT_.out (by kernel_rfl)) (fun _ _ _ h => h) (Or.inl ⟨by rfl, ?_⟩) ?_ ?_; rotate_left; (intro w'; go_simp; with_reducible rfl); rotate_left; (simp only [Act.put, setIfInBounds_toArray, set_cons_zero, set_cons_succ, i64_w, i32_w]; rfl)
     refine pure_ (i := 1) (N := some 17) (v := ?_) (a' := ?_) (bA5 2 18) rfl rfl (any_of HT_.out (by kernel_rfl)) (fun _ _ _ h => h) (Or.inl ⟨by rfl, ?_⟩) ?_ ?_; rotate_left; (intro w'; go_simp; with_reducible rfl); rotate_left; (simp only [Act.put, setIfInBounds_toArray, set_cons_zero, set_cons_succ, i64_w, i32_w]; rfl)
     refine take_ (i := 2) (N := some 18) (v := ?_) (a' := ?_) (bA5 3 18) rfl rfl (take_ofW HT_.out HW_.out (by kernel_rfl)) (fun _ _ _ h => h) (Or.inl ⟨by rfl, ?_⟩) hHeld ?_ ?_
     rotate_left
     ·rintro w' ⟨s0, s1⟩
      go_simp
      with_reducible rfl
     rotate_left
     ·simp only [Act.put, setIfInBounds_toArray, set_cons_zero, set_cons_succ, i64_w, i32_w]
      rfl
     refine one_ (i := 3) (N := some 19) (bA5 4 18) rfl rfl (one_of HT_.out (by kernel_rfl)) (by decide) (fun K hK => ?_)
     refine goes_ func111 (by kernel_rfl) rfl #[.int .u64 a1_0] (by rfl) rfl rfl (by (try simp only [map_toArray, map_cons, map_nil]); first | done | rfl | (simp only [length_drop, length_take]; rfl)) ?_
     with_reducible refine (medlarref08_depth.calls k a1_0 t297 _ A10.out).mono ?_
     rintro e w27 ⟨rfl, hb⟩
     refine ⟨_, rfl, ?_⟩
     have n0_ := ak_ (kb_ (g := gb295) (o := .cells #[.int .u64 a1_0, .int .u64 a1_1] 24 (0, 0)) (kl_ BK295) hb)
     have n1_ := ak_ (bt_ (by repeat (first | (with_reducible first | exact HB.out | apply ba_ | apply bn_ | apply bd_ | refine below_set ?_ GE295.out) | exact HB.out)) hb)
     clear BK295
     clear HB
     have BK295 := n0_
     have HB := n1_
     clear n0_ n1_
     (try clear hb)
     (try clear hb2)
     (try clear hk)
     (try clear hi)
     refine hK.out _ _ ⟨(kc_ BK295.out 0).trans rfl, (kc_ BK295.out 1).trans rfl⟩ (fun hHeld => ?_)
     clear hK K
     refine norm_ (a' := ?_) ?_ ?_
     rotate_left
     ·show Act.put _ (some 19) _ = _
      simp only [Act.put, setIfInBounds_toArray, set_cons_zero, set_cons_succ, i64_w, i32_w]
      rfl
     refine one_ (i := 4) (N := some 20) (bA5 5 18) rfl rfl (one_of HT_.out (by kernel_rfl)) (by decide) (fun K hK => ?_)
     refine goes_ func110 (by kernel_rfl) rfl #[.int .i64 a0, .int .i64 t297] (by rfl) rfl rfl (by (try simp only [map_toArray, map_cons, map_nil]); first | done | rfl | (simp only [length_drop, length_take]; rfl)) ?_
     with_reducible refine (medlarref08_special.calls k a0 t297 false _ A11.out).mono ?_
     rintro e w' ⟨rfl, ⟨nd, rfl⟩⟩
     refine ⟨_, rfl, ?_⟩
     refine hK.out _ _ ⟨(kc_ BK295.out 0).trans rfl, (kc_ BK295.out 1).trans rfl⟩ (fun hHeld => ?_)
     clear hK K
     refine norm_ (a' := ?_) ?_ ?_
     rotate_left
     ·show Act.put _ (some 20) _ = _
      simp only [Act.put, setIfInBounds_toArray, set_cons_zero, set_cons_succ, i64_w, i32_w]
      rfl
     refine pure_ (i := 5) (N := some 21) (v := ?_) (a' := ?_) (bA5 6 18) rfl rfl (any_of HT_.out (by kernel_rfl)) (fun _ _ _ h => h) (Or.inl ⟨by rfl, ?_⟩) ?_ ?_; rotate_left; (intro w'; go_simp; with_reducible rfl); rotate_left; (simp only [Act.put, setIfInBounds_toArray, set_cons_zero, set_cons_succ, i64_w, i32_w]; rfl)
     refine pure_ (i := 6) (N := some 22) (v := ?_) (a' := ?_) (bA5 7 18) rfl rfl (any_of HT_.out (by kernel_rfl)) (fun _ _ _ h => h) (Or.inl ⟨by rfl, ?_⟩) ?_ ?_; rotate_left; (intro w'; go_simp; with_reducible rfl); rotate_left; (simp only [Act.put, setIfInBounds_toArray, set_cons_zero, set_cons_succ, i64_w, i32_w]; rfl)
     refine pure_ (i := 7) (N := some 23) (v := ?_) (a' := ?_) (bA5 8 18) rfl rfl (any_of HT_.out (by kernel_rfl)) (fun _ _ _ h => h) (Or.inl ⟨by rfl, ?_⟩) ?_ ?_; rotate_left; (intro w'; go_simp; with_reducible rfl); rotate_left; (simp only [Act.put, setIfInBounds_toArray, set_cons_zero, set_cons_succ, i64_w, i32_w]; rfl)
     refine pure_ (i := 11) (N := some 27) (v := ?_) (a' := ?_) #[true, true, true, true, true, true, true, true, false, false, false, true, false, false, false, false, false, false] rfl rfl (any_of HT_.out (by kernel_rfl)) (fun _ _ _ h => h) (Or.inl ⟨by rfl, ?_⟩) ?_ ?_; rotate_left; (intro w'; go_simp; with_reducible rfl); rotate_left; (simp only [Act.put, setIfInBounds_toArray, set_cons_zero, set_cons_succ, i64_w, i32_w]; rfl)
     refine take_ (i := 8) (N := some 24) (v := ?_) (a' := ?_) #[true, true, true, true, true, true, true, true, true, false, false, true, false, false, false, false, false, false] rfl rfl (take_ofW HT_.out HW_.out (by kernel_rfl)) (fun _ _ _ h => h) (Or.inl ⟨by rfl, ?_⟩) hHeld ?_ ?_
     rotate_left
     ·rintro w' ⟨s0, s1⟩
      go_simp
      with_reducible rfl
     rotate_left
     ·simp only [Act.put, setIfInBounds_toArray, set_cons_zero, set_cons_succ, i64_w, i32_w]
      rfl
     refine take_ (i := 12) (N := some 28) (v := ?_) (a' := ?_) #[true, true, true, true, true, true, true, true, true, false, false, true, true, false, false, false, false, false] rfl rfl (take_ofW HT_.out HW_.out (by kernel_rfl)) (fun _ _ _ h => h) (Or.inl ⟨by rfl, ?_⟩) hHeld ?_ ?_
     rotate_left
     ·rintro w' ⟨s0, s1⟩
      go_simp
      with_reducible rfl
     rotate_left
     ·simp only [Act.put, setIfInBounds_toArray, set_cons_zero, set_cons_succ, i64_w, i32_w]
      rfl
     refine one_ (i := 9) (N := some 25) #[true, true, true, true, true, true, true, true, true, true, false, true, true, false, false, false, false, false] rfl rfl (one_of HT_.out (by kernel_rfl)) (by decide) (fun K hK => ?_)
     refine goes_ func111 (by kernel_rfl) rfl #[.int .u64 a1_0] (by rfl) rfl rfl (by (try simp only [map_toArray, map_cons, map_nil]); first | done | rfl | (simp only [length_drop, length_take]; rfl)) ?_
     with_reducible refine (medlarref08_depth.calls k a1_0 t299 _ A19.out).mono ?_
     rintro e w28 ⟨rfl, hb⟩
     refine ⟨_, rfl, ?_⟩
     have n0_ := ak_ (kb_ (g := gb295) (o := .cells #[.int .u64 a1_0, .int .u64 a1_1] 24 (0, 0)) (kl_ BK295) hb)
     have n1_ := ak_ (bt_ (by repeat (first | (with_reducible first | exact HB.out | apply ba_ | apply bn_ | apply bd_ | refine below_set ?_ GE295.out) | exact HB.out)) hb)
     clear BK295
     clear HB
     have BK295 := n0_
     have HB := n1_
     clear n0_ n1_
     (try clear hb)
     (try clear hb2)
     (try clear hk)
     (try clear hi)
     refine hK.out _ _ ⟨(kc_ BK295.out 0).trans rfl, (kc_ BK295.out 1).trans rfl⟩ (fun hHeld => ?_)
     clear hK K
     refine norm_ (a' := ?_) ?_ ?_
     rotate_left
     ·show Act.put _ (some 25) _ = _
      simp only [Act.put, setIfInBounds_toArray, set_cons_zero, set_cons_succ, i64_w, i32_w]
      rfl
     refine one_ (i := 10) (N := some 26) (bA5 13 18) rfl rfl (one_of HT_.out (by kernel_rfl)) (by decide) (fun K hK => ?_)
     refine goes_ func112 (by kernel_rfl) rfl #[.int .i64 a0, .int .i64 t299] (by rfl) rfl rfl (by (try simp only [map_toArray, map_cons, map_nil]); first | done | rfl | (simp only [length_drop, length_take]; rfl)) ?_
     with_reducible refine (medlarref08_next.calls k a0 t299 t300 _ A20.out).mono ?_
     rintro e w' ⟨rfl, ⟨nd, rfl⟩⟩
     refine ⟨_, rfl, ?_⟩
     refine hK.out _ _ ⟨(kc_ BK295.out 0).trans rfl, (kc_ BK295.out 1).trans rfl⟩ (fun hHeld => ?_)
     clear hK K
     refine norm_ (a' := ?_) ?_ ?_
     rotate_left
     ·show Act.put _ (some 26) _ = _
      simp only [Act.put, setIfInBounds_toArray, set_cons_zero, set_cons_succ, i64_w, i32_w]
      rfl
     refine one_ (i := 13) (N := some 29) (bA5 14 18) rfl rfl (one_of HT_.out (by kernel_rfl)) (by decide) (fun K hK => ?_)
     refine goes_ func111 (by kernel_rfl) rfl #[.int .u64 a1_1] (by rfl) rfl rfl (by (try simp only [map_toArray, map_cons, map_nil]); first | done | rfl | (simp only [length_drop, length_take]; rfl)) ?_
     with_reducible refine (medlarref08_depth.calls k a1_1 t301 _ A21.out).mono ?_
     rintro e w29 ⟨rfl, hb⟩
     refine ⟨_, rfl, ?_⟩
     have n0_ := ak_ (kb_ (g := gb295) (o := .cells #[.int .u64 a1_0, .int .u64 a1_1] 24 (0, 0)) (kl_ BK295) hb)
     have n1_ := ak_ (bt_ (by repeat (first | (with_reducible first | exact HB.out | apply ba_ | apply bn_ | apply bd_ | refine below_set ?_ GE295.out) | exact HB.out)) hb)
     clear BK295
     clear HB
     have BK295 := n0_
     have HB := n1_
     clear n0_ n1_
     (try clear hb)
     (try clear hb2)
     (try clear hk)
     (try clear hi)
     refine hK.out _ _ ⟨(kc_ BK295.out 0).trans rfl, (kc_ BK295.out 1).trans rfl⟩ (fun hHeld => ?_)
     clear hK K
     refine norm_ (a' := ?_) ?_ ?_
     rotate_left
     ·show Act.put _ (some 29) _ = _
      simp only [Act.put, setIfInBounds_toArray, set_cons_zero, set_cons_succ, i64_w, i32_w]
      rfl
     refine pure_ (i := 14) (N := some 30) (v := ?_) (a' := ?_) (bA5 15 18) rfl rfl (any_of HT_.out (by kernel_rfl)) (fun _ _ _ h => h) (Or.inl ⟨by rfl, ?_⟩) ?_ ?_; rotate_left; (intro w'; go_simp; with_reducible rfl); rotate_left; (simp only [Act.put, setIfInBounds_toArray, set_cons_zero, set_cons_succ, i64_w, i32_w]; rfl)
     refine pure_ (i := 15) (N := some 31) (v := ?_) (a' := ?_) (bA5 16 18) rfl rfl (any_of HT_.out (by kernel_rfl)) (fun _ _ _ h => h) (Or.inl ⟨by rfl, ?_⟩) ?_ ?_; rotate_left; (intro w'; go_simp; with_reducible rfl); rotate_left; (simp only [Act.put, setIfInBounds_toArray, set_cons_zero, set_cons_succ, i64_w, i32_w]; rfl)
     refine pure_ (i := 16) (N := some 4) (v := ?_) (a' := ?_) (bA5 17 18) rfl rfl (any_of HT_.out (by kernel_rfl)) (fun _ _ _ h => h) (Or.inl ⟨by rfl, ?_⟩) ?_ ?_; rotate_left; (intro w'; go_simp; with_reducible rfl); rotate_left; (simp only [Act.put, setIfInBounds_toArray, set_cons_zero, set_cons_succ, i64_w, i32_w]; rfl)
     refine pure_ (i := 17) (N := some 5) (v := ?_) (a' := ?_) (bA5 18 18) rfl rfl (any_of HT_.out (by kernel_rfl)) (fun _ _ _ h => h) (Or.inl ⟨by rfl, ?_⟩) ?_ ?_; rotate_left; (intro w'; go_simp; with_reducible rfl); rotate_left; (simp only [Act.put, setIfInBounds_toArray, set_cons_zero, set_cons_succ, i64_w, i32_w]; rfl)
     refine done_ (done_of HT_.out (by kernel_rfl)) ?_
     try go_wp2
     go_ret2
     exact ⟨by first | rfl | (simp <;> rfl) | (simp [*] <;> rfl), by repeat (first | (with_reducible first | exact HB.out | apply ba_ | apply bn_ | apply bd_ | refine below_set ?_ GE295.out) | exact HB.out)⟩
  ·rw [if_neg c4] at H
   have c4b0 : (t296 == 0) = false := beq_eq_false_iff_ne.mpr c4
   have c4b1 : (t296 != 0) = true := bne_iff_ne.mpr c4
   simp only [some.injEq, Prod.mk.injEq] at H
   obtain ⟨rfl, rfl⟩ := H
   go_enter func96, ntmps96
   go_wp2_with (first | ((with_reducible refine gate_dst (N := 3) rfl ?_); refine box_event ?hg (N := 3) ?hd (cs := #[.int .u64 a1_0, .int .u64 a1_1]) (t := 24) ?hr ?_; (case hd => rfl); (case hg => rfl); (case hr => first | (go_simp; done) | (go_simp; rfl)); intro gb295 hg w30 hbox hb; have n0_ := ak_ (bt_ (bl_ HB) hb); have n1_ := ak_ (hbox); have n2_ := ak_ ((gs_ hg HB)); have n3_ := ak_ ((gs_ hg HB)); clear HB; have HB := n0_; have BK295 := n1_; have GW295 := n2_; have GE295 := n3_; clear n0_ n1_ n2_ n3_; clear hb hbox hg; have hcz31_0 : w30.cell? ⟨gb295, 0, none⟩ = some (.int .u64 a1_0) := (kc_ BK295.out 0).trans rfl; have hcz31_1 : w30.cell? ⟨gb295, 1, none⟩ = some (.int .u64 a1_1) := (kc_ BK295.out 1).trans rfl; have hfz31_0 := kf_ BK295.out 0; have hfz31_1 := kf_ BK295.out 1) | ((with_reducible refine gate_callee (f := 43) rfl ?_); refine goesL_ (some 8) rfl rfl func43 (by kernel_rfl) rfl #[.int .i64 a0, .agg #[.int .u64 a1_0, .int .u64 a1_1]] rfl (by (try simp only [map_toArray, map_cons, map_nil]); first | done | rfl) ?_; (with_reducible refine (medlarref08_Check.calls k a0 a1_0 a1_1 t296 _ A3.out).mono ?_); rintro e w32 ⟨rfl, hb⟩; refine ⟨_, rfl, ?_⟩; have n0_ := ak_ (kb_ (g := gb295) (o := .cells #[.int .u64 a1_0, .int .u64 a1_1] 24 (0, 0)) (kl_ BK295) hb); have n1_ := ak_ (bt_ (by repeat (first | (with_reducible first | exact HB.out | apply ba_ | apply bn_ | apply bd_ | refine below_set ?_ GE295.out) | exact HB.out)) hb); clear BK295; clear HB; have BK295 := n0_; have HB := n1_; clear n0_ n1_; (try clear hb); (try clear hk)))
   go_ret2
   exact ⟨by first | rfl | (simp <;> rfl) | (simp [*] <;> rfl), by repeat (first | (with_reducible first | exact HB.out | apply ba_ | apply bn_ | apply bd_ | refine below_set ?_ GE295.out) | exact HB.out)⟩
def medlarref12_May.j0 : Nat → Int → Int → Bool → Int → Int → Option (Bool × Int)
  | 0, _, _, _, _, _ => none
  | k + 1, x0, x1, x17, x303000, x303001 => if x17 = true then (some (false, 1)) else (if x1 = 1 then (some ((x303001 == 0), 0)) else (if x1 = 2 then (if x303001 = 0 then (some ((x303000 == 1), 0)) else (some (true, 0))) else ((medlarref08_Useful.f k x0 x303000 x303001).bind fun bt305 => (some (bt305.1, bt305.2)))))
def medlarref12_May.f (k : Nat) (a0 : Int) (a1 : Int) (a2_0 : Int) (a2_1 : Int) : Option (Bool × Int) := (medlarref12_scheme.f k a0 a1).bind fun t303 => (if t303 = true then ((medlarref08_Check.f k a0 a2_0 a2_1).bind fun t304 => (medlarref12_May.j0 k a0 a1 (t304 != 0) a2_0 a2_1)) else (medlarref12_May.j0 k a0 a1 true a2_0 a2_1))
set_option maxHeartbeats 8000000 in
set_option maxRecDepth 100000 in
theorem medlarref12_May.calls (k : Nat) (a0 : Int) (a1 : Int) (a2_0 : Int) (a2_1 : Int) (r1 : Bool) (r2 : Int) (w : World) (h : medlarref12_May.f k a0 a1 a2_0 a2_1 = some (r1, r2)) :
   Calls Try.prog 73 #[.int .i64 a0, .int .i64 a1, .agg #[.int .u64 a2_0, .int .u64 a2_1]] w fun e w' => e = .returned (.tuple #[.bool r1, .int .i64 r2]) ∧ Below w.heap.size w w' := by
  have hu24 := underlying24
  have HB := ak_ (Below.refl w.heap.size w)
  have H : ((medlarref12_scheme.f k a0 a1).bind fun t303 => (if t303 = true then ((medlarref08_Check.f k a0 a2_0 a2_1).bind fun t304 => (medlarref12_May.j0 k a0 a1 (t304 != 0) a2_0 a2_1)) else (medlarref12_May.j0 k a0 a1 true a2_0 a2_1))) = some (r1, r2) := h
  clear h
  have HC4 := ak_ H
  clear H
  go_enter func73, ntmps73
  go_upto_region 1 with (first | ((with_reducible refine gate_dst (N := 5) rfl ?_); refine box_event ?hg (N := 5) ?hd (cs := #[.int .u64 a2_0, .int .u64 a2_1]) (t := 24) ?hr ?_; (case hd => rfl); (case hg => rfl); (case hr => first | (go_simp; done) | (go_simp; rfl)); intro gb302 hg w5 hbox hb; have n0_ := ak_ (bt_ (bl_ HB) hb); have n1_ := ak_ (hbox); have n2_ := ak_ ((gs_ hg HB)); have n3_ := ak_ ((gs_ hg HB)); clear HB; have HB := n0_; have BK302 := n1_; have GW302 := n2_; have GE302 := n3_; clear n0_ n1_ n2_ n3_; clear hb hbox hg))
  (try simp only [Act.put, setIfInBounds_toArray, set_cons_zero, set_cons_succ])
  go_cut [17] (fun v17 wc => ∃ (kq : Nat) (x17_3 : Bool), v17 = .bool x17_3 ∧ Aside0 (medlarref12_May.j0 kq a0 a1 x17_3 a2_0 a2_1 = some (r1, r2)) ∧ Aside0 (kq ≤ k) ∧ Aside0 (wc.heap[gb302]? = some (.cells #[.int .u64 a2_0, .int .u64 a2_1] 24 (0, 0))) ∧ Aside0 (Below w.heap.size w wc))
  case first =>
   have H := HC4.out
   clear HC4
   replace H := bind_eq_some_iff.mp H
   obtain ⟨t303, A60, H⟩ := H
   replace H : (if t303 = true then ((medlarref08_Check.f k a0 a2_0 a2_1).bind fun t304 => (medlarref12_May.j0 k a0 a1 (t304 != 0) a2_0 a2_1)) else (medlarref12_May.j0 k a0 a1 true a2_0 a2_1)) = some (r1, r2) := H
   have A6 := ak_ A60
   clear A60
   by_cases c7 : t303 = true
   ·subst c7
    have H1 : ((medlarref08_Check.f k a0 a2_0 a2_1).bind fun t304 => (medlarref12_May.j0 k a0 a1 (t304 != 0) a2_0 a2_1)) = some (r1, r2) := by rw [if_pos rfl] at H; exact H
    clear H
    have H := H1
    clear H1
    replace H := bind_eq_some_iff.mp H
    obtain ⟨t304, A80, H⟩ := H
    replace H : (medlarref12_May.j0 k a0 a1 (t304 != 0) a2_0 a2_1) = some (r1, r2) := H
    have A8 := ak_ A80
    clear A80
    have H' := ak_ H
    clear H
    go_wp2_with (first | ((with_reducible refine gate_callee (f := 95) rfl ?_); refine goesL_ (some 10) rfl rfl func95 (by kernel_rfl) rfl #[.int .i64 a0, .int .i64 a1] rfl (by (try simp only [map_toArray, map_cons, map_nil]); first | done | rfl) ?_; (with_reducible refine (medlarref12_scheme.calls k a0 a1 true _ A6.out).mono ?_); rintro e w' ⟨rfl, ⟨nd, rfl⟩⟩; refine ⟨_, rfl, ?_⟩; have hcz9_0 : w5.cell? ⟨gb302, 0, none⟩ = some (.int .u64 a2_0) := (kc_ BK302.out 0).trans rfl; have hcz9_1 : w5.cell? ⟨gb302, 1, none⟩ = some (.int .u64 a2_1) := (kc_ BK302.out 1).trans rfl; have hfz9_0 := kf_ BK302.out 0; have hfz9_1 := kf_ BK302.out 1) | (go_at_call 43; (with_reducible refine (medlarref08_Check.calls k a0 a2_0 a2_1 t304 _ A8.out).mono ?_); rintro e w10 ⟨rfl, hb⟩; have n0_ := ak_ (kb_ (g := gb302) (o := .cells #[.int .u64 a2_0, .int .u64 a2_1] 24 (0, 0)) (kl_ BK302) hb); have n1_ := ak_ (bt_ (by repeat (first | (with_reducible first | exact HB.out | apply ba_ | apply bn_ | apply bd_ | refine below_set ?_ GE302.out) | exact HB.out)) hb); clear BK302; clear HB; have BK302 := n0_; have HB := n1_; clear n0_ n1_; (try clear hb); (try clear hk)))
    go_meet
    case rel => exact ⟨_, ((t304 != 0)), (by first | rfl | (simp; done) | (simp [*]; done)), H', ⟨by first | omega | exact Nat.le_refl _⟩, ⟨kl_ BK302⟩, ⟨by repeat (first | (with_reducible first | exact HB.out | apply ba_ | apply bn_ | apply bd_ | refine below_set ?_ GE302.out) | exact HB.out)⟩⟩
   ·replace c7 := Bool.eq_false_iff.mpr c7
    subst c7
    have H1 : (medlarref12_May.j0 k a0 a1 true a2_0 a2_1) = some (r1, r2) := by rw [if_neg (show ¬ (false = true) by decide)] at H; exact H
    clear H
    have H := H1
    clear H1
    have H' := ak_ H
    clear H
    go_wp2_with (first | ((with_reducible refine gate_callee (f := 95) rfl ?_); refine goesL_ (some 10) rfl rfl func95 (by kernel_rfl) rfl #[.int .i64 a0, .int .i64 a1] rfl (by (try simp only [map_toArray, map_cons, map_nil]); first | done | rfl) ?_; (with_reducible refine (medlarref12_scheme.calls k a0 a1 false _ A6.out).mono ?_); rintro e w' ⟨rfl, ⟨nd, rfl⟩⟩; refine ⟨_, rfl, ?_⟩))
    go_meet
    case rel => exact ⟨_, (true), (by first | rfl | (simp; done) | (simp [*]; done)), H', ⟨by first | omega | exact Nat.le_refl _⟩, ⟨kl_ BK302⟩, ⟨by repeat (first | (with_reducible first | exact HB.out | apply ba_ | apply bn_ | apply bd_ | refine below_set ?_ GE302.out) | exact HB.out)⟩⟩
  case rest =>
   clear HC4
   try clear p2
   try clear c7
   try clear c9
   try clear hcz9_0
   try clear hcz9_1
   try clear hfz9_0
   try clear hfz9_1
   obtain ⟨kq, x17_3, rfl, HA, HJ3, BK302, HB⟩ := hcut
   cases kq with
   | zero => exact absurd HA.out (by simp [medlarref12_May.j0])
   | succ kj3 =>
    have H := HA.out
    clear HA
    simp only [medlarref12_May.j0] at H
    by_cases c11 : x17_3 = true
    ·subst c11
     have H1 : (some (false, 1)) = some (r1, r2) := by rw [if_pos rfl] at H; exact H
     clear H
     have H := H1
     clear H1
     simp only [some.injEq, Prod.mk.injEq] at H
     obtain ⟨rfl, rfl⟩ := H
     go_wp2
     go_ret2
     exact ⟨by first | rfl | (simp <;> rfl) | (simp [*] <;> rfl), by repeat (first | (with_reducible first | exact HB.out | apply ba_ | apply bn_ | apply bd_ | refine below_set ?_ GE302.out) | exact HB.out)⟩
    ·replace c11 := Bool.eq_false_iff.mpr c11
     subst c11
     have H1 : (if a1 = 1 then (some ((a2_1 == 0), 0)) else (if a1 = 2 then (if a2_1 = 0 then (some ((a2_0 == 1), 0)) else (some (true, 0))) else ((medlarref08_Useful.f kj3 a0 a2_0 a2_1).bind fun bt305 => (some (bt305.1, bt305.2))))) = some (r1, r2) := by rw [if_neg (show ¬ (false = true) by decide)] at H; exact H
     clear H
     have H := H1
     clear H1
     by_cases c12 : a1 = 1
     ·rw [if_pos c12] at H
      have c12b0 : (a1 == 1) = true := beq_iff_eq.mpr c12
      have c12b1 : (a1 != 1) = false := bne_eq_false_iff_eq.mpr c12
      clear c12
      simp only [some.injEq, Prod.mk.injEq] at H
      obtain ⟨rfl, rfl⟩ := H
      have hcz13_0 : wc.cell? ⟨gb302, 0, none⟩ = some (.int .u64 a2_0) := (kc_ BK302.out 0).trans rfl
      have hcz13_1 : wc.cell? ⟨gb302, 1, none⟩ = some (.int .u64 a2_1) := (kc_ BK302.out 1).trans rfl
      have hfz13_0 := kf_ BK302.out 0
      have hfz13_1 := kf_ BK302.out 1
      go_wp2
      go_ret2
      exact ⟨by first | rfl | (simp <;> rfl) | (simp [*] <;> rfl), by repeat (first | (with_reducible first | exact HB.out | apply ba_ | apply bn_ | apply bd_ | refine below_set ?_ GE302.out) | exact HB.out)⟩
     ·rw [if_neg c12] at H
      have c12b0 : (a1 == 1) = false := beq_eq_false_iff_ne.mpr c12
      have c12b1 : (a1 != 1) = true := bne_iff_ne.mpr c12
      by_cases c14 : a1 = 2
      ·rw [if_pos c14] at H
       have c14b0 : (a1 == 2) = true := beq_iff_eq.mpr c14
       have c14b1 : (a1 != 2) = false := bne_eq_false_iff_eq.mpr c14
       clear c14
       by_cases c15 : a2_1 = 0
       ·rw [if_pos c15] at H
        have c15b0 : (a2_1 == 0) = true := beq_iff_eq.mpr c15
        have c15b1 : (a2_1 != 0) = false := bne_eq_false_iff_eq.mpr c15
        clear c15
        simp only [some.injEq, Prod.mk.injEq] at H
        obtain ⟨rfl, rfl⟩ := H
        have hcz16_0 : wc.cell? ⟨gb302, 0, none⟩ = some (.int .u64 a2_0) := (kc_ BK302.out 0).trans rfl
        have hcz16_1 : wc.cell? ⟨gb302, 1, none⟩ = some (.int .u64 a2_1) := (kc_ BK302.out 1).trans rfl
        have hfz16_0 := kf_ BK302.out 0
        have hfz16_1 := kf_ BK302.out 1
        go_wp2
        go_ret2
        exact ⟨by first | rfl | (simp <;> rfl) | (simp [*] <;> rfl), by repeat (first | (with_reducible first | exact HB.out | apply ba_ | apply bn_ | apply bd_ | refine below_set ?_ GE302.out) | exact HB.out)⟩
       ·rw [if_neg c15] at H
        have c15b0 : (a2_1 == 0) = false := beq_eq_false_iff_ne.mpr c15
        have c15b1 : (a2_1 != 0) = true := bne_iff_ne.mpr c15
        simp only [some.injEq, Prod.mk.injEq] at H
        obtain ⟨rfl, rfl⟩ := H
        have hcz17_0 : wc.cell? ⟨gb302, 0, none⟩ = some (.int .u64 a2_0) := (kc_ BK302.out 0).trans rfl
        have hcz17_1 : wc.cell? ⟨gb302, 1, none⟩ = some (.int .u64 a2_1) := (kc_ BK302.out 1).trans rfl
        have hfz17_0 := kf_ BK302.out 0
        have hfz17_1 := kf_ BK302.out 1
        go_wp2
        go_ret2
        exact ⟨by first | rfl | (simp <;> rfl) | (simp [*] <;> rfl), by repeat (first | (with_reducible first | exact HB.out | apply ba_ | apply bn_ | apply bd_ | refine below_set ?_ GE302.out) | exact HB.out)⟩
      ·rw [if_neg c14] at H
       have c14b0 : (a1 == 2) = false := beq_eq_false_iff_ne.mpr c14
       have c14b1 : (a1 != 2) = true := bne_iff_ne.mpr c14
       replace H := bind_eq_some_iff.mp H
       obtain ⟨⟨t305, t306⟩, A180, H⟩ := H
       replace H : (some (t305, t306)) = some (r1, r2) := H
       have A18 := ak_ A180
       clear A180
       simp only [some.injEq, Prod.mk.injEq] at H
       obtain ⟨rfl, rfl⟩ := H
       have hcz19_0 : wc.cell? ⟨gb302, 0, none⟩ = some (.int .u64 a2_0) := (kc_ BK302.out 0).trans rfl
       have hcz19_1 : wc.cell? ⟨gb302, 1, none⟩ = some (.int .u64 a2_1) := (kc_ BK302.out 1).trans rfl
       have hfz19_0 := kf_ BK302.out 0
       have hfz19_1 := kf_ BK302.out 1
       go_wp2_with (first | ((with_reducible refine gate_callee (f := 96) rfl ?_); refine goesL_ (some 35) rfl rfl func96 (by kernel_rfl) rfl #[.int .i64 a0, .agg #[.int .u64 a2_0, .int .u64 a2_1]] rfl (by (try simp only [map_toArray, map_cons, map_nil]); first | done | rfl) ?_; (with_reducible refine (medlarref08_Useful.calls kj3 a0 a2_0 a2_1 t305 t306 _ A18.out).mono ?_); rintro e w20 ⟨rfl, hb⟩; refine ⟨_, rfl, ?_⟩; have n0_ := ak_ (kb_ (g := gb302) (o := .cells #[.int .u64 a2_0, .int .u64 a2_1] 24 (0, 0)) (kl_ BK302) hb); have n1_ := ak_ (bt_ (by repeat (first | (with_reducible first | exact HB.out | apply ba_ | apply bn_ | apply bd_ | refine below_set ?_ GE302.out) | exact HB.out)) hb); clear BK302; clear HB; have BK302 := n0_; have HB := n1_; clear n0_ n1_; (try clear hb); (try clear hk)))
       go_ret2
       exact ⟨by first | rfl | (simp <;> rfl) | (simp [*] <;> rfl), by repeat (first | (with_reducible first | exact HB.out | apply ba_ | apply bn_ | apply bd_ | refine below_set ?_ GE302.out) | exact HB.out)⟩
def medlarref23_may.f (k : Nat) (a0 : Int) (a1 : Int) (a2_0 : Int) (a2_1 : Int) : Option (Bool) := (medlarref12_May.f k a0 a1 a2_0 a2_1).bind fun bt308 => (if a1 = 3 then (some false) else (if bt308.2 = 0 then (some bt308.1) else (some false)))
set_option maxHeartbeats 8000000 in
set_option maxRecDepth 100000 in
theorem medlarref23_may.calls (k : Nat) (a0 : Int) (a1 : Int) (a2_0 : Int) (a2_1 : Int) (r : Bool) (w : World) (h : medlarref23_may.f k a0 a1 a2_0 a2_1 = some r) :
   Calls Try.prog 50 #[.int .i64 a0, .int .i64 a1, .agg #[.int .u64 a2_0, .int .u64 a2_1]] w fun e w' => e = .returned (.bool r) ∧ Below w.heap.size w w' := by
  have hu24 := underlying24
  have HB := ak_ (Below.refl w.heap.size w)
  have H : ((medlarref12_May.f k a0 a1 a2_0 a2_1).bind fun bt308 => (if a1 = 3 then (some false) else (if bt308.2 = 0 then (some bt308.1) else (some false)))) = some r := h
  clear h
  replace H := bind_eq_some_iff.mp H
  obtain ⟨⟨t308, t309⟩, A40, H⟩ := H
  replace H : (if a1 = 3 then (some false) else (if t309 = 0 then (some t308) else (some false))) = some r := H
  have A4 := ak_ A40
  clear A40
  by_cases c5 : a1 = 3
  ·rw [if_pos c5] at H
   have c5b0 : (a1 == 3) = true := beq_iff_eq.mpr c5
   have c5b1 : (a1 != 3) = false := bne_eq_false_iff_eq.mpr c5
   clear c5
   obtain rfl := Option.some.inj H
   go_enter func50, ntmps50
   go_wp2_with (first | ((with_reducible refine gate_dst (N := 5) rfl ?_); refine box_event ?hg (N := 5) ?hd (cs := #[.int .u64 a2_0, .int .u64 a2_1]) (t := 24) ?hr ?_; (case hd => rfl); (case hg => rfl); (case hr => first | (go_simp; done) | (go_simp; rfl)); intro gb307 hg w6 hbox hb; have n0_ := ak_ (bt_ (bl_ HB) hb); have n1_ := ak_ (hbox); have n2_ := ak_ ((gs_ hg HB)); have n3_ := ak_ ((gs_ hg HB)); clear HB; have HB := n0_; have BK307 := n1_; have GW307 := n2_; have GE307 := n3_; clear n0_ n1_ n2_ n3_; clear hb hbox hg; have hcz7_0 : w6.cell? ⟨gb307, 0, none⟩ = some (.int .u64 a2_0) := (kc_ BK307.out 0).trans rfl; have hcz7_1 : w6.cell? ⟨gb307, 1, none⟩ = some (.int .u64 a2_1) := (kc_ BK307.out 1).trans rfl; have hfz7_0 := kf_ BK307.out 0; have hfz7_1 := kf_ BK307.out 1) | ((with_reducible refine gate_callee (f := 73) rfl ?_); refine goesL_ (some 13) rfl rfl func73 (by kernel_rfl) rfl #[.int .i64 a0, .int .i64 a1, .agg #[.int .u64 a2_0, .int .u64 a2_1]] rfl (by (try simp only [map_toArray, map_cons, map_nil]); first | done | rfl) ?_; (with_reducible refine (medlarref12_May.calls k a0 a1 a2_0 a2_1 t308 t309 _ A4.out).mono ?_); rintro e w8 ⟨rfl, hb⟩; refine ⟨_, rfl, ?_⟩; have n0_ := ak_ (kb_ (g := gb307) (o := .cells #[.int .u64 a2_0, .int .u64 a2_1] 24 (0, 0)) (kl_ BK307) hb); have n1_ := ak_ (bt_ (by repeat (first | (with_reducible first | exact HB.out | apply ba_ | apply bn_ | apply bd_ | refine below_set ?_ GE307.out) | exact HB.out)) hb); clear BK307; clear HB; have BK307 := n0_; have HB := n1_; clear n0_ n1_; (try clear hb); (try clear hk)))
   go_ret
   exact ⟨by first | rfl | (simp <;> rfl) | (simp [*] <;> rfl), by repeat (first | (with_reducible first | exact HB.out | apply ba_ | apply bn_ | apply bd_ | refine below_set ?_ GE307.out) | exact HB.out)⟩
  ·rw [if_neg c5] at H
   have c5b0 : (a1 == 3) = false := beq_eq_false_iff_ne.mpr c5
   have c5b1 : (a1 != 3) = true := bne_iff_ne.mpr c5
   by_cases c9 : t309 = 0
   ·rw [if_pos c9] at H
    have c9b0 : (t309 == 0) = true := beq_iff_eq.mpr c9
    have c9b1 : (t309 != 0) = false := bne_eq_false_iff_eq.mpr c9
    clear c9
    obtain rfl := Option.some.inj H
    go_enter func50, ntmps50
    go_wp2_with (first | ((with_reducible refine gate_dst (N := 5) rfl ?_); refine box_event ?hg (N := 5) ?hd (cs := #[.int .u64 a2_0, .int .u64 a2_1]) (t := 24) ?hr ?_; (case hd => rfl); (case hg => rfl); (case hr => first | (go_simp; done) | (go_simp; rfl)); intro gb307 hg w10 hbox hb; have n0_ := ak_ (bt_ (bl_ HB) hb); have n1_ := ak_ (hbox); have n2_ := ak_ ((gs_ hg HB)); have n3_ := ak_ ((gs_ hg HB)); clear HB; have HB := n0_; have BK307 := n1_; have GW307 := n2_; have GE307 := n3_; clear n0_ n1_ n2_ n3_; clear hb hbox hg; have hcz11_0 : w10.cell? ⟨gb307, 0, none⟩ = some (.int .u64 a2_0) := (kc_ BK307.out 0).trans rfl; have hcz11_1 : w10.cell? ⟨gb307, 1, none⟩ = some (.int .u64 a2_1) := (kc_ BK307.out 1).trans rfl; have hfz11_0 := kf_ BK307.out 0; have hfz11_1 := kf_ BK307.out 1) | ((with_reducible refine gate_callee (f := 73) rfl ?_); refine goesL_ (some 13) rfl rfl func73 (by kernel_rfl) rfl #[.int .i64 a0, .int .i64 a1, .agg #[.int .u64 a2_0, .int .u64 a2_1]] rfl (by (try simp only [map_toArray, map_cons, map_nil]); first | done | rfl) ?_; (with_reducible refine (medlarref12_May.calls k a0 a1 a2_0 a2_1 t308 t309 _ A4.out).mono ?_); rintro e w12 ⟨rfl, hb⟩; refine ⟨_, rfl, ?_⟩; have n0_ := ak_ (kb_ (g := gb307) (o := .cells #[.int .u64 a2_0, .int .u64 a2_1] 24 (0, 0)) (kl_ BK307) hb); have n1_ := ak_ (bt_ (by repeat (first | (with_reducible first | exact HB.out | apply ba_ | apply bn_ | apply bd_ | refine below_set ?_ GE307.out) | exact HB.out)) hb); clear BK307; clear HB; have BK307 := n0_; have HB := n1_; clear n0_ n1_; (try clear hb); (try clear hk)))
    go_ret
    exact ⟨by first | rfl | (simp <;> rfl) | (simp [*] <;> rfl), by repeat (first | (with_reducible first | exact HB.out | apply ba_ | apply bn_ | apply bd_ | refine below_set ?_ GE307.out) | exact HB.out)⟩
   ·rw [if_neg c9] at H
    have c9b0 : (t309 == 0) = false := beq_eq_false_iff_ne.mpr c9
    have c9b1 : (t309 != 0) = true := bne_iff_ne.mpr c9
    obtain rfl := Option.some.inj H
    go_enter func50, ntmps50
    go_wp2_with (first | ((with_reducible refine gate_dst (N := 5) rfl ?_); refine box_event ?hg (N := 5) ?hd (cs := #[.int .u64 a2_0, .int .u64 a2_1]) (t := 24) ?hr ?_; (case hd => rfl); (case hg => rfl); (case hr => first | (go_simp; done) | (go_simp; rfl)); intro gb307 hg w13 hbox hb; have n0_ := ak_ (bt_ (bl_ HB) hb); have n1_ := ak_ (hbox); have n2_ := ak_ ((gs_ hg HB)); have n3_ := ak_ ((gs_ hg HB)); clear HB; have HB := n0_; have BK307 := n1_; have GW307 := n2_; have GE307 := n3_; clear n0_ n1_ n2_ n3_; clear hb hbox hg; have hcz14_0 : w13.cell? ⟨gb307, 0, none⟩ = some (.int .u64 a2_0) := (kc_ BK307.out 0).trans rfl; have hcz14_1 : w13.cell? ⟨gb307, 1, none⟩ = some (.int .u64 a2_1) := (kc_ BK307.out 1).trans rfl; have hfz14_0 := kf_ BK307.out 0; have hfz14_1 := kf_ BK307.out 1) | ((with_reducible refine gate_callee (f := 73) rfl ?_); refine goesL_ (some 13) rfl rfl func73 (by kernel_rfl) rfl #[.int .i64 a0, .int .i64 a1, .agg #[.int .u64 a2_0, .int .u64 a2_1]] rfl (by (try simp only [map_toArray, map_cons, map_nil]); first | done | rfl) ?_; (with_reducible refine (medlarref12_May.calls k a0 a1 a2_0 a2_1 t308 t309 _ A4.out).mono ?_); rintro e w15 ⟨rfl, hb⟩; refine ⟨_, rfl, ?_⟩; have n0_ := ak_ (kb_ (g := gb307) (o := .cells #[.int .u64 a2_0, .int .u64 a2_1] 24 (0, 0)) (kl_ BK307) hb); have n1_ := ak_ (bt_ (by repeat (first | (with_reducible first | exact HB.out | apply ba_ | apply bn_ | apply bd_ | refine below_set ?_ GE307.out) | exact HB.out)) hb); clear BK307; clear HB; have BK307 := n0_; have HB := n1_; clear n0_ n1_; (try clear hb); (try clear hk)))
    go_ret
    exact ⟨by first | rfl | (simp <;> rfl) | (simp [*] <;> rfl), by repeat (first | (with_reducible first | exact HB.out | apply ba_ | apply bn_ | apply bd_ | refine below_set ?_ GE307.out) | exact HB.out)⟩
def medlarref01_Leaves.l0 : Nat → Int → Int → Int → Option (Int × Int × Int)
  | 0, _, _, _ => none
  | k + 1, x0, x6, x7 => (medlarref01_power.f k x0).bind fun t312 => (if x6 < t312 then (medlarref01_Leaves.l0 k x0 (IntKind.u64.wrap (2 * x6)) (IntKind.u64.wrap ((IntKind.u64.wrap (2 * x7)) + 1))) else ((medlarref01_power.f k x0).bind fun t313 => ((medlarref01_power.f k x0).bind fun t314 => (some (IntKind.u64.wrap (x6 - t313), IntKind.u64.wrap (x7 - t314), 0)))))
def medlarref01_Leaves.f (k : Nat) (a0 : Int) (a1 : Int) : Option (Int × Int × Int) := (medlarref01_May.f k a0 a1).bind fun t311 => (if t311 = true then (medlarref01_Leaves.l0 k a0 a1 a1) else (some (0, 0, 1)))
set_option maxHeartbeats 8000000 in
set_option maxRecDepth 100000 in
theorem medlarref01_Leaves.calls (k : Nat) (a0 : Int) (a1 : Int) (r1 : Int) (r2 : Int) (r3 : Int) (w : World) (h : medlarref01_Leaves.f k a0 a1 = some (r1, r2, r3)) :
   Calls Try.prog 97 #[.int .i64 a0, .int .u64 a1] w fun e w' => e = .returned (.tuple #[.agg #[.int .u64 r1, .int .u64 r2], .int .i64 r3]) ∧ Below w.heap.size w w' := by
  have hu69 := underlying69
  have HB := ak_ (Below.refl w.heap.size w)
  have H : ((medlarref01_May.f k a0 a1).bind fun t311 => (if t311 = true then (medlarref01_Leaves.l0 k a0 a1 a1) else (some (0, 0, 1)))) = some (r1, r2, r3) := h
  clear h
  replace H := bind_eq_some_iff.mp H
  obtain ⟨t311, A30, H⟩ := H
  replace H : (if t311 = true then (medlarref01_Leaves.l0 k a0 a1 a1) else (some (0, 0, 1))) = some (r1, r2, r3) := H
  have A3 := ak_ A30
  clear A30
  by_cases c4 : t311 = true
  ·subst c4
   have H1 : (medlarref01_Leaves.l0 k a0 a1 a1) = some (r1, r2, r3) := by rw [if_pos rfl] at H; exact H
   clear H
   have H := H1
   clear H1
   have H' := ak_ H
   clear H
   go_enter func97, ntmps97
   go_wp2_with (first | ((with_reducible refine gate_dst (N := 4) rfl ?_); refine box_event ?hg (N := 4) ?hd (cs := #[.int .u64 0, .int .u64 0]) (t := 69) ?hr ?_; (case hd => rfl); (case hg => rfl); (case hr => first | (go_simp; done) | (go_simp; rfl)); intro gb310 hg w5 hbox hb; have n0_ := ak_ (bt_ (bl_ HB) hb); have n1_ := ak_ (hbox); have n2_ := ak_ ((gs_ hg HB)); have n3_ := ak_ ((gs_ hg HB)); clear HB; have HB := n0_; have BK310 := n1_; have GW310 := n2_; have GE310 := n3_; clear n0_ n1_ n2_ n3_; clear hb hbox hg) | ((with_reducible refine gate_callee (f := 69) rfl ?_); refine goesL_ (some 10) rfl rfl func69 (by kernel_rfl) rfl #[.int .i64 a0, .int .u64 a1] rfl (by (try simp only [map_toArray, map_cons, map_nil]); first | done | rfl) ?_; (with_reducible refine (medlarref01_May.calls k a0 a1 true _ A3.out).mono ?_); rintro e w' ⟨rfl, ⟨nd, rfl⟩⟩; refine ⟨_, rfl, ?_⟩))
   go_loopg [6, 7] k (fun kq v6 v7 w' => ∃ (x6_1 : Int) (x7_1 : Int), v6 = .int .u64 x6_1 ∧ v7 = .int .u64 x7_1 ∧ Aside0 (medlarref01_Leaves.l0 kq a0 x6_1 x7_1 = some (r1, r2, r3)) ∧ Aside0 (kq ≤ k) ∧ Aside0 (w'.heap[gb310]? = some (.cells #[.int .u64 0, .int .u64 0] 69 (0, 0))) ∧ Aside0 (Below w.heap.size w w'))
   case atStart => exact ⟨(a1), (a1), (by first | rfl | (simp; done) | (simp [*]; done)), (by first | rfl | (simp; done) | (simp [*]; done)), H', ⟨Nat.le_refl _⟩, ⟨kl_ BK310⟩, ⟨by repeat (first | (with_reducible first | exact HB.out | apply ba_ | apply bn_ | apply bd_ | refine below_set ?_ GE310.out) | exact HB.out)⟩⟩
   case round =>
    clear H'
    try clear p2
    try clear c4
    obtain ⟨x6_1, x7_1, rfl, rfl, HA, HK1, BK310, HB⟩ := hrel
    cases gk with
    | zero => exact absurd HA.out (by simp [medlarref01_Leaves.l0])
    | succ k1 =>
     have H := HA.out
     clear HA
     simp only [medlarref01_Leaves.l0] at H
     replace H := bind_eq_some_iff.mp H
     obtain ⟨t312, A60, H⟩ := H
     replace H : (if x6_1 < t312 then (medlarref01_Leaves.l0 k1 a0 (IntKind.u64.wrap (2 * x6_1)) (IntKind.u64.wrap ((IntKind.u64.wrap (2 * x7_1)) + 1))) else ((medlarref01_power.f k1 a0).bind fun t313 => ((medlarref01_power.f k1 a0).bind fun t314 => (some (IntKind.u64.wrap (x6_1 - t313), IntKind.u64.wrap (x7_1 - t314), 0))))) = some (r1, r2, r3) := H
     have A6 := ak_ A60
     clear A60
     by_cases c7 : x6_1 < t312
     ·rw [if_pos c7] at H
      have c7b0 := decide_eq_true c7
      clear c7
      have H' := ak_ H
      clear H
      go_wp2_with (first | ((with_reducible refine gate_callee (f := 94) rfl ?_); refine goesL_ (some 17) rfl rfl func94 (by kernel_rfl) rfl #[.int .i64 a0] rfl (by (try simp only [map_toArray, map_cons, map_nil]); first | done | rfl) ?_; (with_reducible refine (medlarref01_power.calls k1 a0 t312 _ A6.out).mono ?_); rintro e w' ⟨rfl, ⟨nd, rfl⟩⟩; refine ⟨_, rfl, ?_⟩))
      go_roundg k1
      case measure => have := HK1.out; omega
      case rel => exact ⟨(IntKind.u64.wrap (2 * x6_1)), (IntKind.u64.wrap ((IntKind.u64.wrap (2 * x7_1)) + 1)), (by first | rfl | (simp; done) | (simp [*]; done)), (by first | rfl | (simp; done) | (simp [*]; done)), H', ⟨by have := HK1.out; omega⟩, ⟨kl_ BK310⟩, ⟨by repeat (first | (with_reducible first | exact HB.out | apply ba_ | apply bn_ | apply bd_ | refine below_set ?_ GE310.out) | exact HB.out)⟩⟩
     ·rw [if_neg c7] at H
      have c7b0 := decide_eq_false c7
      clear c7
      replace H := bind_eq_some_iff.mp H
      obtain ⟨t313, A80, H⟩ := H
      replace H : ((medlarref01_power.f k1 a0).bind fun t314 => (some (IntKind.u64.wrap (x6_1 - t313), IntKind.u64.wrap (x7_1 - t314), 0))) = some (r1, r2, r3) := H
      have A8 := ak_ A80
      clear A80
      replace H := bind_eq_some_iff.mp H
      obtain ⟨t314, A90, H⟩ := H
      replace H : (some (IntKind.u64.wrap (x6_1 - t313), IntKind.u64.wrap (x7_1 - t314), 0)) = some (r1, r2, r3) := H
      have A9 := ak_ A90
      clear A90
      simp only [some.injEq, Prod.mk.injEq] at H
      obtain ⟨rfl, rfl, rfl⟩ := H
      go_wp2_with (first | ((with_reducible refine gate_callee (f := 94) rfl ?_); refine goesL_ (some 17) rfl rfl func94 (by kernel_rfl) rfl #[.int .i64 a0] rfl (by (try simp only [map_toArray, map_cons, map_nil]); first | done | rfl) ?_; (with_reducible refine (medlarref01_power.calls k1 a0 t312 _ A6.out).mono ?_); rintro e w' ⟨rfl, ⟨nd, rfl⟩⟩; refine ⟨_, rfl, ?_⟩; (try (rw [drewN_self wr]; generalize hq_ : World.drewN wr _ = wr; have n0_ : Aside0 (wr.heap[gb310]? = some (.cells #[.int .u64 0, .int .u64 0] 69 (0, 0))) := ⟨by rw [← hq_]; exact (kl_ BK310)⟩; have n1_ : Aside0 (Below w.heap.size w wr) := ⟨by rw [← hq_]; exact (by repeat (first | (with_reducible first | exact HB.out | apply ba_ | apply bn_ | apply bd_ | refine below_set ?_ GE310.out) | exact HB.out))⟩; clear BK310 HB hq_; have BK310 := n0_; have HB := n1_; clear n0_ n1_))) | ((with_reducible refine gate_callee (f := 94) rfl ?_); refine goesL_ (some 26) rfl rfl func94 (by kernel_rfl) rfl #[.int .i64 a0] rfl (by (try simp only [map_toArray, map_cons, map_nil]); first | done | rfl) ?_; (with_reducible refine (medlarref01_power.calls k1 a0 t313 _ A8.out).mono ?_); rintro e w' ⟨rfl, ⟨nd, rfl⟩⟩; refine ⟨_, rfl, ?_⟩; (try (rw [drewN_self wr]; generalize hq_ : World.drewN wr _ = wr; have n0_ : Aside0 (wr.heap[gb310]? = some (.cells #[.int .u64 0, .int .u64 0] 69 (0, 0))) := ⟨by rw [← hq_]; exact (kl_ BK310)⟩; have n1_ : Aside0 (Below w.heap.size w wr) := ⟨by rw [← hq_]; exact (by repeat (first | (with_reducible first | exact HB.out | apply ba_ | apply bn_ | apply bd_ | refine below_set ?_ GE310.out) | exact HB.out))⟩; clear BK310 HB hq_; have BK310 := n0_; have HB := n1_; clear n0_ n1_))) | ((with_reducible refine gate_callee (f := 94) rfl ?_); refine goesL_ (some 30) rfl rfl func94 (by kernel_rfl) rfl #[.int .i64 a0] rfl (by (try simp only [map_toArray, map_cons, map_nil]); first | done | rfl) ?_; (with_reducible refine (medlarref01_power.calls k1 a0 t314 _ A9.out).mono ?_); rintro e w' ⟨rfl, ⟨nd, rfl⟩⟩; refine ⟨_, rfl, ?_⟩; (try (rw [drewN_self wr]; generalize hq_ : World.drewN wr _ = wr; have n0_ : Aside0 (wr.heap[gb310]? = some (.cells #[.int .u64 0, .int .u64 0] 69 (0, 0))) := ⟨by rw [← hq_]; exact (kl_ BK310)⟩; have n1_ : Aside0 (Below w.heap.size w wr) := ⟨by rw [← hq_]; exact (by repeat (first | (with_reducible first | exact HB.out | apply ba_ | apply bn_ | apply bd_ | refine below_set ?_ GE310.out) | exact HB.out))⟩; clear BK310 HB hq_; have BK310 := n0_; have HB := n1_; clear n0_ n1_)); have hcz10_0 : wr.cell? ⟨gb310, 0, none⟩ = some (.int .u64 0) := (kc_ BK310.out 0).trans rfl; have hcz10_1 : wr.cell? ⟨gb310, 1, none⟩ = some (.int .u64 0) := (kc_ BK310.out 1).trans rfl; have hfz10_0 := kf_ BK310.out 0; have hfz10_1 := kf_ BK310.out 1))
      refine bodyPost_ret (results_ct rfl _ _ gb310 69 #[.int .u64 (IntKind.u64.wrap (x6_1 - t313)), .int .u64 (IntKind.u64.wrap (x7_1 - t314))] (0, 0) _ rfl (by (with_reducible repeat (first | refine kn_ ?_ _ | refine kd_ ?_ | refine ka_ ?_ _)); refine blk_put (cs := #[.int .u64 (IntKind.u64.wrap (x6_1 - t313)), .int .u64 0]) ?_ 1 _ rfl; (with_reducible repeat (first | refine kn_ ?_ _ | refine kd_ ?_ | refine ka_ ?_ _)); refine blk_put (cs := #[.int .u64 0, .int .u64 0]) ?_ 0 _ rfl; (with_reducible repeat (first | refine kn_ ?_ _ | refine kd_ ?_ | refine ka_ ?_ _)); exact BK310.out) underlying69 rfl (by kernel_rfl)) rfl ?_
      exact ⟨by first | rfl | (simp <;> rfl) | (simp [*] <;> rfl), by repeat (first | (with_reducible first | exact HB.out | apply ba_ | apply bn_ | apply bd_ | refine below_set ?_ GE310.out) | exact HB.out)⟩
  ·replace c4 := Bool.eq_false_iff.mpr c4
   subst c4
   have H1 : (some (0, 0, 1)) = some (r1, r2, r3) := by rw [if_neg (show ¬ (false = true) by decide)] at H; exact H
   clear H
   have H := H1
   clear H1
   simp only [some.injEq, Prod.mk.injEq] at H
   obtain ⟨rfl, rfl, rfl⟩ := H
   go_enter func97, ntmps97
   go_wp2_with (first | ((with_reducible refine gate_dst (N := 4) rfl ?_); refine box_event ?hg (N := 4) ?hd (cs := #[.int .u64 0, .int .u64 0]) (t := 69) ?hr ?_; (case hd => rfl); (case hg => rfl); (case hr => first | (go_simp; done) | (go_simp; rfl)); intro gb310 hg w11 hbox hb; have n0_ := ak_ (bt_ (bl_ HB) hb); have n1_ := ak_ (hbox); have n2_ := ak_ ((gs_ hg HB)); have n3_ := ak_ ((gs_ hg HB)); clear HB; have HB := n0_; have BK310 := n1_; have GW310 := n2_; have GE310 := n3_; clear n0_ n1_ n2_ n3_; clear hb hbox hg) | ((with_reducible refine gate_callee (f := 69) rfl ?_); refine goesL_ (some 10) rfl rfl func69 (by kernel_rfl) rfl #[.int .i64 a0, .int .u64 a1] rfl (by (try simp only [map_toArray, map_cons, map_nil]); first | done | rfl) ?_; (with_reducible refine (medlarref01_May.calls k a0 a1 false _ A3.out).mono ?_); rintro e w' ⟨rfl, ⟨nd, rfl⟩⟩; refine ⟨_, rfl, ?_⟩; (try (rw [drewN_self w11]; generalize hq_ : World.drewN w11 _ = w11; have n0_ : Aside0 (w11.heap[gb310]? = some (.cells #[.int .u64 0, .int .u64 0] 69 (0, 0))) := ⟨by rw [← hq_]; exact (kl_ BK310)⟩; have n1_ : Aside0 (Below w.heap.size w w11) := ⟨by rw [← hq_]; exact (by repeat (first | (with_reducible first | exact HB.out | apply ba_ | apply bn_ | apply bd_ | refine below_set ?_ GE310.out) | exact HB.out))⟩; clear BK310 HB hq_; have BK310 := n0_; have HB := n1_; clear n0_ n1_)); have hcz12_0 : w11.cell? ⟨gb310, 0, none⟩ = some (.int .u64 0) := (kc_ BK310.out 0).trans rfl; have hcz12_1 : w11.cell? ⟨gb310, 1, none⟩ = some (.int .u64 0) := (kc_ BK310.out 1).trans rfl; have hfz12_0 := kf_ BK310.out 0; have hfz12_1 := kf_ BK310.out 1))
   refine bodyPost_ret (results_ct rfl _ _ gb310 69 #[.int .u64 0, .int .u64 0] (0, 0) _ rfl (by (with_reducible repeat (first | refine kn_ ?_ _ | refine kd_ ?_ | refine ka_ ?_ _)); refine blk_put (cs := #[.int .u64 0, .int .u64 0]) ?_ 1 _ rfl; (with_reducible repeat (first | refine kn_ ?_ _ | refine kd_ ?_ | refine ka_ ?_ _)); refine blk_put (cs := #[.int .u64 0, .int .u64 0]) ?_ 0 _ rfl; (with_reducible repeat (first | refine kn_ ?_ _ | refine kd_ ?_ | refine ka_ ?_ _)); exact BK310.out) underlying69 rfl (by kernel_rfl)) rfl ?_
   exact ⟨by first | rfl | (simp <;> rfl) | (simp [*] <;> rfl), by repeat (first | (with_reducible first | exact HB.out | apply ba_ | apply bn_ | apply bd_ | refine below_set ?_ GE310.out) | exact HB.out)⟩
end Go.Proofs.Ytnbiddloiiljjaa.MP
