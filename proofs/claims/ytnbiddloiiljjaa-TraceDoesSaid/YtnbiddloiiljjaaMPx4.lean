-- written by a program of this session (wip/tools/mprint.sh) for this seat
import Derived.Test.YtnbiddloiiljjaaMPx0
import Derived.Test.YtnbiddloiiljjaaMPx2
import Derived.Test.YtnbiddloiiljjaaMPx3
import Derived.Deep.RegionHeld3
import Derived.WalkMore
import Derived.ScopeJumps
namespace Go.Proofs.Ytnbiddloiiljjaa.MP
open Go.RowKit Go.Proofs.YtnbiddloiiljjaaW.PrintWords Go.Proofs.YtnbiddloiiljjaaW.PrintLast Go.Proofs.YtnbiddloiiljjaaW.PrintMore
open Option (bind_eq_some_iff some.injEq)
open _root_.Go.Proofs.Try
open List (setIfInBounds_toArray set_cons_zero set_cons_succ map_toArray map_cons map_nil length_drop length_take)
attribute [local go_sem] max2_int min2_int max_two min_two max_three min_three max_four min_four
set_option linter.unusedVariables false
set_option linter.unusedSimpArgs false
theorem hand_keepa {w : World} (o : Obj) {a : Addr} {v : Value} (hc : w.cell? a = some v) : (w.alloc o).cell? a = some v := pw_cell_below (ba_ (Below.refl _ w) o) hc
set_option maxHeartbeats 8000000 in
set_option maxRecDepth 100000 in
theorem sub_Has_1.calls (lo hi i : Int) (g : Nat) (w : World) (hc : w.cell? ⟨g, 0, none⟩ = some (.int .u64 i)) :
   Calls Try.prog 36 #[.agg #[.int .u64 lo, .int .u64 hi], .pointer (some ⟨g, 0, none⟩)] w fun e w' => e = .returned (.bool (decide (lo ≤ i) && decide (i ≤ hi))) ∧ Below w.heap.size w w' := by
  have hu50 := underlying69
  have hc2 := hand_keepa (.cells #[.int .u64 lo, .int .u64 hi] 69) hc
  by_cases c1 : lo ≤ i
  ·have d1 : decide (lo ≤ i) = true := decide_eq_true c1
   by_cases c2 : i ≤ hi
   ·have d2 : decide (i ≤ hi) = true := decide_eq_true c2
    go_enter func36, ntmps36
    go_wp2
    go_ret
    exact ⟨by simp [d1, d2], by repeat (first | exact Below.refl _ _ | apply ba_)⟩
   ·have d2 : decide (i ≤ hi) = false := decide_eq_false c2
    go_enter func36, ntmps36
    go_wp2
    go_ret
    exact ⟨by simp [d1, d2], by repeat (first | exact Below.refl _ _ | apply ba_)⟩
  ·have d1 : decide (lo ≤ i) = false := decide_eq_false c1
   go_enter func36, ntmps36
   go_wp2
   go_ret
   exact ⟨by simp [d1], by repeat (first | exact Below.refl _ _ | apply ba_)⟩
def sub_Has.f (k : Nat) (a0 : Int) (a1_0 : Int) (a1_1 : Int) (a2 : Int) : Option (Bool × Int) := (sub_both.f k a0 a1_0 a1_1).bind fun b => (leaf_Has.f k a0 [] a2).bind fun q => if b.2.2.2.2 = 0 then (if q.2 = 0 then some ((decide (b.1 ≤ a2) && decide (a2 ≤ b.2.1)) && ((a1_1 == 0) || !(decide (b.2.2.1 ≤ a2) && decide (a2 ≤ b.2.2.2.1))), 0) else some (false, 1)) else some (false, 1)
theorem sub_Has.mono : ∀ a0 a1 a2 a3 k, LeO (sub_Has.f k a0 a1 a2 a3) (sub_Has.f (k + 1) a0 a1 a2 a3) := by
  intro a0 a1 a2 a3 k
  unfold sub_Has.f
  exact LeO.bind (sub_both.mono _ _ _ _) (fun _ => LeO.bind (leaf_Has.mono _ _ _ _) (fun _ => LeO.refl _))
set_option maxHeartbeats 8000000 in
set_option maxRecDepth 100000 in
theorem sub_Has.calls (k : Nat) (a0 : Int) (a1_0 : Int) (a1_1 : Int) (a2 : Int) (r1 : Bool) (r2 : Int) (w : World) (h : sub_Has.f k a0 a1_0 a1_1 a2 = some (r1, r2)) :
   Calls Try.prog 13 #[.int .i64 a0, .agg #[.int .u64 a1_0, .int .u64 a1_1], .int .u64 a2] w fun e w' => e = .returned (.tuple #[.bool r1, .int .i64 r2]) ∧ Below w.heap.size w w' := by
  have hu24 := underlying24
  have hu50 := underlying69
  replace h := bind_eq_some_iff.mp h
  obtain ⟨⟨b1, b2, b3, b4, b5⟩, A1, h⟩ := h
  replace h := bind_eq_some_iff.mp h
  obtain ⟨⟨q1, q2⟩, A2, h⟩ := h
  have A1' := ak_ A1
  have A2' := ak_ A2
  clear A1 A2
  simp only at h
  by_cases c1 : b5 = 0
  ·rw [if_pos c1] at h
   have c1b : (b5 != 0) = false := bne_eq_false_iff_eq.mpr c1
   clear c1
   by_cases c2 : q2 = 0
   ·rw [if_pos c2] at h
    have c2b : (q2 != 0) = false := bne_eq_false_iff_eq.mpr c2
    clear c2
    simp only [some.injEq, Prod.mk.injEq] at h
    obtain ⟨hr, rfl⟩ := h
    have HR := ak_ hr
    clear hr
    by_cases c3 : (decide (b1 ≤ a2) && decide (a2 ≤ b2)) = true
    ·by_cases c4 : a1_1 = 0
     ·have c4b : (a1_1 == 0) = true := beq_iff_eq.mpr c4
      clear c4
      go_enter func13, ntmps13
      go_wp2_with (first | (go_at_call 32; refine (sub_both.calls k a0 a1_0 a1_1 b1 b2 b3 b4 b5 _ A1'.out).mono ?_; rintro e w1 ⟨rfl, hb⟩; have HB1 := ak_ hb; have B24 := ak_ (kb_ (ka_ (heap_alloc_new w (.cells #[.int .u64 a1_0, .int .u64 a1_1] 24 (0, 0))) (.cells #[.int .u64 a2] 22 (0, 0))) hb); have B22 := ak_ (kb_ (g := w.heap.size + 1) (o := .cells #[.int .u64 a2] 22 (0, 0)) (by simpa using heap_alloc_new (w.alloc (.cells #[.int .u64 a1_0, .int .u64 a1_1] 24 (0, 0))) (.cells #[.int .u64 a2] 22 (0, 0))) hb); have hI : ((w1.alloc (.cells #[.int .u64 b1, .int .u64 b2] 69 (0, 0))).alloc (.cells #[.int .u64 b3, .int .u64 b4] 69 (0, 0))).cell? ⟨w.heap.size + 1, 0, none⟩ = some (.int .u64 a2) := (kc_ (ka_ (ka_ B22.out _) _) 0).trans rfl; clear hb) | (go_at_call 35; refine (leaf_Has.calls k a0 none 0 [] a2 q1 q2 _ (Kd.C_nil _ _) (Nat.le_refl _) A2'.out).mono ?_; rintro e w2 ⟨rfl, hd⟩; have hb := hd.below; have HB2 := ak_ hb; have n1 := ak_ (kb_ (ka_ (ka_ B24.out (.cells #[.int .u64 b1, .int .u64 b2] 69 (0, 0))) (.cells #[.int .u64 b3, .int .u64 b4] 69 (0, 0))) hb); have n2 := ak_ (kb_ (ka_ (ka_ B22.out (.cells #[.int .u64 b1, .int .u64 b2] 69 (0, 0))) (.cells #[.int .u64 b3, .int .u64 b4] 69 (0, 0))) hb); have P1 := ak_ (kb_ (ka_ (heap_alloc_new w1 (.cells #[.int .u64 b1, .int .u64 b2] 69 (0, 0))) (.cells #[.int .u64 b3, .int .u64 b4] 69 (0, 0))) hb); have P2 := ak_ (kb_ (g := w1.heap.size + 1) (o := .cells #[.int .u64 b3, .int .u64 b4] 69 (0, 0)) (by simpa using heap_alloc_new (w1.alloc (.cells #[.int .u64 b1, .int .u64 b2] 69 (0, 0))) (.cells #[.int .u64 b3, .int .u64 b4] 69 (0, 0))) hb); clear hI B24 B22; have hI2 : w2.cell? ⟨w.heap.size + 1, 0, none⟩ = some (.int .u64 a2) := (kc_ n2.out 0).trans rfl; have hJ2 : w2.cell? ⟨w.heap.size, 1, none⟩ = some (.int .u64 a1_1) := (kc_ n1.out 1).trans rfl; have hp0 : w2.cell? ⟨w1.heap.size, 0, none⟩ = some (.int .u64 b1) := (kc_ P1.out 0).trans rfl; have hp1 : w2.cell? ⟨w1.heap.size, 1, none⟩ = some (.int .u64 b2) := (kc_ P1.out 1).trans rfl; clear hd hb) | (go_at_call 36; refine (sub_Has_1.calls b1 b2 a2 (w.heap.size + 1) w2 hI2).mono ?_; rintro e w3 ⟨rfl, hb⟩; have HB3 := ak_ hb; have hI3 : w3.cell? ⟨w.heap.size + 1, 0, none⟩ = some (.int .u64 a2) := (kc_ (kb_ n2.out hb) 0).trans rfl; have hJ3 : w3.cell? ⟨w.heap.size, 1, none⟩ = some (.int .u64 a1_1) := (kc_ (kb_ n1.out hb) 1).trans rfl; have hg0 : w3.cell? ⟨w1.heap.size + 1, 0, none⟩ = some (.int .u64 b3) := (kc_ (kb_ P2.out hb) 0).trans rfl; have hg1 : w3.cell? ⟨w1.heap.size + 1, 1, none⟩ = some (.int .u64 b4) := (kc_ (kb_ P2.out hb) 1).trans rfl; clear hb hI2 hJ2 hp0 hp1) | (go_at_call 36; refine (sub_Has_1.calls b3 b4 a2 (w.heap.size + 1) w3 hI3).mono ?_; rintro e w4 ⟨rfl, hb⟩; have HB4 := ak_ hb; clear hb hI3 hJ3 hg0 hg1))
      go_ret2
      exact ⟨by rw [← HR.out, c3, c4b]; rfl, (bt_ (bt_ (ba_ (ba_ (bt_ (ba_ (ba_ (Below.refl _ _) _) _) HB1.out) _) _) HB2.out) HB3.out)⟩
     ·have c4b : (a1_1 == 0) = false := beq_eq_false_iff_ne.mpr c4
      clear c4
      by_cases c5 : (decide (b3 ≤ a2) && decide (a2 ≤ b4)) = true
      ·go_enter func13, ntmps13
       go_wp2_with (first | (go_at_call 32; refine (sub_both.calls k a0 a1_0 a1_1 b1 b2 b3 b4 b5 _ A1'.out).mono ?_; rintro e w1 ⟨rfl, hb⟩; have HB1 := ak_ hb; have B24 := ak_ (kb_ (ka_ (heap_alloc_new w (.cells #[.int .u64 a1_0, .int .u64 a1_1] 24 (0, 0))) (.cells #[.int .u64 a2] 22 (0, 0))) hb); have B22 := ak_ (kb_ (g := w.heap.size + 1) (o := .cells #[.int .u64 a2] 22 (0, 0)) (by simpa using heap_alloc_new (w.alloc (.cells #[.int .u64 a1_0, .int .u64 a1_1] 24 (0, 0))) (.cells #[.int .u64 a2] 22 (0, 0))) hb); have hI : ((w1.alloc (.cells #[.int .u64 b1, .int .u64 b2] 69 (0, 0))).alloc (.cells #[.int .u64 b3, .int .u64 b4] 69 (0, 0))).cell? ⟨w.heap.size + 1, 0, none⟩ = some (.int .u64 a2) := (kc_ (ka_ (ka_ B22.out _) _) 0).trans rfl; clear hb) | (go_at_call 35; refine (leaf_Has.calls k a0 none 0 [] a2 q1 q2 _ (Kd.C_nil _ _) (Nat.le_refl _) A2'.out).mono ?_; rintro e w2 ⟨rfl, hd⟩; have hb := hd.below; have HB2 := ak_ hb; have n1 := ak_ (kb_ (ka_ (ka_ B24.out (.cells #[.int .u64 b1, .int .u64 b2] 69 (0, 0))) (.cells #[.int .u64 b3, .int .u64 b4] 69 (0, 0))) hb); have n2 := ak_ (kb_ (ka_ (ka_ B22.out (.cells #[.int .u64 b1, .int .u64 b2] 69 (0, 0))) (.cells #[.int .u64 b3, .int .u64 b4] 69 (0, 0))) hb); have P1 := ak_ (kb_ (ka_ (heap_alloc_new w1 (.cells #[.int .u64 b1, .int .u64 b2] 69 (0, 0))) (.cells #[.int .u64 b3, .int .u64 b4] 69 (0, 0))) hb); have P2 := ak_ (kb_ (g := w1.heap.size + 1) (o := .cells #[.int .u64 b3, .int .u64 b4] 69 (0, 0)) (by simpa using heap_alloc_new (w1.alloc (.cells #[.int .u64 b1, .int .u64 b2] 69 (0, 0))) (.cells #[.int .u64 b3, .int .u64 b4] 69 (0, 0))) hb); clear hI B24 B22; have hI2 : w2.cell? ⟨w.heap.size + 1, 0, none⟩ = some (.int .u64 a2) := (kc_ n2.out 0).trans rfl; have hJ2 : w2.cell? ⟨w.heap.size, 1, none⟩ = some (.int .u64 a1_1) := (kc_ n1.out 1).trans rfl; have hp0 : w2.cell? ⟨w1.heap.size, 0, none⟩ = some (.int .u64 b1) := (kc_ P1.out 0).trans rfl; have hp1 : w2.cell? ⟨w1.heap.size, 1, none⟩ = some (.int .u64 b2) := (kc_ P1.out 1).trans rfl; clear hd hb) | (go_at_call 36; refine (sub_Has_1.calls b1 b2 a2 (w.heap.size + 1) w2 hI2).mono ?_; rintro e w3 ⟨rfl, hb⟩; have HB3 := ak_ hb; have hI3 : w3.cell? ⟨w.heap.size + 1, 0, none⟩ = some (.int .u64 a2) := (kc_ (kb_ n2.out hb) 0).trans rfl; have hJ3 : w3.cell? ⟨w.heap.size, 1, none⟩ = some (.int .u64 a1_1) := (kc_ (kb_ n1.out hb) 1).trans rfl; have hg0 : w3.cell? ⟨w1.heap.size + 1, 0, none⟩ = some (.int .u64 b3) := (kc_ (kb_ P2.out hb) 0).trans rfl; have hg1 : w3.cell? ⟨w1.heap.size + 1, 1, none⟩ = some (.int .u64 b4) := (kc_ (kb_ P2.out hb) 1).trans rfl; clear hb hI2 hJ2 hp0 hp1) | (go_at_call 36; refine (sub_Has_1.calls b3 b4 a2 (w.heap.size + 1) w3 hI3).mono ?_; rintro e w4 ⟨rfl, hb⟩; have HB4 := ak_ hb; clear hb hI3 hJ3 hg0 hg1))
       go_ret2
       exact ⟨by rw [← HR.out, c3, c4b, c5]; rfl, (bt_ (bt_ (bt_ (ba_ (ba_ (bt_ (ba_ (ba_ (Below.refl _ _) _) _) HB1.out) _) _) HB2.out) HB3.out) HB4.out)⟩
      ·have c5b := Bool.eq_false_iff.mpr c5
       clear c5
       go_enter func13, ntmps13
       go_wp2_with (first | (go_at_call 32; refine (sub_both.calls k a0 a1_0 a1_1 b1 b2 b3 b4 b5 _ A1'.out).mono ?_; rintro e w1 ⟨rfl, hb⟩; have HB1 := ak_ hb; have B24 := ak_ (kb_ (ka_ (heap_alloc_new w (.cells #[.int .u64 a1_0, .int .u64 a1_1] 24 (0, 0))) (.cells #[.int .u64 a2] 22 (0, 0))) hb); have B22 := ak_ (kb_ (g := w.heap.size + 1) (o := .cells #[.int .u64 a2] 22 (0, 0)) (by simpa using heap_alloc_new (w.alloc (.cells #[.int .u64 a1_0, .int .u64 a1_1] 24 (0, 0))) (.cells #[.int .u64 a2] 22 (0, 0))) hb); have hI : ((w1.alloc (.cells #[.int .u64 b1, .int .u64 b2] 69 (0, 0))).alloc (.cells #[.int .u64 b3, .int .u64 b4] 69 (0, 0))).cell? ⟨w.heap.size + 1, 0, none⟩ = some (.int .u64 a2) := (kc_ (ka_ (ka_ B22.out _) _) 0).trans rfl; clear hb) | (go_at_call 35; refine (leaf_Has.calls k a0 none 0 [] a2 q1 q2 _ (Kd.C_nil _ _) (Nat.le_refl _) A2'.out).mono ?_; rintro e w2 ⟨rfl, hd⟩; have hb := hd.below; have HB2 := ak_ hb; have n1 := ak_ (kb_ (ka_ (ka_ B24.out (.cells #[.int .u64 b1, .int .u64 b2] 69 (0, 0))) (.cells #[.int .u64 b3, .int .u64 b4] 69 (0, 0))) hb); have n2 := ak_ (kb_ (ka_ (ka_ B22.out (.cells #[.int .u64 b1, .int .u64 b2] 69 (0, 0))) (.cells #[.int .u64 b3, .int .u64 b4] 69 (0, 0))) hb); have P1 := ak_ (kb_ (ka_ (heap_alloc_new w1 (.cells #[.int .u64 b1, .int .u64 b2] 69 (0, 0))) (.cells #[.int .u64 b3, .int .u64 b4] 69 (0, 0))) hb); have P2 := ak_ (kb_ (g := w1.heap.size + 1) (o := .cells #[.int .u64 b3, .int .u64 b4] 69 (0, 0)) (by simpa using heap_alloc_new (w1.alloc (.cells #[.int .u64 b1, .int .u64 b2] 69 (0, 0))) (.cells #[.int .u64 b3, .int .u64 b4] 69 (0, 0))) hb); clear hI B24 B22; have hI2 : w2.cell? ⟨w.heap.size + 1, 0, none⟩ = some (.int .u64 a2) := (kc_ n2.out 0).trans rfl; have hJ2 : w2.cell? ⟨w.heap.size, 1, none⟩ = some (.int .u64 a1_1) := (kc_ n1.out 1).trans rfl; have hp0 : w2.cell? ⟨w1.heap.size, 0, none⟩ = some (.int .u64 b1) := (kc_ P1.out 0).trans rfl; have hp1 : w2.cell? ⟨w1.heap.size, 1, none⟩ = some (.int .u64 b2) := (kc_ P1.out 1).trans rfl; clear hd hb) | (go_at_call 36; refine (sub_Has_1.calls b1 b2 a2 (w.heap.size + 1) w2 hI2).mono ?_; rintro e w3 ⟨rfl, hb⟩; have HB3 := ak_ hb; have hI3 : w3.cell? ⟨w.heap.size + 1, 0, none⟩ = some (.int .u64 a2) := (kc_ (kb_ n2.out hb) 0).trans rfl; have hJ3 : w3.cell? ⟨w.heap.size, 1, none⟩ = some (.int .u64 a1_1) := (kc_ (kb_ n1.out hb) 1).trans rfl; have hg0 : w3.cell? ⟨w1.heap.size + 1, 0, none⟩ = some (.int .u64 b3) := (kc_ (kb_ P2.out hb) 0).trans rfl; have hg1 : w3.cell? ⟨w1.heap.size + 1, 1, none⟩ = some (.int .u64 b4) := (kc_ (kb_ P2.out hb) 1).trans rfl; clear hb hI2 hJ2 hp0 hp1) | (go_at_call 36; refine (sub_Has_1.calls b3 b4 a2 (w.heap.size + 1) w3 hI3).mono ?_; rintro e w4 ⟨rfl, hb⟩; have HB4 := ak_ hb; clear hb hI3 hJ3 hg0 hg1))
       go_ret2
       exact ⟨by rw [← HR.out, c3, c4b, c5b]; rfl, (bt_ (bt_ (bt_ (ba_ (ba_ (bt_ (ba_ (ba_ (Below.refl _ _) _) _) HB1.out) _) _) HB2.out) HB3.out) HB4.out)⟩
    ·have c3b := Bool.eq_false_iff.mpr c3
     clear c3
     go_enter func13, ntmps13
     go_wp2_with (first | (go_at_call 32; refine (sub_both.calls k a0 a1_0 a1_1 b1 b2 b3 b4 b5 _ A1'.out).mono ?_; rintro e w1 ⟨rfl, hb⟩; have HB1 := ak_ hb; have B24 := ak_ (kb_ (ka_ (heap_alloc_new w (.cells #[.int .u64 a1_0, .int .u64 a1_1] 24 (0, 0))) (.cells #[.int .u64 a2] 22 (0, 0))) hb); have B22 := ak_ (kb_ (g := w.heap.size + 1) (o := .cells #[.int .u64 a2] 22 (0, 0)) (by simpa using heap_alloc_new (w.alloc (.cells #[.int .u64 a1_0, .int .u64 a1_1] 24 (0, 0))) (.cells #[.int .u64 a2] 22 (0, 0))) hb); have hI : ((w1.alloc (.cells #[.int .u64 b1, .int .u64 b2] 69 (0, 0))).alloc (.cells #[.int .u64 b3, .int .u64 b4] 69 (0, 0))).cell? ⟨w.heap.size + 1, 0, none⟩ = some (.int .u64 a2) := (kc_ (ka_ (ka_ B22.out _) _) 0).trans rfl; clear hb) | (go_at_call 35; refine (leaf_Has.calls k a0 none 0 [] a2 q1 q2 _ (Kd.C_nil _ _) (Nat.le_refl _) A2'.out).mono ?_; rintro e w2 ⟨rfl, hd⟩; have hb := hd.below; have HB2 := ak_ hb; have n1 := ak_ (kb_ (ka_ (ka_ B24.out (.cells #[.int .u64 b1, .int .u64 b2] 69 (0, 0))) (.cells #[.int .u64 b3, .int .u64 b4] 69 (0, 0))) hb); have n2 := ak_ (kb_ (ka_ (ka_ B22.out (.cells #[.int .u64 b1, .int .u64 b2] 69 (0, 0))) (.cells #[.int .u64 b3, .int .u64 b4] 69 (0, 0))) hb); have P1 := ak_ (kb_ (ka_ (heap_alloc_new w1 (.cells #[.int .u64 b1, .int .u64 b2] 69 (0, 0))) (.cells #[.int .u64 b3, .int .u64 b4] 69 (0, 0))) hb); have P2 := ak_ (kb_ (g := w1.heap.size + 1) (o := .cells #[.int .u64 b3, .int .u64 b4] 69 (0, 0)) (by simpa using heap_alloc_new (w1.alloc (.cells #[.int .u64 b1, .int .u64 b2] 69 (0, 0))) (.cells #[.int .u64 b3, .int .u64 b4] 69 (0, 0))) hb); clear hI B24 B22; have hI2 : w2.cell? ⟨w.heap.size + 1, 0, none⟩ = some (.int .u64 a2) := (kc_ n2.out 0).trans rfl; have hJ2 : w2.cell? ⟨w.heap.size, 1, none⟩ = some (.int .u64 a1_1) := (kc_ n1.out 1).trans rfl; have hp0 : w2.cell? ⟨w1.heap.size, 0, none⟩ = some (.int .u64 b1) := (kc_ P1.out 0).trans rfl; have hp1 : w2.cell? ⟨w1.heap.size, 1, none⟩ = some (.int .u64 b2) := (kc_ P1.out 1).trans rfl; clear hd hb) | (go_at_call 36; refine (sub_Has_1.calls b1 b2 a2 (w.heap.size + 1) w2 hI2).mono ?_; rintro e w3 ⟨rfl, hb⟩; have HB3 := ak_ hb; have hI3 : w3.cell? ⟨w.heap.size + 1, 0, none⟩ = some (.int .u64 a2) := (kc_ (kb_ n2.out hb) 0).trans rfl; have hJ3 : w3.cell? ⟨w.heap.size, 1, none⟩ = some (.int .u64 a1_1) := (kc_ (kb_ n1.out hb) 1).trans rfl; have hg0 : w3.cell? ⟨w1.heap.size + 1, 0, none⟩ = some (.int .u64 b3) := (kc_ (kb_ P2.out hb) 0).trans rfl; have hg1 : w3.cell? ⟨w1.heap.size + 1, 1, none⟩ = some (.int .u64 b4) := (kc_ (kb_ P2.out hb) 1).trans rfl; clear hb hI2 hJ2 hp0 hp1) | (go_at_call 36; refine (sub_Has_1.calls b3 b4 a2 (w.heap.size + 1) w3 hI3).mono ?_; rintro e w4 ⟨rfl, hb⟩; have HB4 := ak_ hb; clear hb hI3 hJ3 hg0 hg1))
     go_ret2
     exact ⟨by rw [← HR.out, c3b]; rfl, (bt_ (bt_ (ba_ (ba_ (bt_ (ba_ (ba_ (Below.refl _ _) _) _) HB1.out) _) _) HB2.out) HB3.out)⟩
   ·rw [if_neg c2] at h
    have c2b : (q2 != 0) = true := bne_iff_ne.mpr c2
    clear c2
    simp only [some.injEq, Prod.mk.injEq] at h
    obtain ⟨rfl, rfl⟩ := h
    go_enter func13, ntmps13
    go_wp2_with (first | (go_at_call 32; refine (sub_both.calls k a0 a1_0 a1_1 b1 b2 b3 b4 b5 _ A1'.out).mono ?_; rintro e w1 ⟨rfl, hb⟩; have HB1 := ak_ hb; have B24 := ak_ (kb_ (ka_ (heap_alloc_new w (.cells #[.int .u64 a1_0, .int .u64 a1_1] 24 (0, 0))) (.cells #[.int .u64 a2] 22 (0, 0))) hb); have B22 := ak_ (kb_ (g := w.heap.size + 1) (o := .cells #[.int .u64 a2] 22 (0, 0)) (by simpa using heap_alloc_new (w.alloc (.cells #[.int .u64 a1_0, .int .u64 a1_1] 24 (0, 0))) (.cells #[.int .u64 a2] 22 (0, 0))) hb); have hI : ((w1.alloc (.cells #[.int .u64 b1, .int .u64 b2] 69 (0, 0))).alloc (.cells #[.int .u64 b3, .int .u64 b4] 69 (0, 0))).cell? ⟨w.heap.size + 1, 0, none⟩ = some (.int .u64 a2) := (kc_ (ka_ (ka_ B22.out _) _) 0).trans rfl; clear hb) | (go_at_call 35; refine (leaf_Has.calls k a0 none 0 [] a2 q1 q2 _ (Kd.C_nil _ _) (Nat.le_refl _) A2'.out).mono ?_; rintro e w2 ⟨rfl, hd⟩; have hb := hd.below; have HB2 := ak_ hb; have n1 := ak_ (kb_ (ka_ (ka_ B24.out (.cells #[.int .u64 b1, .int .u64 b2] 69 (0, 0))) (.cells #[.int .u64 b3, .int .u64 b4] 69 (0, 0))) hb); have n2 := ak_ (kb_ (ka_ (ka_ B22.out (.cells #[.int .u64 b1, .int .u64 b2] 69 (0, 0))) (.cells #[.int .u64 b3, .int .u64 b4] 69 (0, 0))) hb); have P1 := ak_ (kb_ (ka_ (heap_alloc_new w1 (.cells #[.int .u64 b1, .int .u64 b2] 69 (0, 0))) (.cells #[.int .u64 b3, .int .u64 b4] 69 (0, 0))) hb); have P2 := ak_ (kb_ (g := w1.heap.size + 1) (o := .cells #[.int .u64 b3, .int .u64 b4] 69 (0, 0)) (by simpa using heap_alloc_new (w1.alloc (.cells #[.int .u64 b1, .int .u64 b2] 69 (0, 0))) (.cells #[.int .u64 b3, .int .u64 b4] 69 (0, 0))) hb); clear hI B24 B22; have hI2 : w2.cell? ⟨w.heap.size + 1, 0, none⟩ = some (.int .u64 a2) := (kc_ n2.out 0).trans rfl; have hJ2 : w2.cell? ⟨w.heap.size, 1, none⟩ = some (.int .u64 a1_1) := (kc_ n1.out 1).trans rfl; have hp0 : w2.cell? ⟨w1.heap.size, 0, none⟩ = some (.int .u64 b1) := (kc_ P1.out 0).trans rfl; have hp1 : w2.cell? ⟨w1.heap.size, 1, none⟩ = some (.int .u64 b2) := (kc_ P1.out 1).trans rfl; clear hd hb) | (go_at_call 36; refine (sub_Has_1.calls b1 b2 a2 (w.heap.size + 1) w2 hI2).mono ?_; rintro e w3 ⟨rfl, hb⟩; have HB3 := ak_ hb; have hI3 : w3.cell? ⟨w.heap.size + 1, 0, none⟩ = some (.int .u64 a2) := (kc_ (kb_ n2.out hb) 0).trans rfl; have hJ3 : w3.cell? ⟨w.heap.size, 1, none⟩ = some (.int .u64 a1_1) := (kc_ (kb_ n1.out hb) 1).trans rfl; have hg0 : w3.cell? ⟨w1.heap.size + 1, 0, none⟩ = some (.int .u64 b3) := (kc_ (kb_ P2.out hb) 0).trans rfl; have hg1 : w3.cell? ⟨w1.heap.size + 1, 1, none⟩ = some (.int .u64 b4) := (kc_ (kb_ P2.out hb) 1).trans rfl; clear hb hI2 hJ2 hp0 hp1) | (go_at_call 36; refine (sub_Has_1.calls b3 b4 a2 (w.heap.size + 1) w3 hI3).mono ?_; rintro e w4 ⟨rfl, hb⟩; have HB4 := ak_ hb; clear hb hI3 hJ3 hg0 hg1))
    go_ret2
    exact ⟨rfl, (bt_ (ba_ (ba_ (bt_ (ba_ (ba_ (Below.refl _ _) _) _) HB1.out) _) _) HB2.out)⟩
  ·rw [if_neg c1] at h
   simp only [some.injEq, Prod.mk.injEq] at h
   obtain ⟨rfl, rfl⟩ := h
   have c1b : (b5 != 0) = true := bne_iff_ne.mpr c1
   clear c1
   go_enter func13, ntmps13
   go_wp2_with (first | (go_at_call 32; refine (sub_both.calls k a0 a1_0 a1_1 b1 b2 b3 b4 b5 _ A1'.out).mono ?_; rintro e w1 ⟨rfl, hb⟩; have HB1 := ak_ hb; have B24 := ak_ (kb_ (ka_ (heap_alloc_new w (.cells #[.int .u64 a1_0, .int .u64 a1_1] 24 (0, 0))) (.cells #[.int .u64 a2] 22 (0, 0))) hb); have B22 := ak_ (kb_ (g := w.heap.size + 1) (o := .cells #[.int .u64 a2] 22 (0, 0)) (by simpa using heap_alloc_new (w.alloc (.cells #[.int .u64 a1_0, .int .u64 a1_1] 24 (0, 0))) (.cells #[.int .u64 a2] 22 (0, 0))) hb); have hI : ((w1.alloc (.cells #[.int .u64 b1, .int .u64 b2] 69 (0, 0))).alloc (.cells #[.int .u64 b3, .int .u64 b4] 69 (0, 0))).cell? ⟨w.heap.size + 1, 0, none⟩ = some (.int .u64 a2) := (kc_ (ka_ (ka_ B22.out _) _) 0).trans rfl; clear hb) | (go_at_call 35; refine (leaf_Has.calls k a0 none 0 [] a2 q1 q2 _ (Kd.C_nil _ _) (Nat.le_refl _) A2'.out).mono ?_; rintro e w2 ⟨rfl, hd⟩; have hb := hd.below; have HB2 := ak_ hb; have n1 := ak_ (kb_ (ka_ (ka_ B24.out (.cells #[.int .u64 b1, .int .u64 b2] 69 (0, 0))) (.cells #[.int .u64 b3, .int .u64 b4] 69 (0, 0))) hb); have n2 := ak_ (kb_ (ka_ (ka_ B22.out (.cells #[.int .u64 b1, .int .u64 b2] 69 (0, 0))) (.cells #[.int .u64 b3, .int .u64 b4] 69 (0, 0))) hb); have P1 := ak_ (kb_ (ka_ (heap_alloc_new w1 (.cells #[.int .u64 b1, .int .u64 b2] 69 (0, 0))) (.cells #[.int .u64 b3, .int .u64 b4] 69 (0, 0))) hb); have P2 := ak_ (kb_ (g := w1.heap.size + 1) (o := .cells #[.int .u64 b3, .int .u64 b4] 69 (0, 0)) (by simpa using heap_alloc_new (w1.alloc (.cells #[.int .u64 b1, .int .u64 b2] 69 (0, 0))) (.cells #[.int .u64 b3, .int .u64 b4] 69 (0, 0))) hb); clear hI B24 B22; have hI2 : w2.cell? ⟨w.heap.size + 1, 0, none⟩ = some (.int .u64 a2) := (kc_ n2.out 0).trans rfl; have hJ2 : w2.cell? ⟨w.heap.size, 1, none⟩ = some (.int .u64 a1_1) := (kc_ n1.out 1).trans rfl; have hp0 : w2.cell? ⟨w1.heap.size, 0, none⟩ = some (.int .u64 b1) := (kc_ P1.out 0).trans rfl; have hp1 : w2.cell? ⟨w1.heap.size, 1, none⟩ = some (.int .u64 b2) := (kc_ P1.out 1).trans rfl; clear hd hb) | (go_at_call 36; refine (sub_Has_1.calls b1 b2 a2 (w.heap.size + 1) w2 hI2).mono ?_; rintro e w3 ⟨rfl, hb⟩; have HB3 := ak_ hb; have hI3 : w3.cell? ⟨w.heap.size + 1, 0, none⟩ = some (.int .u64 a2) := (kc_ (kb_ n2.out hb) 0).trans rfl; have hJ3 : w3.cell? ⟨w.heap.size, 1, none⟩ = some (.int .u64 a1_1) := (kc_ (kb_ n1.out hb) 1).trans rfl; have hg0 : w3.cell? ⟨w1.heap.size + 1, 0, none⟩ = some (.int .u64 b3) := (kc_ (kb_ P2.out hb) 0).trans rfl; have hg1 : w3.cell? ⟨w1.heap.size + 1, 1, none⟩ = some (.int .u64 b4) := (kc_ (kb_ P2.out hb) 1).trans rfl; clear hb hI2 hJ2 hp0 hp1) | (go_at_call 36; refine (sub_Has_1.calls b3 b4 a2 (w.heap.size + 1) w3 hI3).mono ?_; rintro e w4 ⟨rfl, hb⟩; have HB4 := ak_ hb; clear hb hI3 hJ3 hg0 hg1))
   go_ret2
   exact ⟨rfl, (bt_ (ba_ (ba_ (bt_ (ba_ (ba_ (Below.refl _ _) _) _) HB1.out) _) _) HB2.out)⟩
theorem tr_al {W : World} {o : Obj} {a : Addr} {v : Value} (h : W.cell? a = some v) : (W.alloc o).cell? a = some v := by
  have hb : a.block < W.heap.size := World.block_lt_of_cell? _ _ h
  rw [World.cell?] at h ⊢
  have : (W.alloc o).heap[a.block]? = W.heap[a.block]? := by
   show (W.heap.push o)[a.block]? = _
   rw [Array.getElem?_push_lt hb, Array.getElem?_eq_getElem hb]
  rw [this]; exact h
theorem tr_goesC {P : Program} {ops : Array Oper} {Q : Exit → Act → World → Prop} {rest : List Oper} {oi : Oper} {a : Act} {w : World} (N : Option Tmp) (hd : oi.dst = N) (hg : oi.guard = none) {f : FuncId} {caps : Array Value} {x : Operand} {fn : Func} {xs_ : Array Operand} {ts : Array TypeId} (hf : P.funcs[f]? = some fn) (hname : (fn.name == "runtime.NumGoroutine") = false) (hb : fn.body.isSome = true) (args : Array Value)
   (hop : oi.op = .call { callee := .value x, args := xs_, argTypes := ts }) (hx : a.eval x = .func (.func f) #[] caps) (hargs : xs_.map a.eval = args)
   (h : Calls P f (args ++ caps) w fun e w' => ∃ v, e = .returned v ∧ wpList P ops Q rest (a.put N v) w') : wpList P ops Q (oi :: rest) a w := by
  refine wpList_plain hg fun K hK => ?_
  have he := enters_ hf hname hb (args ++ caps) w
  have hrun : (execOp a.eval oi).run P w = .ok (.enter f (args ++ caps)) w := by
   unfold execOp
   simp [hop, resolve, Deferred.ofValue, invoke, hx, hargs, he]
  unfold Oper.wp
  rw [hrun, Oper.upon_enter]
  refine h.mono fun e w'' hh => ?_
  obtain ⟨v, rfl, hk⟩ := hh
  subst hd
  exact hK _ _ hk
theorem tr_gateC {P : Program} {ops : Array Oper} {Q : Exit → Act → World → Prop} {rest : List Oper} {o : Oper} {a : Act} {W : World} {x : Operand} {xs_ : Array Operand} {ts : Array TypeId} (_ho : o.op = .call { callee := .value x, args := xs_, argTypes := ts }) (h : wpList P ops Q (o :: rest) a W) : wpList P ops Q (o :: rest) a W := h
def trace_any.f (q : S24 → Option Bool) : List S24 → Option Bool
  | [] => some false
  | x :: l => (q x).bind fun b => if b = true then some true else trace_any.f q l
theorem trace_any.mono {q q' : S24 → Option Bool} (hq : ∀ x, LeO (q x) (q' x)) : ∀ l, LeO (trace_any.f q l) (trace_any.f q' l)
  | [] => LeO.refl _
  | x :: l => LeO.bind (hq x) (fun _ => LeO.ite (LeO.refl _) (trace_any.mono hq l))
set_option maxHeartbeats 4000000 in
set_option maxRecDepth 100000 in
theorem trace_index.calls (q : S24 → Option Bool) (g : Nat) (fn : Func) (lb : Array Value) (hf : Try.prog.funcs[g]? = some fn) (hname : (fn.name == "runtime.NumGoroutine") = false) (hbo : fn.body.isSome = true) (A : Option Addr) (c : Nat) (l : List S24) (r : Bool) (w : World) (hr : Kd.C k24 w A l.length l) (hlen : l.length ≤ 1000000)
   (hst : ∀ (x : S24) (b : Bool) (W : World), Below w.heap.size w W → q x = some b → Calls Try.prog g (#[.agg #[.int .u64 x.f0, .int .u64 x.f1]] ++ lb) W fun e W' => e = .returned (.bool b) ∧ Below W.heap.size W W')
   (h : trace_any.f q l = some r) :
   Calls Try.prog 67 #[.slice A l.length c, .func (.func g) #[] lb] w fun e w' => (∃ i : Int, e = .returned (.int .i64 i) ∧ decide (0 ≤ i) = r) ∧ Below w.heap.size w w' := by
  have HR := ak_ hr
  have HF := ak_ hf
  have HN := ak_ hname
  have HBO := ak_ hbo
  have HST := ak_ hst
  have H0 := ak_ h
  clear hr hf hname hbo hst h
  go_enter func67, ntmps67
  go_wp2
  go_loopw [8] (fun i wr => ∃ k : Nat, i = .int .i64 k ∧ Aside0 (k ≤ l.length) ∧ Aside0 (trace_any.f q (l.drop k) = some r) ∧ Aside0 (Below w.heap.size w wr)) (fun i _ => l.length - (intOf i).toNat)
  case atStart => exact ⟨0, rfl, ⟨Nat.zero_le _⟩, ⟨H0.out⟩, ⟨Below.refl _ _⟩⟩
  case round =>
   obtain ⟨k, rfl, HK, HA, HB⟩ := hrel
   by_cases hlt : k < l.length
   ·obtain ⟨ad, e1, hx0, hx1⟩ := at_T24 (Kd.C_below HR.out HB.out) (k : Int) (by omega) (by omega)
    cases e1
    rw [Int.toNat_natCast] at hx0 hx1
    have hg : rd_T24 l (k : Int) = l[k] := by
     first | (unfold rd_T24; simp [hlt]; done) | (simp [rd_T24, rdOf, hlt]; done)
    rw [hg] at hx0 hx1
    have hd : l.drop k = l[k] :: l.drop (k + 1) := List.drop_eq_getElem_cons hlt
    have HA2 := HA.out
    rw [hd, trace_any.f] at HA2
    clear hg hd HA
    generalize l[k] = x at *
    obtain ⟨b, hq, HA3⟩ := bind_eq_some_iff.mp HA2
    clear HA2
    have HQ := ak_ hq
    have HD := ak_ HA3
    clear hq HA3
    have hkd : decide ((k : Int) < (l.length : Int)) = true := decide_eq_true (by omega)
    cases b with
    | true =>
     go_wp2_with ((with_reducible refine tr_gateC (x := .tmp 11) (xs_ := #[.tmp 15]) rfl ?_); refine tr_goesC (some 16) rfl rfl HF.out HN.out HBO.out #[.agg #[.int .u64 x.f0, .int .u64 x.f1]] rfl rfl (by (try simp only [map_toArray, map_cons, map_nil]); first | done | rfl) ?_; refine (HST.out x true _ HB.out HQ.out).mono ?_; rintro e w5 ⟨rfl, hb⟩; refine ⟨_, rfl, ?_⟩; have HB5 := ak_ (bt_ HB.out hb); clear hb)
     go_ret
     have h9 : some true = some r := HD.out
     have h8 := Option.some.inj h9
     exact ⟨⟨_, rfl, by rw [← h8]; exact decide_eq_true (by omega)⟩, HB5.out⟩
    | false =>
     go_wp2_with ((with_reducible refine tr_gateC (x := .tmp 11) (xs_ := #[.tmp 15]) rfl ?_); refine tr_goesC (some 16) rfl rfl HF.out HN.out HBO.out #[.agg #[.int .u64 x.f0, .int .u64 x.f1]] rfl rfl (by (try simp only [map_toArray, map_cons, map_nil]); first | done | rfl) ?_; refine (HST.out x false _ HB.out HQ.out).mono ?_; rintro e w5 ⟨rfl, hb⟩; refine ⟨_, rfl, ?_⟩; have HB5 := ak_ (bt_ HB.out hb); clear hb)
     go_roundw
     case rel => exact ⟨k + 1, by go_num, ⟨by omega⟩, ⟨by have := HD.out; simpa using this⟩, HB5⟩
     case measure => simp [intOf]; omega
   ·have hkl : k = l.length := by have := HK.out; omega
    subst hkl
    have hkd : decide ((l.length : Int) < (l.length : Int)) = false := decide_eq_false (by omega)
    have HA2 := HA.out
    rw [List.drop_length, trace_any.f] at HA2
    go_wp2
    go_ret
    have h8 := Option.some.inj HA2
    exact ⟨⟨_, rfl, by rw [← h8]; rfl⟩, HB.out⟩
set_option maxHeartbeats 4000000 in
set_option maxRecDepth 100000 in
theorem trace_contains.calls (q : S24 → Option Bool) (g : Nat) (fn : Func) (lb : Array Value) (hf : Try.prog.funcs[g]? = some fn) (hname : (fn.name == "runtime.NumGoroutine") = false) (hbo : fn.body.isSome = true) (A : Option Addr) (c : Nat) (l : List S24) (r : Bool) (w : World) (hr : Kd.C k24 w A l.length l) (hlen : l.length ≤ 1000000)
   (hst : ∀ (x : S24) (b : Bool) (W : World), Below w.heap.size w W → q x = some b → Calls Try.prog g (#[.agg #[.int .u64 x.f0, .int .u64 x.f1]] ++ lb) W fun e W' => e = .returned (.bool b) ∧ Below W.heap.size W W')
   (h : trace_any.f q l = some r) :
   Calls Try.prog 41 #[.slice A l.length c, .func (.func g) #[] lb] w fun e w' => e = .returned (.bool r) ∧ Below w.heap.size w w' := by
  have K := ak_ (trace_index.calls q g fn lb hf hname hbo A c l r w hr hlen hst h)
  clear hr hf hname hbo hst h
  go_enter func41, ntmps41
  go_wp2_with ((with_reducible refine gate_callee (f := 67) rfl ?_); refine goesL_ (some 7) rfl rfl func67 (by kernel_rfl) rfl #[.slice A l.length c, .func (.func g) #[] lb] rfl (by (try simp only [map_toArray, map_cons, map_nil]); first | done | rfl) ?_; refine (K.out).mono ?_; rintro e w5 ⟨⟨i, rfl, hi⟩, hb⟩; refine ⟨_, rfl, ?_⟩; have HI := ak_ hi; have HB5 := ak_ hb; clear hi hb)
  go_ret
  exact ⟨by rw [← HI.out]; rfl, HB5.out⟩
set_option maxHeartbeats 4000000 in
set_option maxRecDepth 100000 in
theorem trace_Ask1.calls (k : Nat) (a0 : Int) (bh : Nat) (x : S24) (b : Bool) (w : World) (hc : w.cell? ⟨bh, 0, none⟩ = some (.int .i64 a0)) (h : ((sub_Check.f k a0 x.f0 x.f1).bind fun r => some (r != 0)) = some b) :
   Calls Try.prog 40 (#[.agg #[.int .u64 x.f0, .int .u64 x.f1]] ++ #[.pointer (some ⟨bh, 0, none⟩)]) w fun e w' => e = .returned (.bool b) ∧ Below w.heap.size w w' := by
  have hu24 := underlying24
  obtain ⟨r, A3_, H⟩ := bind_eq_some_iff.mp h
  have A3 := ak_ A3_
  obtain rfl := Option.some.inj H
  clear A3_ h H
  have HB := ak_ (Below.refl w.heap.size w)
  have hc2 : (w.alloc (.cells #[.int .u64 x.f0, .int .u64 x.f1] 24)).cell? ⟨bh, 0, none⟩ = some (.int .i64 a0) := tr_al hc
  go_enter func40, ntmps40
  go_wp2_with ((with_reducible refine gate_callee (f := 38) rfl ?_); refine goesL_ (some 6) rfl rfl func38 (by kernel_rfl) rfl #[.int .i64 a0, .agg #[.int .u64 x.f0, .int .u64 x.f1]] rfl (by (try simp only [map_toArray, map_cons, map_nil]); first | done | rfl) ?_; (with_reducible refine (sub_Check.calls k a0 x.f0 x.f1 r _ A3.out).mono ?_); rintro e w5 ⟨rfl, hb⟩; refine ⟨_, rfl, ?_⟩; have HB5 := ak_ (bt_ (ba_ (Below.refl _ _) _) hb); clear hb)
  go_ret
  exact ⟨rfl, HB5.out⟩
def trace_asks1.f (k : Nat) (a0 i : Int) : List S24 → Option Bool
  | [] => some false
  | s :: l => (sub_Has.f k a0 s.f0 s.f1 i).bind fun p => if p.2 = 0 then (if p.1 = true then some true else trace_asks1.f k a0 i l) else trace_asks1.f k a0 i l
def trace_asks.f (k : Nat) (a0 : Int) (l : List S24) : List Int → Option Bool
  | [] => some false
  | i :: t => (trace_asks1.f k a0 i l).bind fun b => if b = true then some true else trace_asks.f k a0 l t
theorem trace_asks1.mono (k : Nat) (a0 i : Int) : ∀ l, LeO (trace_asks1.f k a0 i l) (trace_asks1.f (k + 1) a0 i l)
  | [] => LeO.refl _
  | s :: l => LeO.bind (sub_Has.mono _ _ _ _ _) (fun _ => LeO.ite (LeO.ite (LeO.refl _) (trace_asks1.mono k a0 i l)) (trace_asks1.mono k a0 i l))
theorem trace_asks.mono (k : Nat) (a0 : Int) (l : List S24) : ∀ t, LeO (trace_asks.f k a0 l t) (trace_asks.f (k + 1) a0 l t)
  | [] => LeO.refl _
  | i :: t => LeO.bind (trace_asks1.mono _ _ _ _) (fun _ => LeO.ite (LeO.refl _) (trace_asks.mono k a0 l t))
def trace_Ask.f (k : Nat) (a0 : Int) (a1_0 : Bool) (l1_1 : List Int) (l1_2 : List Bool) (a2 : Int) (l3 : List S24) : Option (Bool × Int) :=
  (leaf_Check.f k a0 l1_1).bind fun t => if t = 0 then (if a2 < 0 then some (false, 1) else (if l3.length ≤ 1000000 ∧ l1_1.length ≤ 1000000 then
   ((trace_any.f (fun s => (sub_Check.f k a0 s.f0 s.f1).bind fun r => some (r != 0)) l3).bind fun o => if o = true then some (false, 1) else (if a1_0 = true then (if a2 < (l1_2.length : Int) then some (rdOf false l1_2 a2, 0) else some (false, 0)) else ((trace_asks.f k a0 l3 l1_1).bind fun b => some (b, 0)))) else none)) else some (false, 1)
theorem trace_Ask.mono : ∀ a0 a1 a2 a3 a4 a5 k, LeO (trace_Ask.f k a0 a1 a2 a3 a4 a5) (trace_Ask.f (k + 1) a0 a1 a2 a3 a4 a5) := fun a0 a1 a2 a3 a4 a5 k =>
  LeO.bind (leaf_Check.mono _ _ _) (fun _ => LeO.ite (LeO.ite (LeO.refl _) (LeO.ite (LeO.bind (trace_any.mono (fun _ => LeO.bind (sub_Check.mono _ _ _ _) (fun _ => LeO.refl _)) _) (fun _ => LeO.ite (LeO.refl _) (LeO.ite (LeO.refl _) (LeO.bind (trace_asks.mono _ _ _ _) (fun _ => LeO.refl _))))) (LeO.refl _))) (LeO.refl _))
set_option maxHeartbeats 8000000 in
set_option maxRecDepth 100000 in
theorem trace_Ask.calls (k : Nat) (a0 : Int) (a1_0 : Bool) (A1_1 : Option Addr) (c1_1 : Nat) (l1_1 : List Int) (A1_2 : Option Addr) (c1_2 : Nat) (l1_2 : List Bool) (a2 : Int) (A3 : Option Addr) (c3 : Nat) (l3 : List S24) (r1 : Bool) (r2 : Int) (w : World) (hr1_1 : Kd.C (Kd.int .u64) w A1_1 l1_1.length l1_1) (hc1_1 : l1_1.length ≤ c1_1) (hr1_2 : Kd.C Kd.bool w A1_2 l1_2.length l1_2) (hc1_2 : l1_2.length ≤ c1_2) (hr3 : Kd.C k24 w A3 l3.length l3) (hc3 : l3.length ≤ c3) (h : trace_Ask.f k a0 a1_0 l1_1 l1_2 a2 l3 = some (r1, r2)) :
   Calls Try.prog 16 #[.int .i64 a0, .agg #[.bool a1_0, .slice A1_1 l1_1.length c1_1, .slice A1_2 l1_2.length c1_2], .int .i64 a2, .slice A3 l3.length c3] w fun e w' => e = .returned (.tuple #[.bool r1, .int .i64 r2]) ∧ Below w.heap.size w w' := by
  have hu42 := underlying42
  have hu24 := underlying24
  have hmf : ∀ (fn : Fn) (first cap : Array Value) (w : World), (Instr.makeFunc fn first cap).run Try.prog w = .ok (.func fn first cap) w := fun _ _ _ _ => rfl
  have HR1 := ak_ hr1_1
  have HC1 := ak_ hc1_1
  have HR2 := ak_ hr1_2
  have HR3 := ak_ hr3
  clear hr1_1 hc1_1 hr1_2 hr3
  have HB := ak_ (Below.refl w.heap.size w)
  obtain ⟨t, A3_, H⟩ := bind_eq_some_iff.mp h
  have A5 := ak_ A3_
  clear A3_ h
  have H' := ak_ H
  clear H
  go_enter func16, ntmps16
  go_upto_region 1 with (first
   | ((with_reducible refine gate_dst (N := 4) rfl ?_); refine box_event ?hg (N := 4) ?hd (cs := #[.int .i64 a0]) (t := 3) ?hr ?_; (case hd => rfl); (case hg => rfl); (case hr => first | (go_simp; done) | (go_simp; rfl)); intro gh hg w1 hbox hb; have n0_ := ak_ (bt_ HB.out hb); have BKH := ak_ hbox; have GEH := ak_ (show w.heap.size ≤ gh by rw [hg]; exact Nat.le_refl _); clear HB; have HB := n0_; clear n0_ hb hbox hg)
   | ((with_reducible refine gate_dst (N := 5) rfl ?_); refine box_event ?hg (N := 5) ?hd (cs := #[.bool a1_0, .slice A1_1 l1_1.length c1_1, .slice A1_2 l1_2.length c1_2]) (t := 42) ?hr ?_; (case hd => rfl); (case hg => rfl); (case hr => first | (go_simp; done) | (go_simp; rfl)); intro gp hg w2 hbox hb; have n0_ := ak_ (bt_ HB.out hb); have n1_ := ak_ (kb_ BKH.out hb); have BKP := ak_ hbox; clear HB BKH; have HB := n0_; have BKH := n1_; clear n0_ n1_ hb hbox hg))
  (try simp only [Act.put, setIfInBounds_toArray, set_cons_zero, set_cons_succ])
  have hch : w2.cell? ⟨gh, 0, none⟩ = some (.int .i64 a0) := (kc_ BKH.out 0).trans rfl
  have hcp0 : w2.cell? ⟨gp, 0, none⟩ = some (.bool a1_0) := (kc_ BKP.out 0).trans rfl
  have hcp1 : w2.cell? ⟨gp, 1, none⟩ = some (.slice A1_1 l1_1.length c1_1) := (kc_ BKP.out 1).trans rfl
  have hcp2 : w2.cell? ⟨gp, 2, none⟩ = some (.slice A1_2 l1_2.length c1_2) := (kc_ BKP.out 2).trans rfl
  have H := H'.out
  clear H'
  by_cases c1 : t = 0
  ·rw [if_pos c1] at H
   have c1b : (t != 0) = false := bne_eq_false_iff_eq.mpr c1
   clear c1
   by_cases c2 : a2 < 0
   ·rw [if_pos c2] at H
    have c2b : decide (a2 < 0) = true := decide_eq_true c2
    clear c2
    simp only [some.injEq, Prod.mk.injEq] at H
    obtain ⟨rfl, rfl⟩ := H
    go_wp2_with ((with_reducible refine gate_callee (f := 27) rfl ?_); refine goesL_ (some 21) rfl rfl func27 (by kernel_rfl) rfl #[.int .i64 a0, .slice A1_1 l1_1.length c1_1] rfl (by (try simp only [map_toArray, map_cons, map_nil]); first | done | rfl) ?_; (with_reducible refine (leaf_Check.calls k a0 _ _ l1_1 t _ (Kd.C_below HR1.out HB.out) HC1.out A5.out).mono ?_); rintro e w5 ⟨rfl, ⟨nd, rfl⟩⟩; refine ⟨_, rfl, ?_⟩)
    go_ret2
    exact ⟨rfl, bn_ HB.out nd⟩
   ·rw [if_neg c2] at H
    have c2b : decide (a2 < 0) = false := decide_eq_false c2
    by_cases c3 : l3.length ≤ 1000000 ∧ l1_1.length ≤ 1000000
    ·rw [if_pos c3] at H
     obtain ⟨hl3, hl1⟩ := c3
     obtain ⟨o, ho, H⟩ := bind_eq_some_iff.mp H
     have HO := ak_ ho
     clear ho
     have key : ∀ nd, Calls Try.prog 41 #[.slice A3 l3.length c3, .func (.func 40) #[] #[.pointer (some ⟨gh, 0, none⟩)]] (w2.drewN nd) fun e w' => e = .returned (.bool o) ∧ Below w2.heap.size (w2.drewN nd) w' := fun nd =>
      trace_contains.calls _ 40 Try.f40 _ func40 (by kernel_rfl) rfl A3 c3 l3 o (w2.drewN nd) (Kd.C_drewN (Kd.C_below HR3.out HB.out) _) hl3 (fun x b W hB hq => trace_Ask1.calls k a0 gh x b W ((hB.cell (p := ⟨gh, 0, none⟩) (by show gh < w2.heap.size; exact blk_lt BKH.out)).trans hch) hq) HO.out
     have KEY := ak_ key
     clear key HO
     cases o with
     | true =>
      replace H : some (false, (1 : Int)) = some (r1, r2) := H
      simp only [some.injEq, Prod.mk.injEq] at H
      obtain ⟨rfl, rfl⟩ := H
      go_wp2_with (first | ((with_reducible refine gate_callee (f := 27) rfl ?_); refine goesL_ (some 21) rfl rfl func27 (by kernel_rfl) rfl #[.int .i64 a0, .slice A1_1 l1_1.length c1_1] rfl (by (try simp only [map_toArray, map_cons, map_nil]); first | done | rfl) ?_; (with_reducible refine (leaf_Check.calls k a0 _ _ l1_1 t _ (Kd.C_below HR1.out HB.out) HC1.out A5.out).mono ?_); rintro e w5 ⟨rfl, ⟨nd, rfl⟩⟩; refine ⟨_, rfl, ?_⟩) | (go_at_call 41; refine (KEY.out _).mono ?_; rintro e w3 ⟨rfl, hb⟩; have HB3 := ak_ (Below.trans (bn_ HB.out nd) (hb.mono HB.out.size)); have BKP3 := ak_ ((hb.block gp (blk_lt BKP.out)).trans BKP.out); have BKH3 := ak_ ((hb.block gh (blk_lt BKH.out)).trans BKH.out); clear hb; have hch3 : w3.cell? ⟨gh, 0, none⟩ = some (.int .i64 a0) := (kc_ BKH3.out 0).trans rfl; have hcq0 : w3.cell? ⟨gp, 0, none⟩ = some (.bool a1_0) := (kc_ BKP3.out 0).trans rfl; have hcq1 : w3.cell? ⟨gp, 1, none⟩ = some (.slice A1_1 l1_1.length c1_1) := (kc_ BKP3.out 1).trans rfl; have hcq2 : w3.cell? ⟨gp, 2, none⟩ = some (.slice A1_2 l1_2.length c1_2) := (kc_ BKP3.out 2).trans rfl))
      go_ret2
      exact ⟨rfl, HB3.out⟩
     | false =>
      replace H : (if a1_0 = true then (if a2 < (l1_2.length : Int) then some (rdOf false l1_2 a2, (0 : Int)) else some (false, 0)) else ((trace_asks.f k a0 l3 l1_1).bind fun b => some (b, 0))) = some (r1, r2) := H
      cases a1_0 with
      | true =>
       replace H : (if a2 < (l1_2.length : Int) then some (rdOf false l1_2 a2, (0 : Int)) else some (false, 0)) = some (r1, r2) := H
       by_cases c4 : a2 < (l1_2.length : Int)
       ·rw [if_pos c4] at H
        have c4b : decide (a2 < (l1_2.length : Int)) = true := decide_eq_true c4
        simp only [some.injEq, Prod.mk.injEq] at H
        obtain ⟨rfl, rfl⟩ := H
        have p28 : 0 ≤ (a2 : Int) := by omega
        have q28 : a2 < (l1_2.length : Int) := c4
        obtain ⟨ad28, e28, hx28_0⟩ := Kd.at_bool HR2.out a2 p28 c4
        cases e28
        have HX := ak_ hx28_0
        clear hx28_0 c2 c4
        replace p28 := eq_true p28
        replace q28 := eq_true q28
        go_wp2_with (first | ((with_reducible refine gate_callee (f := 27) rfl ?_); refine goesL_ (some 21) rfl rfl func27 (by kernel_rfl) rfl #[.int .i64 a0, .slice A1_1 l1_1.length c1_1] rfl (by (try simp only [map_toArray, map_cons, map_nil]); first | done | rfl) ?_; (with_reducible refine (leaf_Check.calls k a0 _ _ l1_1 t _ (Kd.C_below HR1.out HB.out) HC1.out A5.out).mono ?_); rintro e w5 ⟨rfl, ⟨nd, rfl⟩⟩; refine ⟨_, rfl, ?_⟩) | ((go_at_call 41; refine (KEY.out _).mono ?_; rintro e w3 ⟨rfl, hb⟩; have HB3 := ak_ (Below.trans (bn_ HB.out nd) (hb.mono HB.out.size)); have BKP3 := ak_ ((hb.block gp (blk_lt BKP.out)).trans BKP.out); have BKH3 := ak_ ((hb.block gh (blk_lt BKH.out)).trans BKH.out); clear hb; have hch3 : w3.cell? ⟨gh, 0, none⟩ = some (.int .i64 a0) := (kc_ BKH3.out 0).trans rfl; have hcq0 : w3.cell? ⟨gp, 0, none⟩ = some (.bool true) := (kc_ BKP3.out 0).trans rfl; have hcq1 : w3.cell? ⟨gp, 1, none⟩ = some (.slice A1_1 l1_1.length c1_1) := (kc_ BKP3.out 1).trans rfl; have hcq2 : w3.cell? ⟨gp, 2, none⟩ = some (.slice (some ad28) l1_2.length c1_2) := (kc_ BKP3.out 2).trans rfl); have hx28 := (HB3.out.cell (World.block_lt_of_cell? w _ HX.out)).trans HX.out))
        go_ret2
        exact ⟨rfl, HB3.out⟩
       ·rw [if_neg c4] at H
        have c4b : decide (a2 < (l1_2.length : Int)) = false := decide_eq_false c4
        clear c4
        simp only [some.injEq, Prod.mk.injEq] at H
        obtain ⟨rfl, rfl⟩ := H
        go_wp2_with (first | ((with_reducible refine gate_callee (f := 27) rfl ?_); refine goesL_ (some 21) rfl rfl func27 (by kernel_rfl) rfl #[.int .i64 a0, .slice A1_1 l1_1.length c1_1] rfl (by (try simp only [map_toArray, map_cons, map_nil]); first | done | rfl) ?_; (with_reducible refine (leaf_Check.calls k a0 _ _ l1_1 t _ (Kd.C_below HR1.out HB.out) HC1.out A5.out).mono ?_); rintro e w5 ⟨rfl, ⟨nd, rfl⟩⟩; refine ⟨_, rfl, ?_⟩) | (go_at_call 41; refine (KEY.out _).mono ?_; rintro e w3 ⟨rfl, hb⟩; have HB3 := ak_ (Below.trans (bn_ HB.out nd) (hb.mono HB.out.size)); have BKP3 := ak_ ((hb.block gp (blk_lt BKP.out)).trans BKP.out); have BKH3 := ak_ ((hb.block gh (blk_lt BKH.out)).trans BKH.out); clear hb; have hch3 : w3.cell? ⟨gh, 0, none⟩ = some (.int .i64 a0) := (kc_ BKH3.out 0).trans rfl; have hcq0 : w3.cell? ⟨gp, 0, none⟩ = some (.bool true) := (kc_ BKP3.out 0).trans rfl; have hcq1 : w3.cell? ⟨gp, 1, none⟩ = some (.slice A1_1 l1_1.length c1_1) := (kc_ BKP3.out 1).trans rfl; have hcq2 : w3.cell? ⟨gp, 2, none⟩ = some (.slice A1_2 l1_2.length c1_2) := (kc_ BKP3.out 2).trans rfl))
        go_ret2
        exact ⟨rfl, HB3.out⟩
      | false =>
       replace H : ((trace_asks.f k a0 l3 l1_1).bind fun b => some (b, (0 : Int))) = some (r1, r2) := H
       obtain ⟨b, H2, H⟩ := bind_eq_some_iff.mp H
       simp only [some.injEq, Prod.mk.injEq] at H
       obtain ⟨rfl, rfl⟩ := H
       have HS := ak_ H2
       clear H2
       go_wp2_with (first | ((with_reducible refine gate_callee (f := 27) rfl ?_); refine goesL_ (some 21) rfl rfl func27 (by kernel_rfl) rfl #[.int .i64 a0, .slice A1_1 l1_1.length c1_1] rfl (by (try simp only [map_toArray, map_cons, map_nil]); first | done | rfl) ?_; (with_reducible refine (leaf_Check.calls k a0 _ _ l1_1 t _ (Kd.C_below HR1.out HB.out) HC1.out A5.out).mono ?_); rintro e w5 ⟨rfl, ⟨nd, rfl⟩⟩; refine ⟨_, rfl, ?_⟩) | (go_at_call 41; refine (KEY.out _).mono ?_; rintro e w3 ⟨rfl, hb⟩; have HB3 := ak_ (Below.trans (bn_ HB.out nd) (hb.mono HB.out.size)); have BKP3 := ak_ ((hb.block gp (blk_lt BKP.out)).trans BKP.out); have BKH3 := ak_ ((hb.block gh (blk_lt BKH.out)).trans BKH.out); clear hb; have hch3 : w3.cell? ⟨gh, 0, none⟩ = some (.int .i64 a0) := (kc_ BKH3.out 0).trans rfl; have hcq0 : w3.cell? ⟨gp, 0, none⟩ = some (.bool false) := (kc_ BKP3.out 0).trans rfl; have hcq1 : w3.cell? ⟨gp, 1, none⟩ = some (.slice A1_1 l1_1.length c1_1) := (kc_ BKP3.out 1).trans rfl; have hcq2 : w3.cell? ⟨gp, 2, none⟩ = some (.slice A1_2 l1_2.length c1_2) := (kc_ BKP3.out 2).trans rfl))
       go_loopw [49] (fun i wr => ∃ j : Nat, i = .int .i64 j ∧ Aside0 (j ≤ l1_1.length) ∧ Aside0 (trace_asks.f k a0 l3 (l1_1.drop j) = some b) ∧ Aside0 (wr.heap[gh]? = some (.cells #[.int .i64 a0] 3 (0, 0))) ∧ Aside0 (Below w.heap.size w wr)) (fun i _ => l1_1.length - (intOf i).toNat)
       case atStart => exact ⟨0, rfl, ⟨Nat.zero_le _⟩, ⟨HS.out⟩, BKH3, HB3⟩
       case round =>
        clear HS HB3 BKH3 BKP3 KEY hch3 hcq0 hcq1 hcq2 hcp0 hcp1 hcp2 BKP BKH HB
        obtain ⟨j, rfl, HJ, HA, BKH, HB⟩ := hrel
        by_cases hlt : j < l1_1.length
        ·obtain ⟨ad, e1, hx0⟩ := Kd.at_int (Kd.C_below HR1.out HB.out) (j : Int) (by omega) (by omega)
         cases e1
         rw [Int.toNat_natCast] at hx0
         have hd : l1_1.drop j = rd l1_1 (j : Int) :: l1_1.drop (j + 1) := by
          rw [List.drop_eq_getElem_cons hlt]; congr 1
          unfold rd; simp [hlt]
         have HA2 := HA.out
         rw [hd, trace_asks.f] at HA2
         clear hd HA
         generalize rd l1_1 (j : Int) = x at *
         obtain ⟨y, hy, HA3⟩ := bind_eq_some_iff.mp HA2
         clear HA2
         have HY := ak_ hy
         have HD := ak_ HA3
         clear hy HA3
         have hjd : decide ((j : Int) < (l1_1.length : Int)) = true := decide_eq_true (by omega)
         go_wp2
         go_loopw [55] (fun i wr => ∃ m : Nat, i = .int .i64 m ∧ Aside0 (m ≤ l3.length) ∧ Aside0 (trace_asks1.f k a0 x (l3.drop m) = some y) ∧ Aside0 (wr.heap[gh]? = some (.cells #[.int .i64 a0] 3 (0, 0))) ∧ Aside0 (Below w.heap.size w wr)) (fun i _ => l3.length - (intOf i).toNat)
         case atStart => exact ⟨0, rfl, ⟨Nat.zero_le _⟩, ⟨HY.out⟩, BKH, HB⟩
         case round =>
          clear HY BKH HB hx0
          obtain ⟨m, rfl, HM, HA, BKH, HB⟩ := hrel
          by_cases hlm : m < l3.length
          ·obtain ⟨ad3, e3, hx0, hx1⟩ := at_T24 (Kd.C_below HR3.out HB.out) (m : Int) (by omega) (by omega)
           cases e3
           rw [Int.toNat_natCast] at hx0 hx1
           have hg : rd_T24 l3 (m : Int) = l3[m] := by
            first | (unfold rd_T24; simp [hlm]; done) | (simp [rd_T24, rdOf, hlm]; done)
           rw [hg] at hx0 hx1
           have hd : l3.drop m = l3[m] :: l3.drop (m + 1) := List.drop_eq_getElem_cons hlm
           have HA2 := HA.out
           rw [hd, trace_asks1.f] at HA2
           clear hg hd HA
           generalize l3[m] = s at *
           obtain ⟨⟨y1, y2⟩, hy, HA3⟩ := bind_eq_some_iff.mp HA2
           clear HA2
           replace HA3 : (if y2 = 0 then (if y1 = true then some true else trace_asks1.f k a0 x (l3.drop (m + 1))) else trace_asks1.f k a0 x (l3.drop (m + 1))) = some y := HA3
           have HY := ak_ hy
           clear hy
           have hmd : decide ((m : Int) < (l3.length : Int)) = true := decide_eq_true (by omega)
           have hch : wr.cell? ⟨gh, 0, none⟩ = some (.int .i64 a0) := (kc_ BKH.out 0).trans rfl
           have hch2 : (wr.alloc (.cells #[.int .u64 s.f0, .int .u64 s.f1] 24)).cell? ⟨gh, 0, none⟩ = some (.int .i64 a0) := tr_al hch
           by_cases d1 : y2 = 0
           ·rw [if_pos d1] at HA3
            have d1b : (y2 == 0) = true := beq_iff_eq.mpr d1
            clear d1
            cases y1 with
            | true =>
             have h9 : some true = some y := HA3
             obtain rfl := Option.some.inj h9
             have hr1 : some true = some b := HD.out
             obtain rfl := Option.some.inj hr1
             go_wp2_with ((with_reducible refine gate_callee (f := 13) rfl ?_); refine goesL_ (some 63) rfl rfl func13 (by kernel_rfl) rfl #[.int .i64 a0, .agg #[.int .u64 s.f0, .int .u64 s.f1], .int .u64 x] rfl (by (try simp only [map_toArray, map_cons, map_nil]); first | done | rfl) ?_; (with_reducible refine (sub_Has.calls k a0 s.f0 s.f1 x true y2 _ HY.out).mono ?_); rintro e w5 ⟨rfl, hb⟩; refine ⟨_, rfl, ?_⟩; have HB5 := ak_ (bt_ (ba_ HB.out _) hb); have BKH5 := ak_ (kb_ (kb_ BKH.out (ba_ (Below.refl _ _) _)) hb); clear hb)
             go_ret2
             exact ⟨rfl, HB5.out⟩
            | false =>
             have HD2 := ak_ (show trace_asks1.f k a0 x (l3.drop (m + 1)) = some y from HA3)
             clear HA3
             go_wp2_with ((with_reducible refine gate_callee (f := 13) rfl ?_); refine goesL_ (some 63) rfl rfl func13 (by kernel_rfl) rfl #[.int .i64 a0, .agg #[.int .u64 s.f0, .int .u64 s.f1], .int .u64 x] rfl (by (try simp only [map_toArray, map_cons, map_nil]); first | done | rfl) ?_; (with_reducible refine (sub_Has.calls k a0 s.f0 s.f1 x false y2 _ HY.out).mono ?_); rintro e w5 ⟨rfl, hb⟩; refine ⟨_, rfl, ?_⟩; have HB5 := ak_ (bt_ (ba_ HB.out _) hb); have BKH5 := ak_ (kb_ (kb_ BKH.out (ba_ (Below.refl _ _) _)) hb); clear hb)
             go_roundw
             case rel => exact ⟨m + 1, by go_num, ⟨by omega⟩, HD2, BKH5, HB5⟩
             case measure => simp [intOf]; omega
           ·rw [if_neg d1] at HA3
            have d1b : (y2 == 0) = false := beq_eq_false_iff_ne.mpr d1
            clear d1
            have HD2 := ak_ HA3
            clear HA3
            go_wp2_with ((with_reducible refine gate_callee (f := 13) rfl ?_); refine goesL_ (some 63) rfl rfl func13 (by kernel_rfl) rfl #[.int .i64 a0, .agg #[.int .u64 s.f0, .int .u64 s.f1], .int .u64 x] rfl (by (try simp only [map_toArray, map_cons, map_nil]); first | done | rfl) ?_; (with_reducible refine (sub_Has.calls k a0 s.f0 s.f1 x y1 y2 _ HY.out).mono ?_); rintro e w5 ⟨rfl, hb⟩; refine ⟨_, rfl, ?_⟩; have HB5 := ak_ (bt_ (ba_ HB.out _) hb); have BKH5 := ak_ (kb_ (kb_ BKH.out (ba_ (Below.refl _ _) _)) hb); clear hb)
            go_roundw
            case rel => exact ⟨m + 1, by go_num, ⟨by omega⟩, HD2, BKH5, HB5⟩
            case measure => simp [intOf]; omega
          ·have hml : m = l3.length := by have := HM.out; omega
           subst hml
           have hmd : decide ((l3.length : Int) < (l3.length : Int)) = false := decide_eq_false (by omega)
           have h9 := HA.out
           rw [List.drop_length, trace_asks1.f] at h9
           obtain rfl := Option.some.inj h9
           have HD2 := ak_ (show trace_asks.f k a0 l3 (l1_1.drop (j + 1)) = some b from HD.out)
           go_wp2
           go_roundw
           case rel => exact ⟨j + 1, by go_num, ⟨by omega⟩, HD2, BKH, HB⟩
           case measure => simp [intOf]; omega
        ·have hjl : j = l1_1.length := by have := HJ.out; omega
         subst hjl
         have hjd : decide ((l1_1.length : Int) < (l1_1.length : Int)) = false := decide_eq_false (by omega)
         have h9 := HA.out
         rw [List.drop_length, trace_asks.f] at h9
         obtain rfl := Option.some.inj h9
         go_wp2
         go_ret2
         exact ⟨rfl, HB.out⟩
    ·rw [if_neg c3] at H; cases H
  ·rw [if_neg c1] at H
   have c1b : (t != 0) = true := bne_iff_ne.mpr c1
   clear c1
   simp only [some.injEq, Prod.mk.injEq] at H
   obtain ⟨rfl, rfl⟩ := H
   go_wp2_with ((with_reducible refine gate_callee (f := 27) rfl ?_); refine goesL_ (some 21) rfl rfl func27 (by kernel_rfl) rfl #[.int .i64 a0, .slice A1_1 l1_1.length c1_1] rfl (by (try simp only [map_toArray, map_cons, map_nil]); first | done | rfl) ?_; (with_reducible refine (leaf_Check.calls k a0 _ _ l1_1 t _ (Kd.C_below HR1.out HB.out) HC1.out A5.out).mono ?_); rintro e w5 ⟨rfl, ⟨nd, rfl⟩⟩; refine ⟨_, rfl, ?_⟩)
   go_ret2
   exact ⟨rfl, bn_ HB.out nd⟩
structure TrBut (g : Nat) (w w' : World) : Prop where
  os : w'.os = w.os
  tape : w'.tape = w.tape
  output : w'.output = w.output
  size : w.heap.size ≤ w'.heap.size
  block : ∀ k, k < w.heap.size → k ≠ g → w'.heap[k]? = w.heap[k]?
theorem TrBut.refl (g : Nat) (w : World) : TrBut g w w := ⟨rfl, rfl, rfl, Nat.le_refl _, fun _ _ _ => rfl⟩
theorem TrBut.trans {g : Nat} {a b c : World} (h : TrBut g a b) (k : TrBut g b c) : TrBut g a c :=
  ⟨k.os.trans h.os, k.tape.trans h.tape, k.output.trans h.output, Nat.le_trans h.size k.size, fun i hi hn => (k.block i (Nat.lt_of_lt_of_le hi h.size) hn).trans (h.block i hi hn)⟩
theorem TrBut.of {g : Nat} {a b : World} (h : Below a.heap.size a b) : TrBut g a b := ⟨h.os, h.tape, h.output, h.size, fun k hk _ => h.block k hk⟩
theorem TrBut.set (g i : Nat) (w : World) (u : Value) : TrBut g w (w.setCell ⟨g, i, none⟩ u) :=
  ⟨rfl, rfl, rfl, by simp [World.setCell], fun k _ hn => Below.heap_setCell w _ u k hn⟩
theorem TrBut.below {g B : Nat} {a b : World} (h : TrBut g a b) (hg : B ≤ g) (hB : B ≤ a.heap.size) : Below B a b :=
  ⟨h.os, h.tape, h.output, h.size, fun k hk => h.block k (Nat.lt_of_lt_of_le hk hB) (by omega)⟩
theorem TrBut.cell {g : Nat} {a b : World} (h : TrBut g a b) {p : Addr} {v : Value} (hc : a.cell? p = some v) (hp : p.block ≠ g) : b.cell? p = some v :=
  (World.cell?_of_block (w := a) (h.block p.block (World.block_lt_of_cell? a p hc) hp)).trans hc
theorem TrBut.heap {g k : Nat} {a b : World} {o : Obj} (h : TrBut g a b) (hk : a.heap[k]? = some o) (hp : k ≠ g) : b.heap[k]? = some o := (h.block k (blk_lt hk) hp).trans hk
def trace_yes.f (k : Nat) (a0 : Int) (pl : Bool) (T : List Int) (S : List Bool) (n : Int) (l : List S24) : Option Bool := (trace_Ask.f k a0 pl T S n l).bind fun p => if p.2 = 0 then some p.1 else some false
theorem trace_yes.mono (a0 : Int) (pl : Bool) (T : List Int) (S : List Bool) (n : Int) (l : List S24) (k : Nat) : LeO (trace_yes.f k a0 pl T S n l) (trace_yes.f (k + 1) a0 pl T S n l) := LeO.bind (trace_Ask.mono _ _ _ _ _ _ _) (fun _ => LeO.refl _)
set_option maxHeartbeats 4000000 in
set_option maxRecDepth 100000 in
theorem trace_yes.calls (k : Nat) (a0 : Int) (pl : Bool) (A1 : Option Addr) (c1 : Nat) (T : List Int) (A2 : Option Addr) (c2 : Nat) (S : List Bool) (n : Int) (A3 : Option Addr) (c3 : Nat) (l : List S24) (r : Bool) (g : Nat) (w : World) (hr1 : Kd.C (Kd.int .u64) w A1 T.length T) (hc1 : T.length ≤ c1) (hr2 : Kd.C Kd.bool w A2 S.length S) (hc2 : S.length ≤ c2) (hr3 : Kd.C k24 w A3 l.length l) (hc3 : l.length ≤ c3)
   (hg : w.heap[g]? = some (.cells #[.int .i64 a0, .bool pl, .slice A1 T.length c1, .slice A2 S.length c2, .int .i64 n] 84 (0, 0))) (h : trace_yes.f k a0 pl T S n l = some r) :
   Calls Try.prog 48 #[.pointer (some ⟨g, 0, none⟩), .slice A3 l.length c3] w fun e w' => e = .returned (.bool r) ∧ w'.heap[g]? = some (.cells #[.int .i64 a0, .bool pl, .slice A1 T.length c1, .slice A2 S.length c2, .int .i64 (wrap64 (n + 1))] 84 (0, 0)) ∧ TrBut g w w' := by
  have hu84 := underlying84
  have hu42 := underlying42
  obtain ⟨⟨b, e1⟩, A3_, H⟩ := bind_eq_some_iff.mp h
  replace H : (if e1 = 0 then some b else some false) = some r := H
  have AK := ak_ (fun (W : World) (hW : Below w.heap.size w W) => trace_Ask.calls k a0 pl A1 c1 T A2 c2 S n A3 c3 l b e1 W (Kd.C_below hr1 hW) hc1 (Kd.C_below hr2 hW) hc2 (Kd.C_below hr3 hW) hc3 A3_)
  have HG := ak_ hg
  have y0 : w.cell? ⟨g, 0, none⟩ = some (.int .i64 a0) := (kc_ hg 0).trans rfl
  have y1 : w.cell? ⟨g, 1, none⟩ = some (.bool pl) := (kc_ hg 1).trans rfl
  have y2 : w.cell? ⟨g, 2, none⟩ = some (.slice A1 T.length c1) := (kc_ hg 2).trans rfl
  have y3 : w.cell? ⟨g, 3, none⟩ = some (.slice A2 S.length c2) := (kc_ hg 3).trans rfl
  have y4 : w.cell? ⟨g, 4, none⟩ = some (.int .i64 n) := (kc_ hg 4).trans rfl
  have H' := ak_ H
  clear hr1 hc1 hr2 hc2 hr3 hc3 hg h A3_ H
  go_enter func48, ntmps48
  go_wp2
  go_region_held3 (fun w' => w'.cell? ⟨g, 0, none⟩ = some (.int .i64 a0) ∧ w'.cell? ⟨g, 1, none⟩ = some (.bool pl) ∧ w'.cell? ⟨g, 2, none⟩ = some (.slice A1 T.length c1) ∧ w'.cell? ⟨g, 3, none⟩ = some (.slice A2 S.length c2) ∧ w'.cell? ⟨g, 4, none⟩ = some (.int .i64 n)) (first | exact ⟨y0, y1, y2, y3, y4⟩ | exact ⟨z0, z1, z2, z3, z4⟩)
   (first | (go_at_call 16; refine (AK.out _ ?s1).mono ?_; (case s1 => first | exact (Below.refl w.heap.size w).drew | exact Below.refl w.heap.size w | exact bn_ (Below.refl w.heap.size w) _); rintro e w5 ⟨rfl, hb⟩; have hb : Below w.heap.size w w5 := ⟨hb.os, hb.tape, hb.output, hb.size, hb.block⟩; have HB5 := ak_ hb; have BK5 := ak_ (kb_ HG.out hb); have z0 := (hb.cell (p := ⟨g, 0, none⟩) (blk_lt HG.out)).trans y0; have z1 := (hb.cell (p := ⟨g, 1, none⟩) (blk_lt HG.out)).trans y1; have z2 := (hb.cell (p := ⟨g, 2, none⟩) (blk_lt HG.out)).trans y2; have z3 := (hb.cell (p := ⟨g, 3, none⟩) (blk_lt HG.out)).trans y3; have z4 := (hb.cell (p := ⟨g, 4, none⟩) (blk_lt HG.out)).trans y4; clear hb))
  all_goals
   have hf4 := kf_ BK5.out 4
   have H := H'.out
   clear H' AK
   by_cases c : e1 = 0
   ·rw [if_pos c] at H
    have cb : (e1 == 0) = true := beq_iff_eq.mpr c
    clear c
    obtain rfl := Option.some.inj H
    go_wp2
    go_ret
    exact ⟨rfl, blk_put BK5.out 4 _ rfl, (TrBut.of HB5.out).trans (TrBut.set _ _ _ _)⟩
   ·rw [if_neg c] at H
    have cb : (e1 == 0) = false := beq_eq_false_iff_ne.mpr c
    clear c
    obtain rfl := Option.some.inj H
    go_wp2
    go_ret
    exact ⟨rfl, blk_put BK5.out 4 _ rfl, (TrBut.of HB5.out).trans (TrBut.set _ _ _ _)⟩
def trace_gap.g (k : Nat) (a0 : Int) (pl : Bool) (T : List Int) (S : List Bool) (l : List S24) : Nat → Int → Nat → Nat → Option (Nat × Int)
  | 0, _, _, _ => none
  | m + 1, n, lo, hi => if 1 < hi - lo then (trace_yes.f k a0 pl T S n (l.drop ((lo + hi) / 2))).bind fun b => if b = true then trace_gap.g k a0 pl T S l m (wrap64 (n + 1)) ((lo + hi) / 2) hi else trace_gap.g k a0 pl T S l m (wrap64 (n + 1)) lo ((lo + hi) / 2) else some (lo, n)
set_option maxHeartbeats 4000000 in
set_option maxRecDepth 100000 in
theorem trace_gap.calls (k : Nat) (a0 : Int) (pl : Bool) (A1 : Option Addr) (c1 : Nat) (T : List Int) (A2 : Option Addr) (c2 : Nat) (S : List Bool) (n : Int) (A3 : Option Addr) (c3 : Nat) (l : List S24) (m r : Nat) (n' : Int) (g : Nat) (w : World) (hr1 : Kd.C (Kd.int .u64) w A1 T.length T) (hc1 : T.length ≤ c1) (hr2 : Kd.C Kd.bool w A2 S.length S) (hc2 : S.length ≤ c2) (hr3 : Kd.C k24 w A3 l.length l) (hc3 : l.length ≤ c3) (hlen : l.length ≤ 1000000)
   (hg : w.heap[g]? = some (.cells #[.int .i64 a0, .bool pl, .slice A1 T.length c1, .slice A2 S.length c2, .int .i64 n] 84 (0, 0)))
   (hk : ∀ W, TrBut g w W → Kd.C (Kd.int .u64) W A1 T.length T ∧ Kd.C Kd.bool W A2 S.length S ∧ Kd.C k24 W A3 l.length l)
   (h : trace_gap.g k a0 pl T S l m n 0 l.length = some (r, n')) :
   Calls Try.prog 49 #[.pointer (some ⟨g, 0, none⟩), .slice A3 l.length c3] w fun e w' => e = .returned (.int .i64 r) ∧ w'.heap[g]? = some (.cells #[.int .i64 a0, .bool pl, .slice A1 T.length c1, .slice A2 S.length c2, .int .i64 n'] 84 (0, 0)) ∧ TrBut g w w' := by
  have HK := ak_ hk
  have HG := ak_ hg
  have HC1 := ak_ hc1
  have HC2 := ak_ hc2
  have HC3 := ak_ hc3
  have H0 := ak_ h
  clear hr1 hc1 hr2 hc2 hr3 hg hk h
  go_enter func49, ntmps49
  go_wp2
  go_loopw [5, 6] (fun x y wr => ∃ (lo hi m : Nat) (n : Int), x = .int .i64 lo ∧ y = .int .i64 hi ∧ Aside0 (lo ≤ hi ∧ hi ≤ l.length) ∧ Aside0 (trace_gap.g k a0 pl T S l m n lo hi = some (r, n')) ∧ Aside0 (wr.heap[g]? = some (.cells #[.int .i64 a0, .bool pl, .slice A1 T.length c1, .slice A2 S.length c2, .int .i64 n] 84 (0, 0))) ∧ Aside0 (TrBut g w wr)) (fun x y _ => (intOf y).toNat - (intOf x).toNat)
  case atStart => exact ⟨0, l.length, m, n, rfl, rfl, ⟨Nat.zero_le _, Nat.le_refl _⟩, H0, HG, ⟨TrBut.refl _ _⟩⟩
  case round =>
   clear H0 HG
   obtain ⟨lo, hi, m, n, rfl, rfl, HL, HA, HG, HB⟩ := hrel
   cases m with
   | zero => exact absurd HA.out (by simp [trace_gap.g])
   | succ m =>
    have hA := HA.out
    rw [trace_gap.g] at hA
    clear HA
    by_cases cc : 1 < hi - lo
    ·rw [if_pos cc] at hA
     obtain ⟨b, hb, hA⟩ := bind_eq_some_iff.mp hA
     obtain ⟨md, hmd⟩ : ∃ md, md = (lo + hi) / 2 := ⟨_, rfl⟩
     rw [← hmd] at hb hA
     have HMD := ak_ hmd
     have hw1 : wrap64 ((hi : Int) - (lo : Int)) = (hi : Int) - lo := by have := HL.out; unfold wrap64; omega
     have hd1 : decide ((hi : Int) - lo > 1) = true := decide_eq_true (by omega)
     have hw2 : wrap64 ((lo : Int) + (hi : Int)) / 2 = (md : Int) := by have := HL.out; unfold wrap64; omega
     have p21 : (0 ≤ (md : Int)) = True := eq_true (by omega)
     have q21 : ((md : Int) ≤ (l.length : Int)) = True := eq_true (by have := HL.out; omega)
     have HQ := ak_ (show md ≤ l.length by have := HL.out; omega)
     have KY := ak_ (trace_yes.calls k a0 pl A1 c1 T A2 c2 S n (if c3 = md then A3 else A3.map (·.add (md * 2))) (c3 - md) (l.drop md) b g wr (HK.out wr HB.out).1 HC1.out (HK.out wr HB.out).2.1 HC2.out (Kd.C_drop (HK.out wr HB.out).2.2 HQ.out HC3.out) (by rw [List.length_drop]; have := HC3.out; omega) HG.out hb)
     have HD := ak_ hA
     have HLT := ak_ cc
     clear hb hA cc hmd
     cases b with
     | true =>
      go_wp2_with ((with_reducible refine gate_callee (f := 48) rfl ?_); refine goesL_ (some 22) rfl rfl func48 (by kernel_rfl) rfl #[.pointer (some ⟨g, 0, none⟩), .slice (if c3 = md then A3 else A3.map (·.add (md * 2))) (l.drop md).length (c3 - md)] rfl (by (try simp only [map_toArray, map_cons, map_nil]); first | done | rfl | (simp only [length_drop, length_take]; rfl)) ?_; refine KY.out.mono ?_; rintro e w5 ⟨rfl, hg5, hb5⟩; refine ⟨_, rfl, ?_⟩; have HG5 := ak_ hg5; have HB5 := ak_ (HB.out.trans hb5); clear hg5 hb5)
      exact ⟨⟨md, hi, m, _, rfl, rfl, ⟨by have := HL.out; have := HMD.out; omega⟩, ⟨HD.out⟩, HG5, HB5⟩, by have := HL.out; have := HMD.out; have := HLT.out; simp [intOf]; omega⟩
     | false =>
      go_wp2_with ((with_reducible refine gate_callee (f := 48) rfl ?_); refine goesL_ (some 22) rfl rfl func48 (by kernel_rfl) rfl #[.pointer (some ⟨g, 0, none⟩), .slice (if c3 = md then A3 else A3.map (·.add (md * 2))) (l.drop md).length (c3 - md)] rfl (by (try simp only [map_toArray, map_cons, map_nil]); first | done | rfl | (simp only [length_drop, length_take]; rfl)) ?_; refine KY.out.mono ?_; rintro e w5 ⟨rfl, hg5, hb5⟩; refine ⟨_, rfl, ?_⟩; have HG5 := ak_ hg5; have HB5 := ak_ (HB.out.trans hb5); clear hg5 hb5)
      exact ⟨⟨lo, md, m, _, rfl, rfl, ⟨by have := HL.out; have := HMD.out; omega⟩, ⟨HD.out⟩, HG5, HB5⟩, by have := HL.out; have := HMD.out; have := HLT.out; simp [intOf]; omega⟩
    ·rw [if_neg cc] at hA
     have hw1 : wrap64 ((hi : Int) - (lo : Int)) = (hi : Int) - lo := by have := HL.out; unfold wrap64; omega
     have hd1 : decide ((hi : Int) - lo > 1) = false := decide_eq_false (by have := HL.out; omega)
     simp only [some.injEq, Prod.mk.injEq] at hA
     obtain ⟨rfl, rfl⟩ := hA
     clear cc
     go_wp2
     go_ret
     exact ⟨rfl, HG.out, HB.out⟩
theorem trace_gap.mono_g (k : Nat) (a0 : Int) (pl : Bool) (T : List Int) (S : List Bool) (l : List S24) : ∀ (m : Nat) (n : Int) (lo hi : Nat), LeO (trace_gap.g k a0 pl T S l m n lo hi) (trace_gap.g (k + 1) a0 pl T S l (m + 1) n lo hi)
  | 0, _, _, _ => LeO.none _
  | m + 1, n, lo, hi => LeO.ite (LeO.bind (trace_yes.mono _ _ _ _ _ _ _) (fun _ => LeO.ite (trace_gap.mono_g k a0 pl T S l m _ _ _) (trace_gap.mono_g k a0 pl T S l m _ _ _))) (LeO.refl _)
def trace_Trace.d (k : Nat) (a0 a1 : Int) (pl : Bool) (T : List Int) (S : List Bool) : Nat → Int → Int → Int → Option (Bool × Int × Int × Int)
  | 0, _, _, _ => none
  | m + 1, n, s0, s1 => (trace_Halves.f k a0 a1 s0 s1).bind fun p => if p.2 = 0 then (if p.1.length = 2 then ((trace_yes.f k a0 pl T S n [rd_T24 p.1 0]).bind fun b => if b = true then trace_Trace.d k a0 a1 pl T S m (wrap64 (n + 1)) (rd_T24 p.1 0).f0 (rd_T24 p.1 0).f1 else trace_Trace.d k a0 a1 pl T S m (wrap64 (n + 1)) (rd_T24 p.1 1).f0 (rd_T24 p.1 1).f1) else none) else ((trace_only.f k a0 s0 s1).bind fun o => some (true, o.1, n, 0))
def trace_Trace.f (k : Nat) (a0 : Int) (a1 : Int) (l2 : List S24) (a3_0 : Bool) (l3_1 : List Int) (l3_2 : List Bool) : Option (Bool × Int × Int × Int) :=
  (leaf_Check.f k a0 l3_1).bind fun t => if t = 0 then (if (l2.length : Int) < 1 then some (false, 0, 0, 1) else (if (l2.length : Int) > 32768 then some (false, 0, 0, 1) else
   ((trace_any.f (fun s => (trace_fits.f k a0 a1 s.f0 s.f1).bind fun r => some (!r)) l2).bind fun o => if o = true then some (false, 0, 0, 1) else
    ((trace_yes.f k a0 a3_0 l3_1 l3_2 0 l2).bind fun y => if y = true then ((trace_yes.f k a0 a3_0 l3_1 l3_2 1 []).bind fun z => if z = true then some (false, 0, 2, 0) else
     ((trace_gap.g k a0 a3_0 l3_1 l3_2 l2 k 2 0 l2.length).bind fun g => if g.1 < l2.length then trace_Trace.d k a0 a1 a3_0 l3_1 l3_2 k g.2 (rd_T24 l2 g.1).f0 (rd_T24 l2 g.1).f1 else none)) else some (false, 0, 1, 0))))) else some (false, 0, 0, 1)
theorem trace_Trace.mono_d (k : Nat) (a0 a1 : Int) (pl : Bool) (T : List Int) (S : List Bool) : ∀ (m : Nat) (n s0 s1 : Int), LeO (trace_Trace.d k a0 a1 pl T S m n s0 s1) (trace_Trace.d (k + 1) a0 a1 pl T S (m + 1) n s0 s1)
  | 0, _, _, _ => LeO.none _
  | m + 1, n, s0, s1 => LeO.bind (trace_Halves.mono _ _ _ _ _) (fun _ => LeO.ite (LeO.ite (LeO.bind (trace_yes.mono _ _ _ _ _ _ _) (fun _ => LeO.ite (trace_Trace.mono_d k a0 a1 pl T S m _ _ _) (trace_Trace.mono_d k a0 a1 pl T S m _ _ _))) (LeO.refl _)) (LeO.bind (trace_only.mono _ _ _ _) (fun _ => LeO.refl _)))
theorem trace_Trace.mono : ∀ a0 a1 l2 a3_0 l3_1 l3_2 k, LeO (trace_Trace.f k a0 a1 l2 a3_0 l3_1 l3_2) (trace_Trace.f (k + 1) a0 a1 l2 a3_0 l3_1 l3_2) := by
  intro a0 a1 l2 a3_0 l3_1 l3_2 k
  refine LeO.bind (leaf_Check.mono _ _ _) (fun _ => LeO.ite (LeO.ite (LeO.refl _) (LeO.ite (LeO.refl _) ?_)) (LeO.refl _))
  refine LeO.bind (trace_any.mono (fun _ => LeO.bind (trace_fits.mono _ _ _ _ _) (fun _ => LeO.refl _)) _) (fun _ => LeO.ite (LeO.refl _) ?_)
  refine LeO.bind (trace_yes.mono _ _ _ _ _ _ _) (fun _ => LeO.ite ?_ (LeO.refl _))
  refine LeO.bind (trace_yes.mono _ _ _ _ _ _ _) (fun _ => LeO.ite (LeO.refl _) ?_)
  exact LeO.bind (trace_gap.mono_g _ _ _ _ _ _ _ _ _ _) (fun _ => LeO.ite (trace_Trace.mono_d _ _ _ _ _ _ _ _ _ _) (LeO.refl _))
theorem tr_least {p : Nat → Prop} (h : ∃ n, p n) : ∃ n, p n ∧ ∀ m, p m → n ≤ m := by
  obtain ⟨n, hn⟩ := h
  induction n using Nat.strongRecOn with
  | _ n ih =>
   by_cases c : ∃ m, m < n ∧ p m
   ·obtain ⟨m, hm, hp⟩ := c; exact ih m hm hp
   ·exact ⟨n, hn, fun m hm => by
     rcases Nat.lt_or_ge m n with h | h
     ·exact absurd ⟨m, h, hm⟩ c
     ·exact h⟩
theorem jump_mono {P : Program} {c : Code} {l : Nat} {J J' : Act → World → Prop} {Q : Exit → Act → World → Prop} {a : Act} {w : World} (h : c.wp P (Exit.jump l J Q) a w) (hj : ∀ a w, J a w → J' a w) : c.wp P (Exit.jump l J' Q) a w := by
  refine wp_mono h ?_
  intro e a w h
  cases e <;> first | exact h | exact ⟨h.1, hj _ _ h.2⟩
theorem wp_scope_ghost {P : Program} {a : Act} {w : World} {Q : Exit → Act → World → Prop} {c rest : Code} (l : Nat) (J : Nat → Act → World → Prop) (hf : findLabel c l = some (Code.skip.seq rest))
   (pass : ∀ n a w, J n a w → rest.wp P (Exit.jump l (fun a' w' => ∃ m, m < n ∧ J m a' w') Q) a w)
   (first : (∀ n a w, J n a w → rest.wp P (Exit.jump l (fun a' w' => ∃ m, J m a' w') Q) a w) → c.wp P (Exit.jump l (fun a' w' => ∃ m, J m a' w') Q) a w) : (Code.scope c).wp P Q a w := by
  refine wp_scope_jumps l (fun a' w' => ∃ m, J m a' w') (fun a' w' => open Classical in if h : ∃ m, J m a' w' then Classical.choose (tr_least h) else 0) hf (first (fun n a w h => jump_mono (pass n a w h) (fun _ _ ⟨m, _, h⟩ => ⟨m, h⟩))) ?_
  intro a w h
  have hs := Classical.choose_spec (tr_least h)
  refine wp_seq (wp_skip ?_)
  refine jump_mono (pass _ a w hs.1) ?_
  rintro a' w' ⟨m, hm, hj⟩
  have h' : ∃ m, J m a' w' := ⟨m, hj⟩
  refine ⟨h', ?_⟩
  rw [dif_pos h', dif_pos h]
  exact Nat.lt_of_le_of_lt ((Classical.choose_spec (tr_least h')).2 m hj) hm
theorem tr_one {W : World} {g : Nat} {p : S24} (h : W.heap[g]? = some (.cells #[.int .u64 p.f0, .int .u64 p.f1] 24 (0, 0))) : Kd.C k24 W (some ⟨g, 0, none⟩) 1 [p] := by
  refine ⟨rfl, by decide, fun _ => ⟨_, rfl, fun j q hj => ?_⟩⟩
  match j, hj with
  | 0, hj =>
   obtain rfl : p = q := by simpa using hj
   refine ⟨[.int .u64 p.f0, .int .u64 p.f1], rfl, k24_mk _ _, fun i u hu => ?_⟩
   have e := kc_ h
   match i, hu with
   | 0, hu => simp at hu; subst hu; exact (e 0).trans rfl
   | 1, hu => simp at hu; subst hu; exact (e 1).trans rfl
   | i + 2, hu => simp at hu
  | j + 1, hj => simp at hj
theorem tr_half {w' : World} {base : Nat} {ok : Nat → Prop} {v : Value} {x y : S24} (h : Kd.R k24 24 w' base ok v [x, y]) : ∃ gr cp, v = .slice (some ⟨gr, 0, none⟩) 2 cp ∧ base ≤ gr ∧ w'.cell? ⟨gr, 0, none⟩ = some (.int .u64 x.f0) ∧ w'.cell? ⟨gr, 1, none⟩ = some (.int .u64 x.f1) ∧ w'.cell? ⟨gr, 2, none⟩ = some (.int .u64 y.f0) ∧ w'.cell? ⟨gr, 3, none⟩ = some (.int .u64 y.f1) := by
  obtain ⟨gr, cp, rfl, hb, _, _⟩ := Kd.R_form h (by simp)
  have hC := (Kd.R_reads' h).2.2
  obtain ⟨ad, e, h0, h1⟩ := at_T24 hC 0 (by omega) (by simp)
  obtain ⟨ad', e', h2, h3⟩ := at_T24 hC 1 (by omega) (by simp)
  cases e
  cases e'
  exact ⟨gr, cp, rfl, hb, by simpa [rd_T24, Addr.add] using h0, by simpa [rd_T24, Addr.add] using h1, by simpa [rd_T24, Addr.add] using h2, by simpa [rd_T24, Addr.add] using h3⟩
theorem tr_far {W : World} {g gb : Nat} {o : Obj} {x y : Value} (h : W.heap[g]? = some o) (hn : g ≠ gb) : ((W.setCell ⟨gb, 0, none⟩ x).setCell ⟨gb, 1, none⟩ y).heap[g]? = some o :=
  (Below.heap_setCell _ ⟨gb, 1, none⟩ y g hn).trans ((Below.heap_setCell _ ⟨gb, 0, none⟩ x g hn).trans h)
theorem tr_farc {W : World} {gb : Nat} {p : Addr} {v x y : Value} (h : W.cell? p = some v) (hn : p.block ≠ gb) : ((W.setCell ⟨gb, 0, none⟩ x).setCell ⟨gb, 1, none⟩ y).cell? p = some v :=
  (World.cell?_of_block (w := W) ((Below.heap_setCell _ ⟨gb, 1, none⟩ y p.block hn).trans (Below.heap_setCell _ ⟨gb, 0, none⟩ x p.block hn))).trans h
theorem tr_put {W : World} {g : Nat} {a b x y : Value} {t : TypeId} (h : W.heap[g]? = some (.cells #[a, b] t (0, 0))) : ((W.setCell ⟨g, 0, none⟩ x).setCell ⟨g, 1, none⟩ y).heap[g]? = some (.cells #[x, y] t (0, 0)) := blk_put (blk_put h 0 x rfl) 1 y rfl
theorem slice_event {P : Program} {ops : Array Oper} {Q : Exit → Act → World → Prop} {rest : List Oper} {o : Oper} {a : Act} {W : World} (hgd : o.guard = none) {N : Tmp} (_hd : o.dst = some N) {cs : Array Value} {t : TypeId} {n c : Nat}
   (hrun : (execOp a.eval o).run P W = .ok (.value (.slice (some ⟨W.heap.size, 0, none⟩) n c)) (W.alloc (.cells cs t (0, 0))))
   (h : ∀ g, g = W.heap.size → ∀ w1, w1.heap[g]? = some (.cells cs t (0, 0)) → Below W.heap.size W w1 → wpList P ops Q rest (a.put o.dst (.slice (some ⟨g, 0, none⟩) n c)) w1) : wpList P ops Q (o :: rest) a W :=
  Kd.event_run hgd hrun (h _ rfl _ (blk_new W _) (ba_ (Below.refl _ _) _))
theorem tr_list (tm : Array Value) (n : Nat) (h : tm.size = n) : tm = ((List.range n).map fun i => tm.getD i undef).toArray := by
  apply Array.ext
  ·simp [h]
  ·intro i h1 h2
   simp [h1]
theorem tr_frame (tm : Array Value) (h : tm.size = 95) : ∃ u : Nat → Value, tm = #[u 0, u 1, u 2, u 3, u 4, u 5, u 6, u 7, u 8, u 9, u 10, u 11, u 12, u 13, u 14, u 15, u 16, u 17, u 18, u 19, u 20, u 21, u 22, u 23, u 24, u 25, u 26, u 27, u 28, u 29, u 30, u 31, u 32, u 33, u 34, u 35, u 36, u 37, u 38, u 39, u 40, u 41, u 42, u 43, u 44, u 45, u 46, u 47, u 48, u 49, u 50, u 51, u 52, u 53, u 54, u 55, u 56, u 57, u 58, u 59, u 60, u 61, u 62, u 63, u 64, u 65, u 66, u 67, u 68, u 69, u 70, u 71, u 72, u 73, u 74, u 75, u 76, u 77, u 78, u 79, u 80, u 81, u 82, u 83, u 84, u 85, u 86, u 87, u 88, u 89, u 90, u 91, u 92, u 93, u 94] := ⟨fun i => tm.getD i undef, (tr_list tm 95 h).trans rfl⟩
def TrJ (k : Nat) (a0 : Int) (a1 : Int) (A2 : Option Addr) (c2 : Nat) (l2 : List S24) (a3_0 : Bool) (A3_1 : Option Addr) (c3_1 : Nat) (l3_1 : List Int) (A3_2 : Option Addr) (c3_2 : Nat) (l3_2 : List Bool) (r1 : Bool) (r2 : Int) (r3 : Int) (r4 : Int) (w : World) (m : Nat) (a : Act) (W : World) : Prop := ∃ (tm : Array Value) (gh gs gv gt gb : Nat) (n s0 s1 : Int), a = { tmps := tm, defers := [] } ∧ tm.size = 95 ∧ (tm.getD 4 undef = .pointer (some ⟨gh, 0, none⟩) ∧ tm.getD 5 undef = .pointer (some ⟨gs, 0, none⟩) ∧ tm.getD 8 undef = .pointer (some ⟨gv, 0, none⟩) ∧ tm.getD 11 undef = .pointer (some ⟨gt, 0, none⟩) ∧ tm.getD 12 undef = .pointer (some ⟨gb, 0, none⟩)) ∧ trace_Trace.d k a0 a1 a3_0 l3_1 l3_2 m n s0 s1 = some (r1, r2, r3, r4) ∧
  W.heap[gh]? = some (.cells #[.int .i64 a0] 3 (0, 0)) ∧ W.heap[gs]? = some (.cells #[.int .i64 a1] 3 (0, 0)) ∧ W.heap[gv]? = some (.cells #[.bool false, .int .u64 0, .int .i64 0] 48 (0, 0)) ∧
  W.heap[gt]? = some (.cells #[.int .i64 a0, .bool a3_0, .slice A3_1 l3_1.length c3_1, .slice A3_2 l3_2.length c3_2, .int .i64 n] 84 (0, 0)) ∧ W.heap[gb]? = some (.cells #[.int .u64 s0, .int .u64 s1] 24 (0, 0)) ∧ (gh ≠ gt ∧ gs ≠ gt ∧ gv ≠ gt ∧ gb ≠ gt ∧ gh ≠ gb ∧ gs ≠ gb ∧ gv ≠ gb) ∧ (w.heap.size ≤ gv ∧ w.heap.size ≤ gt ∧ w.heap.size ≤ gb) ∧ Below w.heap.size w W
set_option maxHeartbeats 4000000 in
set_option maxRecDepth 100000 in
theorem trace_Trace1.calls (k : Nat) (a0 a1 : Int) (bh bs : Nat) (x : S24) (b : Bool) (w : World) (hc : w.cell? ⟨bh, 0, none⟩ = some (.int .i64 a0)) (hd : w.cell? ⟨bs, 0, none⟩ = some (.int .i64 a1)) (h : ((trace_fits.f k a0 a1 x.f0 x.f1).bind fun r => some (!r)) = some b) :
   Calls Try.prog 47 (#[.agg #[.int .u64 x.f0, .int .u64 x.f1]] ++ #[.pointer (some ⟨bh, 0, none⟩), .pointer (some ⟨bs, 0, none⟩)]) w fun e w' => e = .returned (.bool b) ∧ Below w.heap.size w w' := by
  have hu24 := underlying24
  obtain ⟨r, A3_, H⟩ := bind_eq_some_iff.mp h
  have A3 := ak_ A3_
  obtain rfl := Option.some.inj H
  clear A3_ h H
  have HB := ak_ (Below.refl w.heap.size w)
  have hc2 : (w.alloc (.cells #[.int .u64 x.f0, .int .u64 x.f1] 24)).cell? ⟨bh, 0, none⟩ = some (.int .i64 a0) := tr_al hc
  have hd2 : (w.alloc (.cells #[.int .u64 x.f0, .int .u64 x.f1] 24)).cell? ⟨bs, 0, none⟩ = some (.int .i64 a1) := tr_al hd
  go_enter func47, ntmps47
  go_wp2_with ((with_reducible refine gate_callee (f := 28) rfl ?_); refine goesL_ (some 8) rfl rfl func28 (by kernel_rfl) rfl #[.int .i64 a0, .int .i64 a1, .agg #[.int .u64 x.f0, .int .u64 x.f1]] rfl (by (try simp only [map_toArray, map_cons, map_nil]); first | done | rfl) ?_; (with_reducible refine (trace_fits.calls k a0 a1 x.f0 x.f1 r _ A3.out).mono ?_); rintro e w5 ⟨rfl, hb⟩; refine ⟨_, rfl, ?_⟩; have HB5 := ak_ (bt_ (ba_ (Below.refl _ _) _) hb); clear hb)
  go_ret
  exact ⟨rfl, HB5.out⟩
set_option maxHeartbeats 8000000 in
set_option maxRecDepth 100000 in
theorem trace_Trace.calls (k : Nat) (a0 : Int) (a1 : Int) (A2 : Option Addr) (c2 : Nat) (l2 : List S24) (a3_0 : Bool) (A3_1 : Option Addr) (c3_1 : Nat) (l3_1 : List Int) (A3_2 : Option Addr) (c3_2 : Nat) (l3_2 : List Bool) (r1 : Bool) (r2 : Int) (r3 : Int) (r4 : Int) (w : World) (hr2 : Kd.C k24 w A2 l2.length l2) (hc2 : l2.length ≤ c2) (hr3_1 : Kd.C (Kd.int .u64) w A3_1 l3_1.length l3_1) (hc3_1 : l3_1.length ≤ c3_1) (hr3_2 : Kd.C Kd.bool w A3_2 l3_2.length l3_2) (hc3_2 : l3_2.length ≤ c3_2) (h : trace_Trace.f k a0 a1 l2 a3_0 l3_1 l3_2 = some (r1, r2, r3, r4)) :
   Calls Try.prog 20 #[.int .i64 a0, .int .i64 a1, .slice A2 l2.length c2, .agg #[.bool a3_0, .slice A3_1 l3_1.length c3_1, .slice A3_2 l3_2.length c3_2]] w fun e w' => e = .returned (.tuple #[.agg #[.bool r1, .int .u64 r2, .int .i64 r3], .int .i64 r4]) ∧ Below w.heap.size w w' := by
  have hu42 := underlying42
  have hu48 := underlying48
  have hu24 := underlying24
  have hu84 := underlying84
  have hmf : ∀ (fn : Fn) (first cap : Array Value) (w : World), (Instr.makeFunc fn first cap).run Try.prog w = .ok (.func fn first cap) w := fun _ _ _ _ => rfl
  have HR2 := ak_ hr2
  have HC2 := ak_ hc2
  have HR1 := ak_ hr3_1
  have HC1 := ak_ hc3_1
  have HR3 := ak_ hr3_2
  have HC3 := ak_ hc3_2
  have HB := ak_ (Below.refl w.heap.size w)
  have H0 := ak_ h
  clear hr2 hc2 hr3_1 hc3_1 hr3_2 hc3_2 h
  go_enter func20, ntmps20
  go_wp2_with (first
   | ((with_reducible refine gate_dst (N := 4) rfl ?_); refine box_event ?hg (N := 4) ?hd (cs := #[.int .i64 a0]) (t := 3) ?hr ?_; (case hd => rfl); (case hg => rfl); (case hr => first | (go_simp; done) | (go_simp; rfl)); intro gh hg w1 hbox hb; have mb_ := ak_ (bt_ HB.out hb); have GE_gh := ak_ (show w.heap.size ≤ gh by rw [hg]; exact bz_ HB.out); clear HB ; have HB := mb_; have B_gh := ak_ hbox; clear mb_ hb hbox hg)
   | ((with_reducible refine gate_dst (N := 5) rfl ?_); refine box_event ?hg (N := 5) ?hd (cs := #[.int .i64 a1]) (t := 3) ?hr ?_; (case hd => rfl); (case hg => rfl); (case hr => first | (go_simp; done) | (go_simp; rfl)); intro gs hg w2 hbox hb; have m0_ := ak_ (kb_ B_gh.out hb); have e0_ := ak_ (show gh ≠ gs from by rw [hg]; exact Nat.ne_of_lt (blk_lt B_gh.out)); have mb_ := ak_ (bt_ HB.out hb); have GE_gs := ak_ (show w.heap.size ≤ gs by rw [hg]; exact bz_ HB.out); clear HB B_gh; have HB := mb_; have B_gh := m0_; have N_gh_gs := e0_; clear m0_ e0_; have B_gs := ak_ hbox; clear mb_ hb hbox hg)
   | ((with_reducible refine gate_dst (N := 7) rfl ?_); refine box_event ?hg (N := 7) ?hd (cs := #[.bool a3_0, .slice A3_1 l3_1.length c3_1, .slice A3_2 l3_2.length c3_2]) (t := 42) ?hr ?_; (case hd => rfl); (case hg => rfl); (case hr => first | (go_simp; done) | (go_simp; rfl)); intro gp hg w3 hbox hb; have m0_ := ak_ (kb_ B_gh.out hb); have m1_ := ak_ (kb_ B_gs.out hb); have e0_ := ak_ (show gh ≠ gp from by rw [hg]; exact Nat.ne_of_lt (blk_lt B_gh.out)); have e1_ := ak_ (show gs ≠ gp from by rw [hg]; exact Nat.ne_of_lt (blk_lt B_gs.out)); have mb_ := ak_ (bt_ HB.out hb); have GE_gp := ak_ (show w.heap.size ≤ gp by rw [hg]; exact bz_ HB.out); clear HB B_gh B_gs; have HB := mb_; have B_gh := m0_; have N_gh_gp := e0_; clear m0_ e0_; have B_gs := m1_; have N_gs_gp := e1_; clear m1_ e1_; have B_gp := ak_ hbox; clear mb_ hb hbox hg)
   | ((with_reducible refine gate_dst (N := 8) rfl ?_); refine box_event ?hg (N := 8) ?hd (cs := #[.bool false, .int .u64 0, .int .i64 0]) (t := 48) ?hr ?_; (case hd => rfl); (case hg => rfl); (case hr => first | (go_simp; done) | (go_simp; rfl)); intro gv hg w4 hbox hb; have m0_ := ak_ (kb_ B_gh.out hb); have m1_ := ak_ (kb_ B_gs.out hb); have m2_ := ak_ (kb_ B_gp.out hb); have e0_ := ak_ (show gh ≠ gv from by rw [hg]; exact Nat.ne_of_lt (blk_lt B_gh.out)); have e1_ := ak_ (show gs ≠ gv from by rw [hg]; exact Nat.ne_of_lt (blk_lt B_gs.out)); have e2_ := ak_ (show gp ≠ gv from by rw [hg]; exact Nat.ne_of_lt (blk_lt B_gp.out)); have mb_ := ak_ (bt_ HB.out hb); have GE_gv := ak_ (show w.heap.size ≤ gv by rw [hg]; exact bz_ HB.out); clear HB B_gh B_gs B_gp; have HB := mb_; have B_gh := m0_; have N_gh_gv := e0_; clear m0_ e0_; have B_gs := m1_; have N_gs_gv := e1_; clear m1_ e1_; have B_gp := m2_; have N_gp_gv := e2_; clear m2_ e2_; have B_gv := ak_ hbox; clear mb_ hb hbox hg))
  (try simp only [Act.put, setIfInBounds_toArray, set_cons_zero, set_cons_succ])
  refine wp_scope_ghost 0 (TrJ k a0 a1 A2 c2 l2 a3_0 A3_1 c3_1 l3_1 A3_2 c3_2 l3_2 r1 r2 r3 r4 w) rfl ?pass ?first
  case pass =>
   clear H0
   rintro m a W ⟨tm, gh, gs, gv, gt, gb, n, s0, s1, rfl, hsz, ⟨t4, t5, t8, t11, t12⟩, hd, bh, bs, bv, bt, bb, ⟨n1, n2, n3, n4, n5, n6, n7⟩, ⟨g1, g2, g3⟩, hbl⟩
   obtain ⟨u, rfl⟩ := tr_frame tm hsz
   have e4 : u 4 = .pointer (some ⟨gh, 0, none⟩) := t4
   have e5 : u 5 = .pointer (some ⟨gs, 0, none⟩) := t5
   have e8 : u 8 = .pointer (some ⟨gv, 0, none⟩) := t8
   have e11 : u 11 = .pointer (some ⟨gt, 0, none⟩) := t11
   have e12 : u 12 = .pointer (some ⟨gb, 0, none⟩) := t12
   rw [e4, e5, e8, e11, e12]
   clear t4 t5 t8 t11 t12 e4 e5 e8 e11 e12 hsz
   cases m with
   | zero => exact absurd hd (by simp [trace_Trace.d])
   | succ m =>
    rw [trace_Trace.d] at hd
    obtain ⟨⟨p1, p2⟩, hh, hd⟩ := bind_eq_some_iff.mp hd
    replace hd : (if p2 = 0 then (if p1.length = 2 then ((trace_yes.f k a0 a3_0 l3_1 l3_2 n [rd_T24 p1 0]).bind fun b => if b = true then trace_Trace.d k a0 a1 a3_0 l3_1 l3_2 m (wrap64 (n + 1)) (rd_T24 p1 0).f0 (rd_T24 p1 0).f1 else trace_Trace.d k a0 a1 a3_0 l3_1 l3_2 m (wrap64 (n + 1)) (rd_T24 p1 1).f0 (rd_T24 p1 1).f1) else none) else ((trace_only.f k a0 s0 s1).bind fun o => some (true, o.1, n, 0))) = some (r1, r2, r3, r4) := hd
    have HH := ak_ hh
    have BB := ak_ hbl
    have B_gh := ak_ bh
    have B_gs := ak_ bs
    have B_gv := ak_ bv
    have B_gt := ak_ bt
    have B_gb := ak_ bb
    have NN := ak_ (And.intro n1 (And.intro n2 (And.intro n3 (And.intro n4 (And.intro n5 (And.intro n6 n7))))))
    have yh0 : W.cell? ⟨gh, 0, none⟩ = some (.int .i64 a0) := (kc_ bh 0).trans rfl
    have ys0 : W.cell? ⟨gs, 0, none⟩ = some (.int .i64 a1) := (kc_ bs 0).trans rfl
    have yb0 : W.cell? ⟨gb, 0, none⟩ = some (.int .u64 s0) := (kc_ bb 0).trans rfl
    have yb1 : W.cell? ⟨gb, 1, none⟩ = some (.int .u64 s1) := (kc_ bb 1).trans rfl
    clear hh hbl bh bs bv bt bb n1 n2 n3 n4 n5 n6 n7
    by_cases c : p2 = 0
    ·rw [if_pos c] at hd
     have cb : (p2 == 0) = true := beq_iff_eq.mpr c
     clear c
     by_cases c2 : p1.length = 2
     ·rw [if_pos c2] at hd
      obtain ⟨x, y, rfl⟩ : ∃ x y, p1 = [x, y] := by
       match p1, c2 with
       | [x, y], _ => exact ⟨x, y, rfl⟩
      replace hd : ((trace_yes.f k a0 a3_0 l3_1 l3_2 n [x]).bind fun b => if b = true then trace_Trace.d k a0 a1 a3_0 l3_1 l3_2 m (wrap64 (n + 1)) x.f0 x.f1 else trace_Trace.d k a0 a1 a3_0 l3_1 l3_2 m (wrap64 (n + 1)) y.f0 y.f1) = some (r1, r2, r3, r4) := hd
      obtain ⟨b, hy, hd⟩ := bind_eq_some_iff.mp hd
      have HY := ak_ hy
      have HD := ak_ hd
      clear hy hd c2
      cases b with
      | true =>
       go_wp2_with (first | (go_at_call 10; with_reducible refine (trace_Halves.calls k a0 a1 s0 s1 [x, y] p2 W HH.out).mono ?_; rintro e w5 ⟨v0, rfl, ho, hb⟩; have BB5 := ak_ (bt_ BB.out hb); have C_gh := ak_ (kb_ B_gh.out hb); have C_gs := ak_ (kb_ B_gs.out hb); have C_gv := ak_ (kb_ B_gv.out hb); have C_gt := ak_ (kb_ B_gt.out hb); have C_gb := ak_ (kb_ B_gb.out hb); obtain ⟨gr, cp, rfl, hgr, x0, x1, x2, x3⟩ := tr_half ho; have D_rb := ak_ (show gr ≠ gb from Nat.ne_of_gt (Nat.lt_of_lt_of_le (blk_lt B_gb.out) hgr)); have D_rt := ak_ (show gr ≠ gt from Nat.ne_of_gt (Nat.lt_of_lt_of_le (blk_lt B_gt.out) hgr)); have X0 := ak_ x0; have X1 := ak_ x1; have f0 := tr_farc (gb := gb) (x := .int .u64 y.f0) (y := .int .u64 y.f1) x0 D_rb.out; have f1 := tr_farc (gb := gb) (x := .int .u64 y.f0) (y := .int .u64 y.f1) x1 D_rb.out; have zb0 := kf_ C_gb.out 0; have zb1 := kf_ C_gb.out 1; have vb0 : w5.cell? ⟨gb, 0, none⟩ = some (.int .u64 s0) := (kc_ C_gb.out 0).trans rfl; have vb1 : w5.cell? ⟨gb, 1, none⟩ = some (.int .u64 s1) := (kc_ C_gb.out 1).trans rfl; clear hgr x0 x1; clear hb ho) | ((with_reducible refine gate_dst (N := 78) rfl ?_); refine slice_event ?hg (N := 78) ?hd (cs := #[.int .u64 x.f0, .int .u64 x.f1]) (t := 24) (n := 1) (c := 1) ?hr ?_; (case hd => rfl); (case hg => rfl); (case hr => first | (go_simp; done) | (go_simp; rfl)); intro gq hg w8 hbox hb; have Q_gq := ak_ hbox; have BB8 := ak_ (bt_ (below_set (below_set BB5.out g3) g3) hb); have D_gh := ak_ (kb_ (tr_far C_gh.out NN.out.2.2.2.2.1) hb); have D_gs := ak_ (kb_ (tr_far C_gs.out NN.out.2.2.2.2.2.1) hb); have D_gv := ak_ (kb_ (tr_far C_gv.out NN.out.2.2.2.2.2.2) hb); have D_gt := ak_ (kb_ (tr_far C_gt.out (fun e => NN.out.2.2.2.1 e.symm)) hb); have D_gb := ak_ (kb_ (tr_put (x := .int .u64 y.f0) (y := .int .u64 y.f1) C_gb.out) hb); have X08 := ak_ ((hb.cell (World.block_lt_of_cell? _ _ f0)).trans f0); have X18 := ak_ ((hb.cell (World.block_lt_of_cell? _ _ f1)).trans f1); clear hg hbox hb) | (go_at_call 48; have k_ : Calls Try.prog 48 #[.pointer (some ⟨gt, 0, none⟩), .slice (some ⟨gq, 0, none⟩) 1 1] w8 _ := trace_yes.calls k a0 a3_0 A3_1 c3_1 l3_1 A3_2 c3_2 l3_2 n (some ⟨gq, 0, none⟩) 1 [x] true gt w8 (Kd.C_below HR1.out BB8.out) HC1.out (Kd.C_below HR3.out BB8.out) HC3.out (tr_one Q_gq.out) (Nat.le_refl 1) D_gt.out HY.out; with_reducible refine k_.mono ?_; rintro e w9 ⟨rfl, hg_, hb_⟩; have E_gt := ak_ hg_; have BB9 := ak_ (Below.trans BB8.out (hb_.below g2 (bz_ BB8.out))); have E_gh := ak_ (hb_.heap D_gh.out NN.out.1); have E_gs := ak_ (hb_.heap D_gs.out NN.out.2.1); have E_gv := ak_ (hb_.heap D_gv.out NN.out.2.2.1); have E_gb := ak_ (hb_.heap D_gb.out NN.out.2.2.2.1); have u0 := hb_.cell X08.out D_rt.out; have u1 := hb_.cell X18.out D_rt.out; have zc0 := kf_ E_gb.out 0; have zc1 := kf_ E_gb.out 1; have vc0 : w9.cell? ⟨gb, 0, none⟩ = some (.int .u64 y.f0) := (kc_ E_gb.out 0).trans rfl; have vc1 : w9.cell? ⟨gb, 1, none⟩ = some (.int .u64 y.f1) := (kc_ E_gb.out 1).trans rfl; clear hg_ hb_ k_))
       go_step3
       refine ⟨rfl, m, Nat.lt_succ_self m, _, gh, gs, gv, gt, gb, wrap64 (n + 1), x.f0, x.f1, rfl, rfl, ⟨rfl, rfl, rfl, rfl, rfl⟩, HD.out, tr_far E_gh.out NN.out.2.2.2.2.1, tr_far E_gs.out NN.out.2.2.2.2.2.1, tr_far E_gv.out NN.out.2.2.2.2.2.2, tr_far E_gt.out (fun e => NN.out.2.2.2.1 e.symm), tr_put E_gb.out, NN.out, ⟨g1, g2, g3⟩, below_set (below_set BB9.out g3) g3⟩
      | false =>
       go_wp2_with (first | (go_at_call 10; with_reducible refine (trace_Halves.calls k a0 a1 s0 s1 [x, y] p2 W HH.out).mono ?_; rintro e w5 ⟨v0, rfl, ho, hb⟩; have BB5 := ak_ (bt_ BB.out hb); have C_gh := ak_ (kb_ B_gh.out hb); have C_gs := ak_ (kb_ B_gs.out hb); have C_gv := ak_ (kb_ B_gv.out hb); have C_gt := ak_ (kb_ B_gt.out hb); have C_gb := ak_ (kb_ B_gb.out hb); obtain ⟨gr, cp, rfl, hgr, x0, x1, x2, x3⟩ := tr_half ho; have D_rb := ak_ (show gr ≠ gb from Nat.ne_of_gt (Nat.lt_of_lt_of_le (blk_lt B_gb.out) hgr)); have D_rt := ak_ (show gr ≠ gt from Nat.ne_of_gt (Nat.lt_of_lt_of_le (blk_lt B_gt.out) hgr)); have X0 := ak_ x0; have X1 := ak_ x1; have f0 := tr_farc (gb := gb) (x := .int .u64 y.f0) (y := .int .u64 y.f1) x0 D_rb.out; have f1 := tr_farc (gb := gb) (x := .int .u64 y.f0) (y := .int .u64 y.f1) x1 D_rb.out; have zb0 := kf_ C_gb.out 0; have zb1 := kf_ C_gb.out 1; have vb0 : w5.cell? ⟨gb, 0, none⟩ = some (.int .u64 s0) := (kc_ C_gb.out 0).trans rfl; have vb1 : w5.cell? ⟨gb, 1, none⟩ = some (.int .u64 s1) := (kc_ C_gb.out 1).trans rfl; clear hgr x0 x1; clear hb ho) | ((with_reducible refine gate_dst (N := 78) rfl ?_); refine slice_event ?hg (N := 78) ?hd (cs := #[.int .u64 x.f0, .int .u64 x.f1]) (t := 24) (n := 1) (c := 1) ?hr ?_; (case hd => rfl); (case hg => rfl); (case hr => first | (go_simp; done) | (go_simp; rfl)); intro gq hg w8 hbox hb; have Q_gq := ak_ hbox; have BB8 := ak_ (bt_ (below_set (below_set BB5.out g3) g3) hb); have D_gh := ak_ (kb_ (tr_far C_gh.out NN.out.2.2.2.2.1) hb); have D_gs := ak_ (kb_ (tr_far C_gs.out NN.out.2.2.2.2.2.1) hb); have D_gv := ak_ (kb_ (tr_far C_gv.out NN.out.2.2.2.2.2.2) hb); have D_gt := ak_ (kb_ (tr_far C_gt.out (fun e => NN.out.2.2.2.1 e.symm)) hb); have D_gb := ak_ (kb_ (tr_put (x := .int .u64 y.f0) (y := .int .u64 y.f1) C_gb.out) hb); have X08 := ak_ ((hb.cell (World.block_lt_of_cell? _ _ f0)).trans f0); have X18 := ak_ ((hb.cell (World.block_lt_of_cell? _ _ f1)).trans f1); clear hg hbox hb) | (go_at_call 48; have k_ : Calls Try.prog 48 #[.pointer (some ⟨gt, 0, none⟩), .slice (some ⟨gq, 0, none⟩) 1 1] w8 _ := trace_yes.calls k a0 a3_0 A3_1 c3_1 l3_1 A3_2 c3_2 l3_2 n (some ⟨gq, 0, none⟩) 1 [x] false gt w8 (Kd.C_below HR1.out BB8.out) HC1.out (Kd.C_below HR3.out BB8.out) HC3.out (tr_one Q_gq.out) (Nat.le_refl 1) D_gt.out HY.out; with_reducible refine k_.mono ?_; rintro e w9 ⟨rfl, hg_, hb_⟩; have E_gt := ak_ hg_; have BB9 := ak_ (Below.trans BB8.out (hb_.below g2 (bz_ BB8.out))); have E_gh := ak_ (hb_.heap D_gh.out NN.out.1); have E_gs := ak_ (hb_.heap D_gs.out NN.out.2.1); have E_gv := ak_ (hb_.heap D_gv.out NN.out.2.2.1); have E_gb := ak_ (hb_.heap D_gb.out NN.out.2.2.2.1); have u0 := hb_.cell X08.out D_rt.out; have u1 := hb_.cell X18.out D_rt.out; have zc0 := kf_ E_gb.out 0; have zc1 := kf_ E_gb.out 1; have vc0 : w9.cell? ⟨gb, 0, none⟩ = some (.int .u64 y.f0) := (kc_ E_gb.out 0).trans rfl; have vc1 : w9.cell? ⟨gb, 1, none⟩ = some (.int .u64 y.f1) := (kc_ E_gb.out 1).trans rfl; clear hg_ hb_ k_))
       go_step3
       exact ⟨rfl, m, Nat.lt_succ_self m, _, gh, gs, gv, gt, gb, wrap64 (n + 1), y.f0, y.f1, rfl, rfl, ⟨rfl, rfl, rfl, rfl, rfl⟩, HD.out, E_gh.out, E_gs.out, E_gv.out, E_gt.out, E_gb.out, NN.out, ⟨g1, g2, g3⟩, BB9.out⟩
     ·rw [if_neg c2] at hd; cases hd
    ·rw [if_neg c] at hd
     have cb : (p2 == 0) = false := beq_eq_false_iff_ne.mpr c
     clear c
     obtain ⟨⟨o1, o2⟩, ho1, hd⟩ := bind_eq_some_iff.mp hd
     simp only [some.injEq, Prod.mk.injEq] at hd
     obtain ⟨rfl, rfl, rfl, rfl⟩ := hd
     have HO1 := ak_ ho1
     clear ho1
     go_wp2_with (first | (go_at_call 10; with_reducible refine (trace_Halves.calls k a0 a1 s0 s1 p1 p2 W HH.out).mono ?_; rintro e w5 ⟨v0, rfl, ho, hb⟩; have BB5 := ak_ (bt_ BB.out hb); have C_gh := ak_ (kb_ B_gh.out hb); have C_gs := ak_ (kb_ B_gs.out hb); have C_gv := ak_ (kb_ B_gv.out hb); have C_gt := ak_ (kb_ B_gt.out hb); have C_gb := ak_ (kb_ B_gb.out hb); have kh0 : w5.cell? ⟨gh, 0, none⟩ = some (.int .i64 a0) := (kc_ C_gh.out 0).trans rfl; have kb0 : w5.cell? ⟨gb, 0, none⟩ = some (.int .u64 s0) := (kc_ C_gb.out 0).trans rfl; have kb1 : w5.cell? ⟨gb, 1, none⟩ = some (.int .u64 s1) := (kc_ C_gb.out 1).trans rfl; obtain ⟨Ah, ch, rfl⟩ := Kd.R_slice ho; clear hb ho) | (go_at_call 29; with_reducible refine (trace_only.calls k a0 s0 s1 o1 o2 w5 HO1.out).mono ?_; rintro e w6 ⟨rfl, hb⟩; have BB6 := ak_ (bt_ BB5.out hb); have D_gv := ak_ (kb_ C_gv.out hb); have D_gt := ak_ (kb_ C_gt.out hb); have m4 : w6.cell? ⟨gt, 4, none⟩ = some (.int .i64 n) := (kc_ D_gt.out 4).trans rfl; have zv0 := kf_ D_gv.out 0; have zv1 := kf_ D_gv.out 1; have zv2 := kf_ D_gv.out 2; have vv0 : w6.cell? ⟨gv, 0, none⟩ = some (.bool false) := (kc_ D_gv.out 0).trans rfl; have vv1 : w6.cell? ⟨gv, 1, none⟩ = some (.int .u64 0) := (kc_ D_gv.out 1).trans rfl; have vv2 : w6.cell? ⟨gv, 2, none⟩ = some (.int .i64 0) := (kc_ D_gv.out 2).trans rfl; clear hb))
     simp only [Exit.jump]; refine bodyPost_ret (results_ct rfl _ _ gv 48 #[.bool true, .int .u64 o1, .int .i64 n] (0, 0) _ rfl (by refine blk_put (cs := #[.bool true, .int .u64 o1, .int .i64 0]) ?_ 2 _ rfl; refine blk_put (cs := #[.bool true, .int .u64 0, .int .i64 0]) ?_ 1 _ rfl; refine blk_put (cs := #[.bool false, .int .u64 0, .int .i64 0]) ?_ 0 _ rfl; exact D_gv.out) underlying48 rfl (by kernel_rfl)) rfl ?_
     exact ⟨rfl, by repeat (first | exact BB6.out | refine below_set ?_ g1)⟩
  case first =>
   intro hpass
   have HP := ak_ hpass
   clear hpass
   have H := H0.out
   unfold trace_Trace.f at H
   obtain ⟨t, A3_, H⟩ := bind_eq_some_iff.mp H
   have A5 := ak_ A3_
   clear A3_ H0
   have hcgh0 : w4.cell? ⟨gh, 0, none⟩ = some (.int .i64 a0) := (kc_ B_gh.out 0).trans rfl
   have hcgs0 : w4.cell? ⟨gs, 0, none⟩ = some (.int .i64 a1) := (kc_ B_gs.out 0).trans rfl
   have hcgp0 : w4.cell? ⟨gp, 0, none⟩ = some (.bool a3_0) := (kc_ B_gp.out 0).trans rfl
   have hcgp1 : w4.cell? ⟨gp, 1, none⟩ = some (.slice A3_1 l3_1.length c3_1) := (kc_ B_gp.out 1).trans rfl
   have hcgp2 : w4.cell? ⟨gp, 2, none⟩ = some (.slice A3_2 l3_2.length c3_2) := (kc_ B_gp.out 2).trans rfl
   have hcgv0 : w4.cell? ⟨gv, 0, none⟩ = some (.bool false) := (kc_ B_gv.out 0).trans rfl
   have hcgv1 : w4.cell? ⟨gv, 1, none⟩ = some (.int .u64 0) := (kc_ B_gv.out 1).trans rfl
   have hcgv2 : w4.cell? ⟨gv, 2, none⟩ = some (.int .i64 0) := (kc_ B_gv.out 2).trans rfl
   have hzgv0 := kf_ B_gv.out 0
   have hzgv1 := kf_ B_gv.out 1
   have hzgv2 := kf_ B_gv.out 2
   by_cases c1 : t = 0
   ·rw [if_pos c1] at H
    have c1b : (t != 0) = false := bne_eq_false_iff_eq.mpr c1
    clear c1
    by_cases c2 : (l2.length : Int) < 1
    ·rw [if_pos c2] at H
     have c2b : decide ((l2.length : Int) < 1) = true := decide_eq_true c2
     have c2d : decide (l2.length < 1) = true := decide_eq_true (by omega)
     clear c2
     simp only [some.injEq, Prod.mk.injEq] at H
     obtain ⟨rfl, rfl, rfl, rfl⟩ := H
     go_wp2_with (first | ((with_reducible refine gate_callee (f := 27) rfl ?_); refine goesL_ (some 21) rfl rfl func27 (by kernel_rfl) rfl #[.int .i64 a0, .slice A3_1 l3_1.length c3_1] rfl (by (try simp only [map_toArray, map_cons, map_nil]); first | done | rfl) ?_; (with_reducible refine (leaf_Check.calls k a0 _ _ l3_1 t _ (Kd.C_below HR1.out HB.out) HC1.out A5.out).mono ?_); rintro e w5 ⟨rfl, ⟨nd, rfl⟩⟩; refine ⟨_, rfl, ?_⟩))
     simp only [Exit.jump]; refine bodyPost_ret (results_ct rfl _ _ gv 48 #[.bool false, .int .u64 0, .int .i64 0] (0, 0) _ rfl (by refine blk_put (cs := #[.bool false, .int .u64 0, .int .i64 0]) ?_ 2 _ rfl; refine blk_put (cs := #[.bool false, .int .u64 0, .int .i64 0]) ?_ 1 _ rfl; refine blk_put (cs := #[.bool false, .int .u64 0, .int .i64 0]) ?_ 0 _ rfl; exact B_gv.out) underlying48 rfl (by kernel_rfl)) rfl ?_
     exact ⟨rfl, by repeat (first | exact bn_ HB.out nd | refine below_set ?_ GE_gv.out)⟩
    ·rw [if_neg c2] at H
     have c2b : decide ((l2.length : Int) < 1) = false := decide_eq_false c2
     have c2d : decide (l2.length < 1) = false := decide_eq_false (by omega)
     clear c2
     by_cases c3 : (l2.length : Int) > 32768
     ·rw [if_pos c3] at H
      have c3b : decide ((l2.length : Int) > 32768) = true := decide_eq_true c3
      have c3d : decide (l2.length > 32768) = true := decide_eq_true (by omega)
      clear c3
      simp only [some.injEq, Prod.mk.injEq] at H
      obtain ⟨rfl, rfl, rfl, rfl⟩ := H
      go_wp2_with (first | ((with_reducible refine gate_callee (f := 27) rfl ?_); refine goesL_ (some 21) rfl rfl func27 (by kernel_rfl) rfl #[.int .i64 a0, .slice A3_1 l3_1.length c3_1] rfl (by (try simp only [map_toArray, map_cons, map_nil]); first | done | rfl) ?_; (with_reducible refine (leaf_Check.calls k a0 _ _ l3_1 t _ (Kd.C_below HR1.out HB.out) HC1.out A5.out).mono ?_); rintro e w5 ⟨rfl, ⟨nd, rfl⟩⟩; refine ⟨_, rfl, ?_⟩))
      simp only [Exit.jump]; refine bodyPost_ret (results_ct rfl _ _ gv 48 #[.bool false, .int .u64 0, .int .i64 0] (0, 0) _ rfl (by refine blk_put (cs := #[.bool false, .int .u64 0, .int .i64 0]) ?_ 2 _ rfl; refine blk_put (cs := #[.bool false, .int .u64 0, .int .i64 0]) ?_ 1 _ rfl; refine blk_put (cs := #[.bool false, .int .u64 0, .int .i64 0]) ?_ 0 _ rfl; exact B_gv.out) underlying48 rfl (by kernel_rfl)) rfl ?_
      exact ⟨rfl, by repeat (first | exact bn_ HB.out nd | refine below_set ?_ GE_gv.out)⟩
     ·rw [if_neg c3] at H
      have c3b : decide ((l2.length : Int) > 32768) = false := decide_eq_false c3
      have c3d : decide (l2.length > 32768) = false := decide_eq_false (by omega)
      have HL := ak_ (show l2.length ≤ 32768 by omega)
      clear c3
      obtain ⟨o, ho, H⟩ := bind_eq_some_iff.mp H
      have HO := ak_ ho
      clear ho
      have key : ∀ nd, Calls Try.prog 41 #[.slice A2 l2.length c2, .func (.func 47) #[] #[.pointer (some ⟨gh, 0, none⟩), .pointer (some ⟨gs, 0, none⟩)]] (w4.drewN nd) fun e w' => e = .returned (.bool o) ∧ Below w4.heap.size (w4.drewN nd) w' := fun nd =>
       trace_contains.calls _ 47 Try.f47 _ func47 (by kernel_rfl) rfl A2 c2 l2 o (w4.drewN nd) (Kd.C_drewN (Kd.C_below HR2.out HB.out) _) (Nat.le_trans HL.out (by decide)) (fun x b W hB hq => trace_Trace1.calls k a0 a1 gh gs x b W ((hB.cell (p := ⟨gh, 0, none⟩) (by show gh < w4.heap.size; exact blk_lt B_gh.out)).trans hcgh0) ((hB.cell (p := ⟨gs, 0, none⟩) (by show gs < w4.heap.size; exact blk_lt B_gs.out)).trans hcgs0) hq) HO.out
      have KEY := ak_ key
      clear key HO
      cases o with
      | true =>
       replace H : some (false, (0 : Int), (0 : Int), (1 : Int)) = some (r1, r2, r3, r4) := H
       simp only [some.injEq, Prod.mk.injEq] at H
       obtain ⟨rfl, rfl, rfl, rfl⟩ := H
       go_wp2_with (first | ((with_reducible refine gate_callee (f := 27) rfl ?_); refine goesL_ (some 21) rfl rfl func27 (by kernel_rfl) rfl #[.int .i64 a0, .slice A3_1 l3_1.length c3_1] rfl (by (try simp only [map_toArray, map_cons, map_nil]); first | done | rfl) ?_; (with_reducible refine (leaf_Check.calls k a0 _ _ l3_1 t _ (Kd.C_below HR1.out HB.out) HC1.out A5.out).mono ?_); rintro e w5 ⟨rfl, ⟨nd, rfl⟩⟩; refine ⟨_, rfl, ?_⟩) | (go_at_call 41; refine (KEY.out _).mono ?_; rintro e w6 ⟨rfl, hb⟩; have HB6 := ak_ (Below.trans (bn_ HB.out nd) (hb.mono HB.out.size)); have C_gh := ak_ ((hb.block gh (blk_lt B_gh.out)).trans B_gh.out); have C_gs := ak_ ((hb.block gs (blk_lt B_gs.out)).trans B_gs.out); have C_gp := ak_ ((hb.block gp (blk_lt B_gp.out)).trans B_gp.out); have C_gv := ak_ ((hb.block gv (blk_lt B_gv.out)).trans B_gv.out); clear hb; have kcgh0 : w6.cell? ⟨gh, 0, none⟩ = some (.int .i64 a0) := (kc_ C_gh.out 0).trans rfl; have kcgp0 : w6.cell? ⟨gp, 0, none⟩ = some (.bool a3_0) := (kc_ C_gp.out 0).trans rfl; have kcgp1 : w6.cell? ⟨gp, 1, none⟩ = some (.slice A3_1 l3_1.length c3_1) := (kc_ C_gp.out 1).trans rfl; have kcgp2 : w6.cell? ⟨gp, 2, none⟩ = some (.slice A3_2 l3_2.length c3_2) := (kc_ C_gp.out 2).trans rfl; have kcgv0 : w6.cell? ⟨gv, 0, none⟩ = some (.bool false) := (kc_ C_gv.out 0).trans rfl; have kcgv1 : w6.cell? ⟨gv, 1, none⟩ = some (.int .u64 0) := (kc_ C_gv.out 1).trans rfl; have kcgv2 : w6.cell? ⟨gv, 2, none⟩ = some (.int .i64 0) := (kc_ C_gv.out 2).trans rfl; have kzgv0 := kf_ C_gv.out 0; have kzgv1 := kf_ C_gv.out 1; have kzgv2 := kf_ C_gv.out 2))
       simp only [Exit.jump]; refine bodyPost_ret (results_ct rfl _ _ gv 48 #[.bool false, .int .u64 0, .int .i64 0] (0, 0) _ rfl (by refine blk_put (cs := #[.bool false, .int .u64 0, .int .i64 0]) ?_ 2 _ rfl; refine blk_put (cs := #[.bool false, .int .u64 0, .int .i64 0]) ?_ 1 _ rfl; refine blk_put (cs := #[.bool false, .int .u64 0, .int .i64 0]) ?_ 0 _ rfl; exact C_gv.out) underlying48 rfl (by kernel_rfl)) rfl ?_
       exact ⟨rfl, by repeat (first | exact HB6.out | refine below_set ?_ GE_gv.out)⟩
      | false =>
       replace H : ((trace_yes.f k a0 a3_0 l3_1 l3_2 0 l2).bind fun y => if y = true then ((trace_yes.f k a0 a3_0 l3_1 l3_2 1 []).bind fun z => if z = true then some (false, 0, 2, 0) else ((trace_gap.g k a0 a3_0 l3_1 l3_2 l2 k 2 0 l2.length).bind fun g => if g.1 < l2.length then trace_Trace.d k a0 a1 a3_0 l3_1 l3_2 k g.2 (rd_T24 l2 g.1).f0 (rd_T24 l2 g.1).f1 else none)) else some (false, 0, 1, 0)) = some (r1, r2, r3, r4) := H
       have H' := ak_ H
       clear H
       go_upto_region 5 with (first | ((with_reducible refine gate_callee (f := 27) rfl ?_); refine goesL_ (some 21) rfl rfl func27 (by kernel_rfl) rfl #[.int .i64 a0, .slice A3_1 l3_1.length c3_1] rfl (by (try simp only [map_toArray, map_cons, map_nil]); first | done | rfl) ?_; (with_reducible refine (leaf_Check.calls k a0 _ _ l3_1 t _ (Kd.C_below HR1.out HB.out) HC1.out A5.out).mono ?_); rintro e w5 ⟨rfl, ⟨nd, rfl⟩⟩; refine ⟨_, rfl, ?_⟩) | (go_at_call 41; refine (KEY.out _).mono ?_; rintro e w6 ⟨rfl, hb⟩; have HB6 := ak_ (Below.trans (bn_ HB.out nd) (hb.mono HB.out.size)); have C_gh := ak_ ((hb.block gh (blk_lt B_gh.out)).trans B_gh.out); have C_gs := ak_ ((hb.block gs (blk_lt B_gs.out)).trans B_gs.out); have C_gp := ak_ ((hb.block gp (blk_lt B_gp.out)).trans B_gp.out); have C_gv := ak_ ((hb.block gv (blk_lt B_gv.out)).trans B_gv.out); clear hb; have kcgh0 : w6.cell? ⟨gh, 0, none⟩ = some (.int .i64 a0) := (kc_ C_gh.out 0).trans rfl; have kcgp0 : w6.cell? ⟨gp, 0, none⟩ = some (.bool a3_0) := (kc_ C_gp.out 0).trans rfl; have kcgp1 : w6.cell? ⟨gp, 1, none⟩ = some (.slice A3_1 l3_1.length c3_1) := (kc_ C_gp.out 1).trans rfl; have kcgp2 : w6.cell? ⟨gp, 2, none⟩ = some (.slice A3_2 l3_2.length c3_2) := (kc_ C_gp.out 2).trans rfl) | ((with_reducible refine gate_dst (N := 42) rfl ?_); refine box_event ?hg (N := 42) ?hd (cs := #[.int .i64 a0, .bool a3_0, .slice A3_1 l3_1.length c3_1, .slice A3_2 l3_2.length c3_2, .int .i64 0]) (t := 84) ?hr ?_; (case hd => rfl); (case hg => rfl); (case hr => first | (go_simp; done) | (go_simp; rfl)); intro gt hg w7 hbox hb; have m0_ := ak_ (kb_ C_gh.out hb); have m1_ := ak_ (kb_ C_gs.out hb); have m2_ := ak_ (kb_ C_gv.out hb); have e0_ := ak_ (show gh ≠ gt from by rw [hg]; exact Nat.ne_of_lt (blk_lt C_gh.out)); have e1_ := ak_ (show gs ≠ gt from by rw [hg]; exact Nat.ne_of_lt (blk_lt C_gs.out)); have e2_ := ak_ (show gv ≠ gt from by rw [hg]; exact Nat.ne_of_lt (blk_lt C_gv.out)); have mb_ := ak_ (bt_ HB6.out hb); have GE_gt := ak_ (show w.heap.size ≤ gt by rw [hg]; exact bz_ HB6.out); clear HB6 C_gh C_gs C_gv; have HB6 := mb_; have C_gh := m0_; have N_gh_gt := e0_; clear m0_ e0_; have C_gs := m1_; have N_gs_gt := e1_; clear m1_ e1_; have C_gv := m2_; have N_gv_gt := e2_; clear m2_ e2_; have B_gt := ak_ hbox; clear mb_ hb hbox hg))
       (try simp only [Act.put, setIfInBounds_toArray, set_cons_zero, set_cons_succ])
       have w01 : wrap64 (0 + 1) = 1 := by unfold wrap64; omega
       have w02 : wrap64 (1 + 1) = 2 := by unfold wrap64; omega
       obtain ⟨y, hy, H⟩ := bind_eq_some_iff.mp H'.out
       clear H'
       have KY1 := ak_ (trace_yes.calls k a0 a3_0 A3_1 c3_1 l3_1 A3_2 c3_2 l3_2 0 A2 c2 l2 y gt w7 (Kd.C_below HR1.out HB6.out) HC1.out (Kd.C_below HR3.out HB6.out) HC3.out (Kd.C_below HR2.out HB6.out) HC2.out B_gt.out hy)
       clear hy
       cases y with
       | false =>
        replace H : some (false, (0 : Int), (1 : Int), (0 : Int)) = some (r1, r2, r3, r4) := H
        simp only [some.injEq, Prod.mk.injEq] at H
        obtain ⟨rfl, rfl, rfl, rfl⟩ := H
        go_wp2_with (first | (go_at_call 48; with_reducible refine (KY1.out).mono ?_; rintro e w8 ⟨rfl, hg_, hb_⟩; rw [w01] at hg_; have D_gt := ak_ hg_; have HB8 := ak_ (Below.trans HB6.out (hb_.below GE_gt.out (bz_ HB6.out))); have D_gh := ak_ (hb_.heap C_gh.out N_gh_gt.out); have D_gs := ak_ (hb_.heap C_gs.out N_gs_gt.out); have D_gv := ak_ (hb_.heap C_gv.out N_gv_gt.out); have n4_w8 : w8.cell? ⟨gt, 4, none⟩ = some (.int .i64 1) := (kc_ D_gt.out 4).trans rfl; have z0_w8 := kf_ D_gv.out 0; have z1_w8 := kf_ D_gv.out 1; have z2_w8 := kf_ D_gv.out 2; have v0_w8 : w8.cell? ⟨gv, 0, none⟩ = some (.bool false) := (kc_ D_gv.out 0).trans rfl; have v1_w8 : w8.cell? ⟨gv, 1, none⟩ = some (.int .u64 0) := (kc_ D_gv.out 1).trans rfl; have v2_w8 : w8.cell? ⟨gv, 2, none⟩ = some (.int .i64 0) := (kc_ D_gv.out 2).trans rfl; clear hg_ hb_))
        simp only [Exit.jump]; refine bodyPost_ret (results_ct rfl _ _ gv 48 #[.bool false, .int .u64 0, .int .i64 1] (0, 0) _ rfl (by refine blk_put (cs := #[.bool false, .int .u64 0, .int .i64 0]) ?_ 2 _ rfl; refine blk_put (cs := #[.bool false, .int .u64 0, .int .i64 0]) ?_ 1 _ rfl; refine blk_put (cs := #[.bool false, .int .u64 0, .int .i64 0]) ?_ 0 _ rfl; exact D_gv.out) underlying48 rfl (by kernel_rfl)) rfl ?_
        exact ⟨rfl, by repeat (first | exact HB8.out | refine below_set ?_ GE_gv.out)⟩
       | true =>
        replace H : ((trace_yes.f k a0 a3_0 l3_1 l3_2 1 []).bind fun z => if z = true then some (false, 0, 2, 0) else ((trace_gap.g k a0 a3_0 l3_1 l3_2 l2 k 2 0 l2.length).bind fun g => if g.1 < l2.length then trace_Trace.d k a0 a1 a3_0 l3_1 l3_2 k g.2 (rd_T24 l2 g.1).f0 (rd_T24 l2 g.1).f1 else none)) = some (r1, r2, r3, r4) := H
        obtain ⟨z, hz, H⟩ := bind_eq_some_iff.mp H
        have HZ := ak_ hz
        have H' := ak_ H
        clear hz H
        cases z with
        | true =>
         have H : some (false, (0 : Int), (2 : Int), (0 : Int)) = some (r1, r2, r3, r4) := H'.out
         simp only [some.injEq, Prod.mk.injEq] at H
         obtain ⟨rfl, rfl, rfl, rfl⟩ := H
         go_wp2_with (first | (go_at_call 48; with_reducible refine (KY1.out).mono ?_; rintro e w8 ⟨rfl, hg_, hb_⟩; rw [w01] at hg_; have D_gt := ak_ hg_; have HB8 := ak_ (Below.trans HB6.out (hb_.below GE_gt.out (bz_ HB6.out))); have D_gh := ak_ (hb_.heap C_gh.out N_gh_gt.out); have D_gs := ak_ (hb_.heap C_gs.out N_gs_gt.out); have D_gv := ak_ (hb_.heap C_gv.out N_gv_gt.out); have n4_w8 : w8.cell? ⟨gt, 4, none⟩ = some (.int .i64 1) := (kc_ D_gt.out 4).trans rfl; have z0_w8 := kf_ D_gv.out 0; have z1_w8 := kf_ D_gv.out 1; have z2_w8 := kf_ D_gv.out 2; have v0_w8 : w8.cell? ⟨gv, 0, none⟩ = some (.bool false) := (kc_ D_gv.out 0).trans rfl; have v1_w8 : w8.cell? ⟨gv, 1, none⟩ = some (.int .u64 0) := (kc_ D_gv.out 1).trans rfl; have v2_w8 : w8.cell? ⟨gv, 2, none⟩ = some (.int .i64 0) := (kc_ D_gv.out 2).trans rfl; clear hg_ hb_) | (go_at_call 48; have k2_ : Calls Try.prog 48 #[.pointer (some ⟨gt, 0, none⟩), .slice none 0 0] w8 _ := trace_yes.calls k a0 a3_0 A3_1 c3_1 l3_1 A3_2 c3_2 l3_2 1 none 0 [] true gt w8 (Kd.C_below HR1.out HB8.out) HC1.out (Kd.C_below HR3.out HB8.out) HC3.out (Kd.C_nil k24 w8) (Nat.le_refl 0) D_gt.out HZ.out; with_reducible refine (k2_).mono ?_; rintro e w9 ⟨rfl, hg_, hb_⟩; rw [w02] at hg_; have E_gt := ak_ hg_; have HB9 := ak_ (Below.trans HB8.out (hb_.below GE_gt.out (bz_ HB8.out))); have E_gh := ak_ (hb_.heap D_gh.out N_gh_gt.out); have E_gs := ak_ (hb_.heap D_gs.out N_gs_gt.out); have E_gv := ak_ (hb_.heap D_gv.out N_gv_gt.out); have n4_w9 : w9.cell? ⟨gt, 4, none⟩ = some (.int .i64 2) := (kc_ E_gt.out 4).trans rfl; have z0_w9 := kf_ E_gv.out 0; have z1_w9 := kf_ E_gv.out 1; have z2_w9 := kf_ E_gv.out 2; have v0_w9 : w9.cell? ⟨gv, 0, none⟩ = some (.bool false) := (kc_ E_gv.out 0).trans rfl; have v1_w9 : w9.cell? ⟨gv, 1, none⟩ = some (.int .u64 0) := (kc_ E_gv.out 1).trans rfl; have v2_w9 : w9.cell? ⟨gv, 2, none⟩ = some (.int .i64 0) := (kc_ E_gv.out 2).trans rfl; clear hg_ hb_ k2_))
         simp only [Exit.jump]; refine bodyPost_ret (results_ct rfl _ _ gv 48 #[.bool false, .int .u64 0, .int .i64 2] (0, 0) _ rfl (by refine blk_put (cs := #[.bool false, .int .u64 0, .int .i64 0]) ?_ 2 _ rfl; refine blk_put (cs := #[.bool false, .int .u64 0, .int .i64 0]) ?_ 1 _ rfl; refine blk_put (cs := #[.bool false, .int .u64 0, .int .i64 0]) ?_ 0 _ rfl; exact E_gv.out) underlying48 rfl (by kernel_rfl)) rfl ?_
         exact ⟨rfl, by repeat (first | exact HB9.out | refine below_set ?_ GE_gv.out)⟩
        | false =>
         have H : ((trace_gap.g k a0 a3_0 l3_1 l3_2 l2 k 2 0 l2.length).bind fun g => if g.1 < l2.length then trace_Trace.d k a0 a1 a3_0 l3_1 l3_2 k g.2 (rd_T24 l2 g.1).f0 (rd_T24 l2 g.1).f1 else none) = some (r1, r2, r3, r4) := H'.out
         clear H'
         obtain ⟨⟨gp_, gn⟩, hgp, H⟩ := bind_eq_some_iff.mp H
         replace H : (if gp_ < l2.length then trace_Trace.d k a0 a1 a3_0 l3_1 l3_2 k gn (rd_T24 l2 gp_).f0 (rd_T24 l2 gp_).f1 else none) = some (r1, r2, r3, r4) := H
         by_cases cg : gp_ < l2.length
         ·rw [if_pos cg] at H
          have HD := ak_ H
          have HGP := ak_ hgp
          clear H hgp
          have p60 : (0 ≤ (gp_ : Int)) = True := eq_true (by omega)
          have q60 : ((gp_ : Int) < (l2.length : Int)) = True := eq_true (by omega)
          have qn60 : (gp_ < l2.length) = True := eq_true cg
          obtain ⟨ad, ead, hx0, hx1⟩ := at_T24 HR2.out (gp_ : Int) (by omega) (by omega)
          subst ead
          rw [Int.toNat_natCast] at hx0 hx1
          have HX0 := ak_ hx0
          have HX1 := ak_ hx1
          clear hx0 hx1
          generalize rd_T24 l2 (gp_ : Int) = s at HX0 HX1 HD
          go_wp2_with (first | (go_at_call 48; with_reducible refine (KY1.out).mono ?_; rintro e w8 ⟨rfl, hg_, hb_⟩; rw [w01] at hg_; have D_gt := ak_ hg_; have HB8 := ak_ (Below.trans HB6.out (hb_.below GE_gt.out (bz_ HB6.out))); have D_gh := ak_ (hb_.heap C_gh.out N_gh_gt.out); have D_gs := ak_ (hb_.heap C_gs.out N_gs_gt.out); have D_gv := ak_ (hb_.heap C_gv.out N_gv_gt.out); have n4_w8 : w8.cell? ⟨gt, 4, none⟩ = some (.int .i64 1) := (kc_ D_gt.out 4).trans rfl; have z0_w8 := kf_ D_gv.out 0; have z1_w8 := kf_ D_gv.out 1; have z2_w8 := kf_ D_gv.out 2; have v0_w8 : w8.cell? ⟨gv, 0, none⟩ = some (.bool false) := (kc_ D_gv.out 0).trans rfl; have v1_w8 : w8.cell? ⟨gv, 1, none⟩ = some (.int .u64 0) := (kc_ D_gv.out 1).trans rfl; have v2_w8 : w8.cell? ⟨gv, 2, none⟩ = some (.int .i64 0) := (kc_ D_gv.out 2).trans rfl; clear hg_ hb_) | (go_at_call 48; have k2_ : Calls Try.prog 48 #[.pointer (some ⟨gt, 0, none⟩), .slice none 0 0] w8 _ := trace_yes.calls k a0 a3_0 A3_1 c3_1 l3_1 A3_2 c3_2 l3_2 1 none 0 [] false gt w8 (Kd.C_below HR1.out HB8.out) HC1.out (Kd.C_below HR3.out HB8.out) HC3.out (Kd.C_nil k24 w8) (Nat.le_refl 0) D_gt.out HZ.out; with_reducible refine (k2_).mono ?_; rintro e w9 ⟨rfl, hg_, hb_⟩; rw [w02] at hg_; have E_gt := ak_ hg_; have HB9 := ak_ (Below.trans HB8.out (hb_.below GE_gt.out (bz_ HB8.out))); have E_gh := ak_ (hb_.heap D_gh.out N_gh_gt.out); have E_gs := ak_ (hb_.heap D_gs.out N_gs_gt.out); have E_gv := ak_ (hb_.heap D_gv.out N_gv_gt.out); have n4_w9 : w9.cell? ⟨gt, 4, none⟩ = some (.int .i64 2) := (kc_ E_gt.out 4).trans rfl; have z0_w9 := kf_ E_gv.out 0; have z1_w9 := kf_ E_gv.out 1; have z2_w9 := kf_ E_gv.out 2; have v0_w9 : w9.cell? ⟨gv, 0, none⟩ = some (.bool false) := (kc_ E_gv.out 0).trans rfl; have v1_w9 : w9.cell? ⟨gv, 1, none⟩ = some (.int .u64 0) := (kc_ E_gv.out 1).trans rfl; have v2_w9 : w9.cell? ⟨gv, 2, none⟩ = some (.int .i64 0) := (kc_ E_gv.out 2).trans rfl; clear hg_ hb_ k2_) | (go_at_call 49; with_reducible refine (trace_gap.calls k a0 a3_0 A3_1 c3_1 l3_1 A3_2 c3_2 l3_2 2 (some ad) c2 l2 k gp_ gn gt w9 (Kd.C_below HR1.out HB9.out) HC1.out (Kd.C_below HR3.out HB9.out) HC3.out (Kd.C_below HR2.out HB9.out) HC2.out (Nat.le_trans HL.out (by decide)) E_gt.out (fun W hW => (have hW' := Below.trans HB9.out (hW.below GE_gt.out (bz_ HB9.out)); ⟨Kd.C_below HR1.out hW', Kd.C_below HR3.out hW', Kd.C_below HR2.out hW'⟩)) HGP.out).mono ?_; rintro e w10 ⟨rfl, hg_, hb_⟩; have G_gt := ak_ hg_; have HB10 := ak_ (Below.trans HB9.out (hb_.below GE_gt.out (bz_ HB9.out))); have G_gh := ak_ (hb_.heap E_gh.out N_gh_gt.out); have G_gs := ak_ (hb_.heap E_gs.out N_gs_gt.out); have G_gv := ak_ (hb_.heap E_gv.out N_gv_gt.out); have hx0 := (HB10.out.cell (World.block_lt_of_cell? w _ HX0.out)).trans HX0.out; have hx1 := (HB10.out.cell (World.block_lt_of_cell? w _ HX1.out)).trans HX1.out; clear hg_ hb_) | ((with_reducible refine gate_dst (N := 12) rfl ?_); refine box_event ?hg (N := 12) ?hd (cs := #[.int .u64 0, .int .u64 0]) (t := 24) ?hr ?_; (case hd => rfl); (case hg => rfl); (case hr => first | (go_simp; done) | (go_simp; rfl)); intro gb hg w11 hbox hb; have m0_ := ak_ (kb_ G_gh.out hb); have m1_ := ak_ (kb_ G_gs.out hb); have m2_ := ak_ (kb_ G_gv.out hb); have m3_ := ak_ (kb_ G_gt.out hb); have e0_ := ak_ (show gh ≠ gb from by rw [hg]; exact Nat.ne_of_lt (blk_lt G_gh.out)); have e1_ := ak_ (show gs ≠ gb from by rw [hg]; exact Nat.ne_of_lt (blk_lt G_gs.out)); have e2_ := ak_ (show gv ≠ gb from by rw [hg]; exact Nat.ne_of_lt (blk_lt G_gv.out)); have e3_ := ak_ (show gt ≠ gb from by rw [hg]; exact Nat.ne_of_lt (blk_lt G_gt.out)); have mb_ := ak_ (bt_ HB10.out hb); have GE_gb := ak_ (show w.heap.size ≤ gb by rw [hg]; exact bz_ HB10.out); clear HB10 G_gh G_gs G_gv G_gt; have HB10 := mb_; have G_gh := m0_; have N_gh_gb := e0_; clear m0_ e0_; have G_gs := m1_; have N_gs_gb := e1_; clear m1_ e1_; have G_gv := m2_; have N_gv_gb := e2_; clear m2_ e2_; have G_gt := m3_; have N_gt_gb := e3_; clear m3_ e3_; have B_gb := ak_ hbox; replace hx0 := (hb.cell (World.block_lt_of_cell? _ _ hx0)).trans hx0; replace hx1 := (hb.cell (World.block_lt_of_cell? _ _ hx1)).trans hx1; have zb0 := kf_ B_gb.out 0; have zb1 := kf_ B_gb.out 1; have yb0 : w11.cell? ⟨gb, 0, none⟩ = some (.int .u64 0) := (kc_ B_gb.out 0).trans rfl; have yb1 : w11.cell? ⟨gb, 1, none⟩ = some (.int .u64 0) := (kc_ B_gb.out 1).trans rfl; clear mb_ hb hbox hg))
          go_step3
          go_step
          go_step
          refine HP.out k _ _ ⟨_, gh, gs, gv, gt, gb, gn, s.f0, s.f1, rfl, rfl, ⟨rfl, rfl, rfl, rfl, rfl⟩, HD.out, ?_, ?_, ?_, ?_, ?_, ⟨N_gh_gt.out, N_gs_gt.out, N_gv_gt.out, fun e => N_gt_gb.out e.symm, N_gh_gb.out, N_gs_gb.out, N_gv_gb.out⟩, ⟨GE_gv.out, GE_gt.out, GE_gb.out⟩, ?_⟩
          ·exact tr_far G_gh.out N_gh_gb.out
          ·exact tr_far G_gs.out N_gs_gb.out
          ·exact tr_far G_gv.out N_gv_gb.out
          ·exact tr_far G_gt.out N_gt_gb.out
          ·exact tr_put B_gb.out
          ·exact below_set (below_set HB10.out GE_gb.out) GE_gb.out
         ·rw [if_neg cg] at H; cases H
   ·rw [if_neg c1] at H
    have c1b : (t != 0) = true := bne_iff_ne.mpr c1
    clear c1
    simp only [some.injEq, Prod.mk.injEq] at H
    obtain ⟨rfl, rfl, rfl, rfl⟩ := H
    go_wp2_with (first | ((with_reducible refine gate_callee (f := 27) rfl ?_); refine goesL_ (some 21) rfl rfl func27 (by kernel_rfl) rfl #[.int .i64 a0, .slice A3_1 l3_1.length c3_1] rfl (by (try simp only [map_toArray, map_cons, map_nil]); first | done | rfl) ?_; (with_reducible refine (leaf_Check.calls k a0 _ _ l3_1 t _ (Kd.C_below HR1.out HB.out) HC1.out A5.out).mono ?_); rintro e w5 ⟨rfl, ⟨nd, rfl⟩⟩; refine ⟨_, rfl, ?_⟩))
    simp only [Exit.jump]; refine bodyPost_ret (results_ct rfl _ _ gv 48 #[.bool false, .int .u64 0, .int .i64 0] (0, 0) _ rfl (by refine blk_put (cs := #[.bool false, .int .u64 0, .int .i64 0]) ?_ 2 _ rfl; refine blk_put (cs := #[.bool false, .int .u64 0, .int .i64 0]) ?_ 1 _ rfl; refine blk_put (cs := #[.bool false, .int .u64 0, .int .i64 0]) ?_ 0 _ rfl; exact B_gv.out) underlying48 rfl (by kernel_rfl)) rfl ?_
    exact ⟨rfl, by repeat (first | exact bn_ HB.out nd | refine below_set ?_ GE_gv.out)⟩
def medlarlaw23_live.f (k : Nat)  : Option (Bool) := (trace_Trace.f k 2 2 (([(⟨1, 0⟩ : S24)] : List (S24))) false (([2] : List Int)) ([] : List Bool)).bind fun bt234 => (if bt234.2.2.2 = 0 then (if bt234.1 = true then (some (bt234.2.1 == 2)) else (some false)) else (some false))
theorem medlarlaw23_live.mono : ∀ k, LeO (medlarlaw23_live.f k ) (medlarlaw23_live.f (k + 1) ) := by
  intro  k
  unfold medlarlaw23_live.f
  repeat' first
    | (with_reducible exact trace_Trace.mono _ _ _ _ _ _ _)
    | (with_reducible exact LeO.refl _)
    | (with_reducible exact LeO.none _)
    | (with_reducible refine LeO.ite ?_ ?_)
    | (with_reducible refine LeO.bind ?_ (fun _ => ?_))
    | exact trace_Trace.mono _ _ _ _ _ _ _
    | exact LeO.none _
    | refine LeO.ite ?_ ?_
    | refine LeO.bind ?_ (fun _ => ?_)
set_option maxHeartbeats 8000000 in
set_option maxRecDepth 100000 in
theorem medlarlaw23_live.calls (k : Nat)  (r : Bool) (w : World) (h : medlarlaw23_live.f k  = some r) :
   Calls Try.prog 9 #[] w fun e w' => e = .returned (.bool r) ∧ Below w.heap.size w w' := by
  have hu24 := underlying24
  have hu42 := underlying42
  have hu48 := underlying48
  have HB := ak_ (Below.refl w.heap.size w)
  have H : ((trace_Trace.f k 2 2 (([(⟨1, 0⟩ : S24)] : List (S24))) false (([2] : List Int)) ([] : List Bool)).bind fun bt234 => (if bt234.2.2.2 = 0 then (if bt234.1 = true then (some (bt234.2.1 == 2)) else (some false)) else (some false))) = some r := h
  clear h
  obtain ⟨y228, hy228⟩ : ∃ y_ : List (S24), y_ = (([(⟨1, 0⟩ : S24)] : List (S24))) := ⟨_, rfl⟩
  replace H : ((trace_Trace.f k 2 2 y228 false (([2] : List Int)) ([] : List Bool)).bind fun bt234 => (if bt234.2.2.2 = 0 then (if bt234.1 = true then (some (bt234.2.1 == 2)) else (some false)) else (some false))) = some r := by first | (rw [hy228]; with_reducible exact H) | (have H2_ := (Option.bind_some _ _).symm.trans H; rw [hy228]; with_reducible exact H2_) | (have H2_ := (Option.bind_some _ _).symm.trans H; with_reducible exact H2_) | with_reducible exact H | (rw [hy228]; exact H) | exact H
  have Ny228 := ak_ hy228
  clear hy228
  obtain ⟨y231, hy231⟩ : ∃ y_ : List Int, y_ = (([2] : List Int)) := ⟨_, rfl⟩
  replace H : ((trace_Trace.f k 2 2 y228 false y231 ([] : List Bool)).bind fun bt234 => (if bt234.2.2.2 = 0 then (if bt234.1 = true then (some (bt234.2.1 == 2)) else (some false)) else (some false))) = some r := by first | (rw [hy231]; with_reducible exact H) | (have H2_ := (Option.bind_some _ _).symm.trans H; rw [hy231]; with_reducible exact H2_) | (have H2_ := (Option.bind_some _ _).symm.trans H; with_reducible exact H2_) | with_reducible exact H | (rw [hy231]; exact H) | exact H
  have Ny231 := ak_ hy231
  clear hy231
  replace H := bind_eq_some_iff.mp H
  obtain ⟨⟨t234, t235, t236, t237⟩, A10, H⟩ := H
  replace H : (if t237 = 0 then (if t234 = true then (some (t235 == 2)) else (some false)) else (some false)) = some r := H
  have A1 := ak_ A10
  clear A10
  by_cases c2 : t237 = 0
  ·rw [if_pos c2] at H
   have c2b0 : (t237 == 0) = true := beq_iff_eq.mpr c2
   have c2b1 : (t237 != 0) = false := bne_eq_false_iff_eq.mpr c2
   clear c2
   by_cases c3 : t234 = true
   ·subst c3
    have H1 : (some (t235 == 2)) = some r := by rw [if_pos rfl] at H; exact H
    clear H
    have H := H1
    clear H1
    obtain rfl := Option.some.inj H
    go_enter func9, ntmps9
    go_wp2_with (first | ((with_reducible refine gate_dst (N := 5) rfl ?_); refine Kd.R_lit k24 _ 24 ?hg (N := 5) ?hd (xs := ([(⟨1, 0⟩ : S24)] : List (S24))) (inner := [.int .u64 1, .int .u64 0]) (ok := fun _ => True) (okp := fun _ => True) ?hr ?hp (fun _ hk => hk) trivial (Below.refl _ _) (Nat.le_refl _) (by simp) ?_; (case hd => rfl); (case hg => rfl); (case hr => first | (go_simp; done) | (go_simp; rfl)); (case hp => exact (Reps.c2 (show Kd.M k24 _ _ _ (⟨1, 0⟩ : S24) [.int .u64 1, .int .u64 0] from (k24_mkM _ _ _ (⟨1, 0⟩ : S24) )) (Reps.none _ _))); intro v229 w4 ho5 hb hg_ hnew_; clear hg_ hnew_; (first | rw [← Ny228.out] at ho5 | (simp only [Int.reduceToNat] at ho5; rw [← Ny228.out] at ho5)); have n0_ := ak_ (Kd.R_lower ho5 (bz_ (bl_ HB))); have n1_ := ak_ (bt_ (bl_ HB) hb); clear HB; have HO230 := n0_; have HB := n1_; clear n0_ n1_; clear hb ho5) | ((with_reducible refine gate_dst (N := 6) rfl ?_); refine Kd.R_lit (Kd.int .u64) _ 22 ?hg (N := 6) ?hd (xs := ([2] : List Int)) (inner := [.int .u64 2]) (ok := fun _ => True) (okp := fun _ => True) ?hr ?hp (fun _ hk => hk) trivial (Below.refl _ _) (Nat.le_refl _) (by simp) ?_; (case hd => rfl); (case hg => rfl); (case hr => first | (go_simp; done) | (go_simp; rfl)); (case hp => exact (Reps.one (show Kd.M (Kd.int .u64) _ _ _ 2 [.int .u64 2] from rfl) (Reps.none _ _))); intro v232 w6 ho7 hb hg_ hnew_; clear hg_ hnew_; (first | rw [← Ny231.out] at ho7 | (simp only [Int.reduceToNat] at ho7; rw [← Ny231.out] at ho7)); have n0_ := ak_ (Kd.R_below (rl_ HO230) hb); have n1_ := ak_ (Kd.R_lower ho7 (bz_ (bl_ HB))); have n2_ := ak_ (bt_ (bl_ HB) hb); clear HO230; clear HB; have HO230 := n0_; have HO233 := n1_; have HB := n2_; clear n0_ n1_ n2_; clear hb ho7; obtain ⟨Ao8, co8, eo8⟩ := Kd.R_slice HO233.out; subst eo8; obtain ⟨Ao9, co9, eo9⟩ := Kd.R_slice HO230.out; subst eo9) | ((with_reducible refine gate_callee (f := 20) rfl ?_); refine goesL_ (some 8) rfl rfl func20 (by kernel_rfl) rfl #[.int .i64 2, .int .i64 2, .slice Ao9 y228.length co9, .agg #[.bool false, .slice Ao8 y231.length co8, .slice none 0 0]] rfl (by (try simp only [map_toArray, map_cons, map_nil]); first | done | rfl | (simp only [length_drop, length_take]; rfl)) ?_; (refine (trace_Trace.calls k 2 2 _ _ y228 false _ _ y231 _ _ ([] : List Bool) true t235 t236 t237 _ ?side1 ?side2 ?side3 ?side4 ?side5 ?side6 A1.out).mono ?_); (case side1 => repeat (first | exact (Kd.R_reads' HO230.out).2.2 | (with_reducible refine Kd.C_alloc ?_ _) | (with_reducible refine Kd.C_drewN ?_ _) | (with_reducible refine Kd.C_drew ?_))); (case side2 => exact (Kd.R_reads' HO230.out).2.1); (case side3 => repeat (first | exact (Kd.R_reads' HO233.out).2.2 | (with_reducible refine Kd.C_alloc ?_ _) | (with_reducible refine Kd.C_drewN ?_ _) | (with_reducible refine Kd.C_drew ?_))); (case side4 => exact (Kd.R_reads' HO233.out).2.1); (case side5 => exact Kd.C_nil _ _); (case side6 => exact Nat.le_refl _); rintro e w10 ⟨rfl, hb⟩; refine ⟨_, rfl, ?_⟩; have n0_ := ak_ (Kd.R_below (rl_ HO230) hb); have n1_ := ak_ (Kd.R_below (rl_ HO233) hb); have n2_ := ak_ (bt_ (bl_ HB) hb); clear HO230; clear HO233; clear HB; have HO230 := n0_; have HO233 := n1_; have HB := n2_; clear n0_ n1_ n2_; (try clear hb); (try clear hk)) | ((with_reducible refine gate_dst (N := 1) rfl ?_); refine box_event ?hg (N := 1) ?hd (cs := #[.bool false, .int .u64 0, .int .i64 0]) (t := 48) ?hr ?_; (case hd => rfl); (case hg => rfl); (case hr => first | (go_simp; done) | (go_simp; rfl)); intro gb238 hg w11 hbox hb; have n0_ := ak_ (Kd.R_below (rl_ HO230) hb); have n1_ := ak_ (Kd.R_below (rl_ HO233) hb); have n2_ := ak_ (bt_ (bl_ HB) hb); have n3_ := ak_ (hbox); have n4_ := ak_ ((gs_ hg HB)); have n5_ := ak_ ((gs_ hg HB)); clear HO230; clear HO233; clear HB; have HO230 := n0_; have HO233 := n1_; have HB := n2_; have BK238 := n3_; have GW238 := n4_; have GE238 := n5_; clear n0_ n1_ n2_ n3_ n4_ n5_; clear hb hbox hg; have hcz12_0 : w11.cell? ⟨gb238, 0, none⟩ = some (.bool false) := (kc_ BK238.out 0).trans rfl; have hcz12_1 : w11.cell? ⟨gb238, 1, none⟩ = some (.int .u64 0) := (kc_ BK238.out 1).trans rfl; have hcz12_2 : w11.cell? ⟨gb238, 2, none⟩ = some (.int .i64 0) := (kc_ BK238.out 2).trans rfl; have hfz12_0 := kf_ BK238.out 0; have hfz12_1 := kf_ BK238.out 1; have hfz12_2 := kf_ BK238.out 2))
    go_ret
    exact ⟨by first | rfl | (simp <;> rfl) | (simp [*] <;> rfl), by repeat (first | (with_reducible first | exact HB.out | apply ba_ | apply bn_ | apply bd_ | refine below_set ?_ GE238.out) | exact HB.out)⟩
   ·replace c3 := Bool.eq_false_iff.mpr c3
    subst c3
    have H1 : (some false) = some r := by rw [if_neg (show ¬ (false = true) by decide)] at H; exact H
    clear H
    have H := H1
    clear H1
    obtain rfl := Option.some.inj H
    go_enter func9, ntmps9
    go_wp2_with (first | ((with_reducible refine gate_dst (N := 5) rfl ?_); refine Kd.R_lit k24 _ 24 ?hg (N := 5) ?hd (xs := ([(⟨1, 0⟩ : S24)] : List (S24))) (inner := [.int .u64 1, .int .u64 0]) (ok := fun _ => True) (okp := fun _ => True) ?hr ?hp (fun _ hk => hk) trivial (Below.refl _ _) (Nat.le_refl _) (by simp) ?_; (case hd => rfl); (case hg => rfl); (case hr => first | (go_simp; done) | (go_simp; rfl)); (case hp => exact (Reps.c2 (show Kd.M k24 _ _ _ (⟨1, 0⟩ : S24) [.int .u64 1, .int .u64 0] from (k24_mkM _ _ _ (⟨1, 0⟩ : S24) )) (Reps.none _ _))); intro v229 w13 ho14 hb hg_ hnew_; clear hg_ hnew_; (first | rw [← Ny228.out] at ho14 | (simp only [Int.reduceToNat] at ho14; rw [← Ny228.out] at ho14)); have n0_ := ak_ (Kd.R_lower ho14 (bz_ (bl_ HB))); have n1_ := ak_ (bt_ (bl_ HB) hb); clear HB; have HO230 := n0_; have HB := n1_; clear n0_ n1_; clear hb ho14) | ((with_reducible refine gate_dst (N := 6) rfl ?_); refine Kd.R_lit (Kd.int .u64) _ 22 ?hg (N := 6) ?hd (xs := ([2] : List Int)) (inner := [.int .u64 2]) (ok := fun _ => True) (okp := fun _ => True) ?hr ?hp (fun _ hk => hk) trivial (Below.refl _ _) (Nat.le_refl _) (by simp) ?_; (case hd => rfl); (case hg => rfl); (case hr => first | (go_simp; done) | (go_simp; rfl)); (case hp => exact (Reps.one (show Kd.M (Kd.int .u64) _ _ _ 2 [.int .u64 2] from rfl) (Reps.none _ _))); intro v232 w15 ho16 hb hg_ hnew_; clear hg_ hnew_; (first | rw [← Ny231.out] at ho16 | (simp only [Int.reduceToNat] at ho16; rw [← Ny231.out] at ho16)); have n0_ := ak_ (Kd.R_below (rl_ HO230) hb); have n1_ := ak_ (Kd.R_lower ho16 (bz_ (bl_ HB))); have n2_ := ak_ (bt_ (bl_ HB) hb); clear HO230; clear HB; have HO230 := n0_; have HO233 := n1_; have HB := n2_; clear n0_ n1_ n2_; clear hb ho16; obtain ⟨Ao17, co17, eo17⟩ := Kd.R_slice HO233.out; subst eo17; obtain ⟨Ao18, co18, eo18⟩ := Kd.R_slice HO230.out; subst eo18) | ((with_reducible refine gate_callee (f := 20) rfl ?_); refine goesL_ (some 8) rfl rfl func20 (by kernel_rfl) rfl #[.int .i64 2, .int .i64 2, .slice Ao18 y228.length co18, .agg #[.bool false, .slice Ao17 y231.length co17, .slice none 0 0]] rfl (by (try simp only [map_toArray, map_cons, map_nil]); first | done | rfl | (simp only [length_drop, length_take]; rfl)) ?_; (refine (trace_Trace.calls k 2 2 _ _ y228 false _ _ y231 _ _ ([] : List Bool) false t235 t236 t237 _ ?side1 ?side2 ?side3 ?side4 ?side5 ?side6 A1.out).mono ?_); (case side1 => repeat (first | exact (Kd.R_reads' HO230.out).2.2 | (with_reducible refine Kd.C_alloc ?_ _) | (with_reducible refine Kd.C_drewN ?_ _) | (with_reducible refine Kd.C_drew ?_))); (case side2 => exact (Kd.R_reads' HO230.out).2.1); (case side3 => repeat (first | exact (Kd.R_reads' HO233.out).2.2 | (with_reducible refine Kd.C_alloc ?_ _) | (with_reducible refine Kd.C_drewN ?_ _) | (with_reducible refine Kd.C_drew ?_))); (case side4 => exact (Kd.R_reads' HO233.out).2.1); (case side5 => exact Kd.C_nil _ _); (case side6 => exact Nat.le_refl _); rintro e w19 ⟨rfl, hb⟩; refine ⟨_, rfl, ?_⟩; have n0_ := ak_ (Kd.R_below (rl_ HO230) hb); have n1_ := ak_ (Kd.R_below (rl_ HO233) hb); have n2_ := ak_ (bt_ (bl_ HB) hb); clear HO230; clear HO233; clear HB; have HO230 := n0_; have HO233 := n1_; have HB := n2_; clear n0_ n1_ n2_; (try clear hb); (try clear hk)) | ((with_reducible refine gate_dst (N := 1) rfl ?_); refine box_event ?hg (N := 1) ?hd (cs := #[.bool false, .int .u64 0, .int .i64 0]) (t := 48) ?hr ?_; (case hd => rfl); (case hg => rfl); (case hr => first | (go_simp; done) | (go_simp; rfl)); intro gb238 hg w20 hbox hb; have n0_ := ak_ (Kd.R_below (rl_ HO230) hb); have n1_ := ak_ (Kd.R_below (rl_ HO233) hb); have n2_ := ak_ (bt_ (bl_ HB) hb); have n3_ := ak_ (hbox); have n4_ := ak_ ((gs_ hg HB)); have n5_ := ak_ ((gs_ hg HB)); clear HO230; clear HO233; clear HB; have HO230 := n0_; have HO233 := n1_; have HB := n2_; have BK238 := n3_; have GW238 := n4_; have GE238 := n5_; clear n0_ n1_ n2_ n3_ n4_ n5_; clear hb hbox hg; have hcz21_0 : w20.cell? ⟨gb238, 0, none⟩ = some (.bool false) := (kc_ BK238.out 0).trans rfl; have hcz21_1 : w20.cell? ⟨gb238, 1, none⟩ = some (.int .u64 0) := (kc_ BK238.out 1).trans rfl; have hcz21_2 : w20.cell? ⟨gb238, 2, none⟩ = some (.int .i64 0) := (kc_ BK238.out 2).trans rfl; have hfz21_0 := kf_ BK238.out 0; have hfz21_1 := kf_ BK238.out 1; have hfz21_2 := kf_ BK238.out 2))
    go_ret
    exact ⟨by first | rfl | (simp <;> rfl) | (simp [*] <;> rfl), by repeat (first | (with_reducible first | exact HB.out | apply ba_ | apply bn_ | apply bd_ | refine below_set ?_ GE238.out) | exact HB.out)⟩
  ·rw [if_neg c2] at H
   have c2b0 : (t237 == 0) = false := beq_eq_false_iff_ne.mpr c2
   have c2b1 : (t237 != 0) = true := bne_iff_ne.mpr c2
   obtain rfl := Option.some.inj H
   go_enter func9, ntmps9
   go_wp2_with (first | ((with_reducible refine gate_dst (N := 5) rfl ?_); refine Kd.R_lit k24 _ 24 ?hg (N := 5) ?hd (xs := ([(⟨1, 0⟩ : S24)] : List (S24))) (inner := [.int .u64 1, .int .u64 0]) (ok := fun _ => True) (okp := fun _ => True) ?hr ?hp (fun _ hk => hk) trivial (Below.refl _ _) (Nat.le_refl _) (by simp) ?_; (case hd => rfl); (case hg => rfl); (case hr => first | (go_simp; done) | (go_simp; rfl)); (case hp => exact (Reps.c2 (show Kd.M k24 _ _ _ (⟨1, 0⟩ : S24) [.int .u64 1, .int .u64 0] from (k24_mkM _ _ _ (⟨1, 0⟩ : S24) )) (Reps.none _ _))); intro v229 w22 ho23 hb hg_ hnew_; clear hg_ hnew_; (first | rw [← Ny228.out] at ho23 | (simp only [Int.reduceToNat] at ho23; rw [← Ny228.out] at ho23)); have n0_ := ak_ (Kd.R_lower ho23 (bz_ (bl_ HB))); have n1_ := ak_ (bt_ (bl_ HB) hb); clear HB; have HO230 := n0_; have HB := n1_; clear n0_ n1_; clear hb ho23) | ((with_reducible refine gate_dst (N := 6) rfl ?_); refine Kd.R_lit (Kd.int .u64) _ 22 ?hg (N := 6) ?hd (xs := ([2] : List Int)) (inner := [.int .u64 2]) (ok := fun _ => True) (okp := fun _ => True) ?hr ?hp (fun _ hk => hk) trivial (Below.refl _ _) (Nat.le_refl _) (by simp) ?_; (case hd => rfl); (case hg => rfl); (case hr => first | (go_simp; done) | (go_simp; rfl)); (case hp => exact (Reps.one (show Kd.M (Kd.int .u64) _ _ _ 2 [.int .u64 2] from rfl) (Reps.none _ _))); intro v232 w24 ho25 hb hg_ hnew_; clear hg_ hnew_; (first | rw [← Ny231.out] at ho25 | (simp only [Int.reduceToNat] at ho25; rw [← Ny231.out] at ho25)); have n0_ := ak_ (Kd.R_below (rl_ HO230) hb); have n1_ := ak_ (Kd.R_lower ho25 (bz_ (bl_ HB))); have n2_ := ak_ (bt_ (bl_ HB) hb); clear HO230; clear HB; have HO230 := n0_; have HO233 := n1_; have HB := n2_; clear n0_ n1_ n2_; clear hb ho25; obtain ⟨Ao26, co26, eo26⟩ := Kd.R_slice HO233.out; subst eo26; obtain ⟨Ao27, co27, eo27⟩ := Kd.R_slice HO230.out; subst eo27) | ((with_reducible refine gate_callee (f := 20) rfl ?_); refine goesL_ (some 8) rfl rfl func20 (by kernel_rfl) rfl #[.int .i64 2, .int .i64 2, .slice Ao27 y228.length co27, .agg #[.bool false, .slice Ao26 y231.length co26, .slice none 0 0]] rfl (by (try simp only [map_toArray, map_cons, map_nil]); first | done | rfl | (simp only [length_drop, length_take]; rfl)) ?_; (refine (trace_Trace.calls k 2 2 _ _ y228 false _ _ y231 _ _ ([] : List Bool) t234 t235 t236 t237 _ ?side1 ?side2 ?side3 ?side4 ?side5 ?side6 A1.out).mono ?_); (case side1 => repeat (first | exact (Kd.R_reads' HO230.out).2.2 | (with_reducible refine Kd.C_alloc ?_ _) | (with_reducible refine Kd.C_drewN ?_ _) | (with_reducible refine Kd.C_drew ?_))); (case side2 => exact (Kd.R_reads' HO230.out).2.1); (case side3 => repeat (first | exact (Kd.R_reads' HO233.out).2.2 | (with_reducible refine Kd.C_alloc ?_ _) | (with_reducible refine Kd.C_drewN ?_ _) | (with_reducible refine Kd.C_drew ?_))); (case side4 => exact (Kd.R_reads' HO233.out).2.1); (case side5 => exact Kd.C_nil _ _); (case side6 => exact Nat.le_refl _); rintro e w28 ⟨rfl, hb⟩; refine ⟨_, rfl, ?_⟩; have n0_ := ak_ (Kd.R_below (rl_ HO230) hb); have n1_ := ak_ (Kd.R_below (rl_ HO233) hb); have n2_ := ak_ (bt_ (bl_ HB) hb); clear HO230; clear HO233; clear HB; have HO230 := n0_; have HO233 := n1_; have HB := n2_; clear n0_ n1_ n2_; (try clear hb); (try clear hk)) | ((with_reducible refine gate_dst (N := 1) rfl ?_); refine box_event ?hg (N := 1) ?hd (cs := #[.bool false, .int .u64 0, .int .i64 0]) (t := 48) ?hr ?_; (case hd => rfl); (case hg => rfl); (case hr => first | (go_simp; done) | (go_simp; rfl)); intro gb238 hg w29 hbox hb; have n0_ := ak_ (Kd.R_below (rl_ HO230) hb); have n1_ := ak_ (Kd.R_below (rl_ HO233) hb); have n2_ := ak_ (bt_ (bl_ HB) hb); have n3_ := ak_ (hbox); have n4_ := ak_ ((gs_ hg HB)); have n5_ := ak_ ((gs_ hg HB)); clear HO230; clear HO233; clear HB; have HO230 := n0_; have HO233 := n1_; have HB := n2_; have BK238 := n3_; have GW238 := n4_; have GE238 := n5_; clear n0_ n1_ n2_ n3_ n4_ n5_; clear hb hbox hg; have hcz30_0 : w29.cell? ⟨gb238, 0, none⟩ = some (.bool false) := (kc_ BK238.out 0).trans rfl; have hcz30_1 : w29.cell? ⟨gb238, 1, none⟩ = some (.int .u64 0) := (kc_ BK238.out 1).trans rfl; have hcz30_2 : w29.cell? ⟨gb238, 2, none⟩ = some (.int .i64 0) := (kc_ BK238.out 2).trans rfl; have hfz30_0 := kf_ BK238.out 0; have hfz30_1 := kf_ BK238.out 1; have hfz30_2 := kf_ BK238.out 2))
   go_ret
   exact ⟨by first | rfl | (simp <;> rfl) | (simp [*] <;> rfl), by repeat (first | (with_reducible first | exact HB.out | apply ba_ | apply bn_ | apply bd_ | refine below_set ?_ GE238.out) | exact HB.out)⟩
def medlarlaw23_few.f (a0_0 : Bool) (l0_1 : List Int) (l0_2 : List Bool) (l1 : List (S24)) : Option (Bool) := if (l0_1.length : Int) ≤ 20 then (if (l0_2.length : Int) ≤ 300 then (some (decide ((l1.length : Int) ≤ 60))) else (some false)) else (some false)
set_option maxHeartbeats 8000000 in
set_option maxRecDepth 100000 in
theorem medlarlaw23_few.calls (a0_0 : Bool) (A0_1 : Option Addr) (c0_1 : Nat) (l0_1 : List Int) (A0_2 : Option Addr) (c0_2 : Nat) (l0_2 : List Bool) (A1 : Option Addr) (c1 : Nat) (l1 : List (S24)) (r : Bool) (w : World) (hr0_1 : Kd.C (Kd.int .u64) w A0_1 l0_1.length l0_1) (hc0_1 : l0_1.length ≤ c0_1) (hr0_2 : Kd.C Kd.bool w A0_2 l0_2.length l0_2) (hc0_2 : l0_2.length ≤ c0_2) (hr1 : Kd.C k24 w A1 l1.length l1) (hc1 : l1.length ≤ c1) (h : medlarlaw23_few.f a0_0 l0_1 l0_2 l1 = some r) :
   Calls Try.prog 15 #[.agg #[.bool a0_0, .slice A0_1 l0_1.length c0_1, .slice A0_2 l0_2.length c0_2], .slice A1 l1.length c1] w fun e w' => e = .returned (.bool r) ∧ Below w.heap.size w w' := by
  have hu42 := underlying42
  have HR0_1 := ak_ hr0_1
  have HC0_1 := ak_ hc0_1
  clear hr0_1 hc0_1
  have HR0_2 := ak_ hr0_2
  have HC0_2 := ak_ hc0_2
  clear hr0_2 hc0_2
  have HR1 := ak_ hr1
  have HC1 := ak_ hc1
  clear hr1 hc1
  have HB := ak_ (Below.refl w.heap.size w)
  have H : (if (l0_1.length : Int) ≤ 20 then (if (l0_2.length : Int) ≤ 300 then (some (decide ((l1.length : Int) ≤ 60))) else (some false)) else (some false)) = some r := h
  clear h
  by_cases c3 : (l0_1.length : Int) ≤ 20
  ·rw [if_pos c3] at H
   have c3b0 := decide_eq_true c3
   have c3b1 : decide (l0_1.length ≤ 20) = true := decide_eq_true (by omega)
   clear c3
   by_cases c4 : (l0_2.length : Int) ≤ 300
   ·rw [if_pos c4] at H
    have c4b0 := decide_eq_true c4
    have c4b1 : decide (l0_2.length ≤ 300) = true := decide_eq_true (by omega)
    clear c4
    obtain rfl := Option.some.inj H
    go_enter func15, ntmps15
    go_wp2_with (first | ((with_reducible refine gate_dst (N := 2) rfl ?_); (try (refine gate_guard (by rfl) ?_; dsimp only)); refine box_event ?hg (N := 2) ?hd (cs := #[.bool a0_0, .slice A0_1 l0_1.length c0_1, .slice A0_2 l0_2.length c0_2]) (t := 42) ?hr ?_; (case hd => rfl); (case hg => rfl); (case hr => first | (go_simp; done) | (go_simp; rfl)); intro gb239 hg w5 hbox hb; have n0_ := ak_ (bt_ (bl_ HB) hb); have n1_ := ak_ (hbox); have n2_ := ak_ ((gs_ hg HB)); have n3_ := ak_ ((gs_ hg HB)); clear HB; have HB := n0_; have BK239 := n1_; have GW239 := n2_; have GE239 := n3_; clear n0_ n1_ n2_ n3_; clear hb hbox hg; have hcz6_0 : w5.cell? ⟨gb239, 0, none⟩ = some (.bool a0_0) := (kc_ BK239.out 0).trans rfl; have hcz6_1 : w5.cell? ⟨gb239, 1, none⟩ = some (.slice A0_1 l0_1.length c0_1) := (kc_ BK239.out 1).trans rfl; have hcz6_2 : w5.cell? ⟨gb239, 2, none⟩ = some (.slice A0_2 l0_2.length c0_2) := (kc_ BK239.out 2).trans rfl; have hfz6_0 := kf_ BK239.out 0; have hfz6_1 := kf_ BK239.out 1; have hfz6_2 := kf_ BK239.out 2))
    go_ret
    exact ⟨by first | rfl | (simp <;> rfl) | (simp [*] <;> rfl), by repeat (first | (with_reducible first | exact HB.out | apply ba_ | apply bn_ | apply bd_ | refine below_set ?_ GE239.out) | exact HB.out)⟩
   ·rw [if_neg c4] at H
    have c4b0 := decide_eq_false c4
    have c4b1 : decide (l0_2.length ≤ 300) = false := decide_eq_false (by omega)
    clear c4
    obtain rfl := Option.some.inj H
    go_enter func15, ntmps15
    go_wp2_with (first | ((with_reducible refine gate_dst (N := 2) rfl ?_); (try (refine gate_guard (by rfl) ?_; dsimp only)); refine box_event ?hg (N := 2) ?hd (cs := #[.bool a0_0, .slice A0_1 l0_1.length c0_1, .slice A0_2 l0_2.length c0_2]) (t := 42) ?hr ?_; (case hd => rfl); (case hg => rfl); (case hr => first | (go_simp; done) | (go_simp; rfl)); intro gb239 hg w7 hbox hb; have n0_ := ak_ (bt_ (bl_ HB) hb); have n1_ := ak_ (hbox); have n2_ := ak_ ((gs_ hg HB)); have n3_ := ak_ ((gs_ hg HB)); clear HB; have HB := n0_; have BK239 := n1_; have GW239 := n2_; have GE239 := n3_; clear n0_ n1_ n2_ n3_; clear hb hbox hg; have hcz8_0 : w7.cell? ⟨gb239, 0, none⟩ = some (.bool a0_0) := (kc_ BK239.out 0).trans rfl; have hcz8_1 : w7.cell? ⟨gb239, 1, none⟩ = some (.slice A0_1 l0_1.length c0_1) := (kc_ BK239.out 1).trans rfl; have hcz8_2 : w7.cell? ⟨gb239, 2, none⟩ = some (.slice A0_2 l0_2.length c0_2) := (kc_ BK239.out 2).trans rfl; have hfz8_0 := kf_ BK239.out 0; have hfz8_1 := kf_ BK239.out 1; have hfz8_2 := kf_ BK239.out 2))
    go_ret
    exact ⟨by first | rfl | (simp <;> rfl) | (simp [*] <;> rfl), by repeat (first | (with_reducible first | exact HB.out | apply ba_ | apply bn_ | apply bd_ | refine below_set ?_ GE239.out) | exact HB.out)⟩
  ·rw [if_neg c3] at H
   have c3b0 := decide_eq_false c3
   have c3b1 : decide (l0_1.length ≤ 20) = false := decide_eq_false (by omega)
   clear c3
   obtain rfl := Option.some.inj H
   go_enter func15, ntmps15
   go_wp2_with (first | ((with_reducible refine gate_dst (N := 2) rfl ?_); (try (refine gate_guard (by rfl) ?_; dsimp only)); refine box_event ?hg (N := 2) ?hd (cs := #[.bool a0_0, .slice A0_1 l0_1.length c0_1, .slice A0_2 l0_2.length c0_2]) (t := 42) ?hr ?_; (case hd => rfl); (case hg => rfl); (case hr => first | (go_simp; done) | (go_simp; rfl)); intro gb239 hg w9 hbox hb; have n0_ := ak_ (bt_ (bl_ HB) hb); have n1_ := ak_ (hbox); have n2_ := ak_ ((gs_ hg HB)); have n3_ := ak_ ((gs_ hg HB)); clear HB; have HB := n0_; have BK239 := n1_; have GW239 := n2_; have GE239 := n3_; clear n0_ n1_ n2_ n3_; clear hb hbox hg; have hcz10_0 : w9.cell? ⟨gb239, 0, none⟩ = some (.bool a0_0) := (kc_ BK239.out 0).trans rfl; have hcz10_1 : w9.cell? ⟨gb239, 1, none⟩ = some (.slice A0_1 l0_1.length c0_1) := (kc_ BK239.out 1).trans rfl; have hcz10_2 : w9.cell? ⟨gb239, 2, none⟩ = some (.slice A0_2 l0_2.length c0_2) := (kc_ BK239.out 2).trans rfl; have hfz10_0 := kf_ BK239.out 0; have hfz10_1 := kf_ BK239.out 1; have hfz10_2 := kf_ BK239.out 2))
   go_ret
   exact ⟨by first | rfl | (simp <;> rfl) | (simp [*] <;> rfl), by repeat (first | (with_reducible first | exact HB.out | apply ba_ | apply bn_ | apply bd_ | refine below_set ?_ GE239.out) | exact HB.out)⟩
def medlarref01_power.l0 : Nat → Int → Int → Int → Option (Int)
  | 0, _, _, _ => none
  | k + 1, x3, x4, x5 => if x5 < x4 then (medlarref01_power.l0 k (IntKind.u64.wrap (2 * x3)) x4 (wrap64 (x5 + 1))) else (some x3)
def medlarref01_power.f (k : Nat) (a0 : Int) : Option (Int) := medlarref01_power.l0 k 1 a0 0
set_option maxHeartbeats 8000000 in
set_option maxRecDepth 100000 in
theorem medlarref01_power.calls (k : Nat) (a0 : Int) (r : Int) (w : World) (h : medlarref01_power.f k a0 = some r) :
   Calls Try.prog 94 #[.int .i64 a0] w fun e w' => e = .returned (.int .u64 r) ∧ Drawn0 w w' := by
  have H : (medlarref01_power.l0 k 1 a0 0) = some r := h
  clear h
  have H' := ak_ H
  clear H
  go_enter func94, ntmps94
  go_wp2
  go_loopg [3, 5] k (fun kq v3 v5 w' => ∃ (x3_1 : Int) (x5_1 : Int), v3 = .int .u64 x3_1 ∧ v5 = .int .i64 x5_1 ∧ Aside0 (medlarref01_power.l0 kq x3_1 a0 x5_1 = some r) ∧ Aside0 (kq ≤ k) ∧ Drawn0 w w')
  case atStart => exact ⟨(1), (0), (by first | rfl | (simp; done) | (simp [*]; done)), (by first | rfl | (simp; done) | (simp [*]; done)), H', ⟨Nat.le_refl _⟩, by repeat (first | exact Drawn0.refl _ | apply Drawn0.step)⟩
  case round =>
   clear H'
   obtain ⟨x3_1, x5_1, rfl, rfl, HA, HK1, ⟨m1, rfl⟩⟩ := hrel
   cases gk with
   | zero => exact absurd HA.out (by simp [medlarref01_power.l0])
   | succ k1 =>
    have H := HA.out
    clear HA
    simp only [medlarref01_power.l0] at H
    by_cases c2 : x5_1 < a0
    ·rw [if_pos c2] at H
     have c2b0 := decide_eq_true c2
     clear c2
     have H' := ak_ H
     clear H
     go_wp2
     go_roundg k1
     case measure => have := HK1.out; omega
     case rel => exact ⟨(IntKind.u64.wrap (2 * x3_1)), (wrap64 (x5_1 + 1)), (by first | rfl | (simp; done) | (simp [*]; done)), (by first | rfl | (simp; done) | (simp [*]; done)), H', ⟨by have := HK1.out; omega⟩, by repeat (first | exact Drawn0.refl _ | apply Drawn0.step)⟩
    ·rw [if_neg c2] at H
     have c2b0 := decide_eq_false c2
     clear c2
     obtain rfl := Option.some.inj H
     go_wp2
     go_ret
     exact ⟨by first | rfl | (simp; done) | (simp [*]; done), by repeat (first | exact Drawn0.refl _ | apply Drawn0.step)⟩
def medlarref01_May.f (k : Nat) (a0 : Int) (a1 : Int) : Option (Bool) := if a0 ≥ 1 then (if a0 ≤ 32 then (if a1 ≥ 1 then ((medlarref01_power.f k (wrap64 (a0 + 1))).bind fun t240 => (some (decide (a1 < t240)))) else (some false)) else (some false)) else (some false)
set_option maxHeartbeats 8000000 in
set_option maxRecDepth 100000 in
theorem medlarref01_May.calls (k : Nat) (a0 : Int) (a1 : Int) (r : Bool) (w : World) (h : medlarref01_May.f k a0 a1 = some r) :
   Calls Try.prog 69 #[.int .i64 a0, .int .u64 a1] w fun e w' => e = .returned (.bool r) ∧ Drawn0 w w' := by
  have H : (if a0 ≥ 1 then (if a0 ≤ 32 then (if a1 ≥ 1 then ((medlarref01_power.f k (wrap64 (a0 + 1))).bind fun t240 => (some (decide (a1 < t240)))) else (some false)) else (some false)) else (some false)) = some r := h
  clear h
  by_cases c3 : a0 ≥ 1
  ·rw [if_pos c3] at H
   have c3b0 : decide (1 ≤ a0) = true := decide_eq_true c3
   clear c3
   by_cases c4 : a0 ≤ 32
   ·rw [if_pos c4] at H
    have c4b0 := decide_eq_true c4
    clear c4
    by_cases c5 : a1 ≥ 1
    ·rw [if_pos c5] at H
     have c5b0 : decide (1 ≤ a1) = true := decide_eq_true c5
     clear c5
     replace H := bind_eq_some_iff.mp H
     obtain ⟨t240, A60, H⟩ := H
     replace H : (some (decide (a1 < t240))) = some r := H
     have A6 := ak_ A60
     clear A60
     obtain rfl := Option.some.inj H
     go_enter func69, ntmps69
     go_wp2_with (first | (go_at_call 94; (with_reducible refine (medlarref01_power.calls k (wrap64 (a0 + 1)) t240 _ A6.out).mono ?_); rintro e w' ⟨rfl, ⟨nd, rfl⟩⟩))
     go_ret
     exact ⟨by first | rfl | (simp; done) | (simp [*]; done), by repeat (first | exact Drawn0.refl _ | apply Drawn0.step)⟩
    ·rw [if_neg c5] at H
     have c5b0 : decide (1 ≤ a1) = false := decide_eq_false c5
     clear c5
     obtain rfl := Option.some.inj H
     go_enter func69, ntmps69
     go_wp2
     go_ret
     exact ⟨by first | rfl | (simp; done) | (simp [*]; done), by repeat (first | exact Drawn0.refl _ | apply Drawn0.step)⟩
   ·rw [if_neg c4] at H
    have c4b0 := decide_eq_false c4
    clear c4
    obtain rfl := Option.some.inj H
    go_enter func69, ntmps69
    go_wp2
    go_ret
    exact ⟨by first | rfl | (simp; done) | (simp [*]; done), by repeat (first | exact Drawn0.refl _ | apply Drawn0.step)⟩
  ·rw [if_neg c3] at H
   have c3b0 : decide (1 ≤ a0) = false := decide_eq_false c3
   clear c3
   obtain rfl := Option.some.inj H
   go_enter func69, ntmps69
   go_wp2
   go_ret
   exact ⟨by first | rfl | (simp; done) | (simp [*]; done), by repeat (first | exact Drawn0.refl _ | apply Drawn0.step)⟩
def medlarref01_Check.f (k : Nat) (a0 : Int) (a1 : Int) : Option (Int) := (medlarref01_May.f k a0 a1).bind fun t241 => (if t241 = true then (some 0) else (some 1))
set_option maxHeartbeats 8000000 in
set_option maxRecDepth 100000 in
theorem medlarref01_Check.calls (k : Nat) (a0 : Int) (a1 : Int) (r : Int) (w : World) (h : medlarref01_Check.f k a0 a1 = some r) :
   Calls Try.prog 46 #[.int .i64 a0, .int .u64 a1] w fun e w' => e = .returned (.int .i64 r) ∧ Drawn0 w w' := by
  have H : ((medlarref01_May.f k a0 a1).bind fun t241 => (if t241 = true then (some 0) else (some 1))) = some r := h
  clear h
  replace H := bind_eq_some_iff.mp H
  obtain ⟨t241, A30, H⟩ := H
  replace H : (if t241 = true then (some 0) else (some 1)) = some r := H
  have A3 := ak_ A30
  clear A30
  by_cases c4 : t241 = true
  ·subst c4
   have H1 : (some 0) = some r := by rw [if_pos rfl] at H; exact H
   clear H
   have H := H1
   clear H1
   obtain rfl := Option.some.inj H
   go_enter func46, ntmps46
   go_wp2_with (first | ((with_reducible refine gate_callee (f := 69) rfl ?_); refine goesL_ (some 7) rfl rfl func69 (by kernel_rfl) rfl #[.int .i64 a0, .int .u64 a1] rfl (by (try simp only [map_toArray, map_cons, map_nil]); first | done | rfl) ?_; (with_reducible refine (medlarref01_May.calls k a0 a1 true _ A3.out).mono ?_); rintro e w' ⟨rfl, ⟨nd, rfl⟩⟩; refine ⟨_, rfl, ?_⟩))
   go_ret
   exact ⟨by first | rfl | (simp; done) | (simp [*]; done), by repeat (first | exact Drawn0.refl _ | apply Drawn0.step)⟩
  ·replace c4 := Bool.eq_false_iff.mpr c4
   subst c4
   have H1 : (some 1) = some r := by rw [if_neg (show ¬ (false = true) by decide)] at H; exact H
   clear H
   have H := H1
   clear H1
   obtain rfl := Option.some.inj H
   go_enter func46, ntmps46
   go_wp2_with (first | ((with_reducible refine gate_callee (f := 69) rfl ?_); refine goesL_ (some 7) rfl rfl func69 (by kernel_rfl) rfl #[.int .i64 a0, .int .u64 a1] rfl (by (try simp only [map_toArray, map_cons, map_nil]); first | done | rfl) ?_; (with_reducible refine (medlarref01_May.calls k a0 a1 false _ A3.out).mono ?_); rintro e w' ⟨rfl, ⟨nd, rfl⟩⟩; refine ⟨_, rfl, ?_⟩))
   go_ret
   exact ⟨by first | rfl | (simp; done) | (simp [*]; done), by repeat (first | exact Drawn0.refl _ | apply Drawn0.step)⟩
def medlarref01_Leaf.j0 : Nat → Int → Int → Bool → Option (Int × Int)
  | 0, _, _, _ => none
  | k + 1, x0, x1, x11 => if x11 = true then (some (0, 1)) else ((medlarref01_power.f k x0).bind fun t242 => (if x1 ≥ t242 then (some (0, 4)) else ((medlarref01_power.f k x0).bind fun t243 => (some (IntKind.u64.wrap (t243 + x1), 0)))))
def medlarref01_Leaf.f (k : Nat) (a0 : Int) (a1 : Int) : Option (Int × Int) := if a0 < 1 then (medlarref01_Leaf.j0 k a0 a1 true) else (medlarref01_Leaf.j0 k a0 a1 (decide (a0 > 32)))
set_option maxHeartbeats 8000000 in
set_option maxRecDepth 100000 in
theorem medlarref01_Leaf.calls (k : Nat) (a0 : Int) (a1 : Int) (r1 : Int) (r2 : Int) (w : World) (h : medlarref01_Leaf.f k a0 a1 = some (r1, r2)) :
   Calls Try.prog 70 #[.int .i64 a0, .int .u64 a1] w fun e w' => e = .returned (.tuple #[.int .u64 r1, .int .i64 r2]) ∧ Drawn0 w w' := by
  have H : (if a0 < 1 then (medlarref01_Leaf.j0 k a0 a1 true) else (medlarref01_Leaf.j0 k a0 a1 (decide (a0 > 32)))) = some (r1, r2) := h
  clear h
  have HC3 := ak_ H
  clear H
  go_enter func70, ntmps70
  go_upto_region 1 with (fail)
  go_cut [11] (fun v11 wc => ∃ (kq : Nat) (x11_2 : Bool), v11 = .bool x11_2 ∧ Aside0 (medlarref01_Leaf.j0 kq a0 a1 x11_2 = some (r1, r2)) ∧ Aside0 (kq ≤ k) ∧ Drawn0 w wc)
  case first =>
   have H := HC3.out
   clear HC3
   by_cases c4 : a0 < 1
   ·rw [if_pos c4] at H
    have c4b0 := decide_eq_true c4
    clear c4
    (first | rw [c4b0] | (simp only [i64_w, i32_w]; rw [c4b0]) | skip)
    have H' := ak_ H
    clear H
    go_wp2
    go_meet
    case rel => exact ⟨_, (true), (by first | rfl | (simp; done) | (simp [*]; done)), H', ⟨by first | omega | exact Nat.le_refl _⟩, by repeat (first | exact Drawn0.refl _ | apply Drawn0.step)⟩
   ·rw [if_neg c4] at H
    have c4b0 := decide_eq_false c4
    clear c4
    (first | rw [c4b0] | (simp only [i64_w, i32_w]; rw [c4b0]) | skip)
    have H' := ak_ H
    clear H
    go_wp2
    go_meet
    case rel => exact ⟨_, (decide (a0 > 32)), (by first | rfl | (simp; done) | (simp [*]; done)), H', ⟨by first | omega | exact Nat.le_refl _⟩, by repeat (first | exact Drawn0.refl _ | apply Drawn0.step)⟩
  case rest =>
   clear HC3
   try clear p2
   try clear c4
   try clear c4b0
   obtain ⟨kq, x11_2, rfl, HA, HJ2, ⟨mc2, rfl⟩⟩ := hcut
   cases kq with
   | zero => exact absurd HA.out (by simp [medlarref01_Leaf.j0])
   | succ kj2 =>
    have H := HA.out
    clear HA
    simp only [medlarref01_Leaf.j0] at H
    by_cases c5 : x11_2 = true
    ·subst c5
     have H1 : (some (0, 1)) = some (r1, r2) := by rw [if_pos rfl] at H; exact H
     clear H
     have H := H1
     clear H1
     simp only [some.injEq, Prod.mk.injEq] at H
     obtain ⟨rfl, rfl⟩ := H
     go_wp2
     go_ret2
     exact ⟨by first | rfl | (simp; done) | (simp [*]; done), by repeat (first | exact Drawn0.refl _ | apply Drawn0.step)⟩
    ·replace c5 := Bool.eq_false_iff.mpr c5
     subst c5
     have H1 : ((medlarref01_power.f kj2 a0).bind fun t242 => (if a1 ≥ t242 then (some (0, 4)) else ((medlarref01_power.f kj2 a0).bind fun t243 => (some (IntKind.u64.wrap (t243 + a1), 0))))) = some (r1, r2) := by rw [if_neg (show ¬ (false = true) by decide)] at H; exact H
     clear H
     have H := H1
     clear H1
     replace H := bind_eq_some_iff.mp H
     obtain ⟨t242, A60, H⟩ := H
     replace H : (if a1 ≥ t242 then (some (0, 4)) else ((medlarref01_power.f kj2 a0).bind fun t243 => (some (IntKind.u64.wrap (t243 + a1), 0)))) = some (r1, r2) := H
     have A6 := ak_ A60
     clear A60
     by_cases c7 : a1 ≥ t242
     ·rw [if_pos c7] at H
      have c7b0 : decide (t242 ≤ a1) = true := decide_eq_true c7
      clear c7
      simp only [some.injEq, Prod.mk.injEq] at H
      obtain ⟨rfl, rfl⟩ := H
      go_wp2_with (first | ((with_reducible refine gate_callee (f := 94) rfl ?_); refine goesL_ (some 14) rfl rfl func94 (by kernel_rfl) rfl #[.int .i64 a0] rfl (by (try simp only [map_toArray, map_cons, map_nil]); first | done | rfl) ?_; (with_reducible refine (medlarref01_power.calls kj2 a0 t242 _ A6.out).mono ?_); rintro e w' ⟨rfl, ⟨nd, rfl⟩⟩; refine ⟨_, rfl, ?_⟩))
      go_ret2
      exact ⟨by first | rfl | (simp; done) | (simp [*]; done), by repeat (first | exact Drawn0.refl _ | apply Drawn0.step)⟩
     ·rw [if_neg c7] at H
      have c7b0 : decide (t242 ≤ a1) = false := decide_eq_false c7
      clear c7
      replace H := bind_eq_some_iff.mp H
      obtain ⟨t243, A80, H⟩ := H
      replace H : (some (IntKind.u64.wrap (t243 + a1), 0)) = some (r1, r2) := H
      have A8 := ak_ A80
      clear A80
      simp only [some.injEq, Prod.mk.injEq] at H
      obtain ⟨rfl, rfl⟩ := H
      go_wp2_with (first | ((with_reducible refine gate_callee (f := 94) rfl ?_); refine goesL_ (some 14) rfl rfl func94 (by kernel_rfl) rfl #[.int .i64 a0] rfl (by (try simp only [map_toArray, map_cons, map_nil]); first | done | rfl) ?_; (with_reducible refine (medlarref01_power.calls kj2 a0 t242 _ A6.out).mono ?_); rintro e w' ⟨rfl, ⟨nd, rfl⟩⟩; refine ⟨_, rfl, ?_⟩) | ((with_reducible refine gate_callee (f := 94) rfl ?_); refine goesL_ (some 17) rfl rfl func94 (by kernel_rfl) rfl #[.int .i64 a0] rfl (by (try simp only [map_toArray, map_cons, map_nil]); first | done | rfl) ?_; (with_reducible refine (medlarref01_power.calls kj2 a0 t243 _ A8.out).mono ?_); rintro e w' ⟨rfl, ⟨nd, rfl⟩⟩; refine ⟨_, rfl, ?_⟩))
      go_ret2
      exact ⟨by first | rfl | (simp; done) | (simp [*]; done), by repeat (first | exact Drawn0.refl _ | apply Drawn0.step)⟩
def medlarref02_Is.f (k : Nat) (a0 : Int) (a1 : Int) : Option (Bool) := (medlarref01_Leaf.f k a0 a1).bind fun bt244 => (some (bt244.2 == 0))
set_option maxHeartbeats 8000000 in
set_option maxRecDepth 100000 in
theorem medlarref02_Is.calls (k : Nat) (a0 : Int) (a1 : Int) (r : Bool) (w : World) (h : medlarref02_Is.f k a0 a1 = some r) :
   Calls Try.prog 68 #[.int .i64 a0, .int .u64 a1] w fun e w' => e = .returned (.bool r) ∧ Drawn0 w w' := by
  have H : ((medlarref01_Leaf.f k a0 a1).bind fun bt244 => (some (bt244.2 == 0))) = some r := h
  clear h
  replace H := bind_eq_some_iff.mp H
  obtain ⟨⟨t244, t245⟩, A30, H⟩ := H
  replace H : (some (t245 == 0)) = some r := H
  have A3 := ak_ A30
  clear A30
  obtain rfl := Option.some.inj H
  go_enter func68, ntmps68
  go_wp2_with (first | ((with_reducible refine gate_callee (f := 70) rfl ?_); refine goesL_ (some 10) rfl rfl func70 (by kernel_rfl) rfl #[.int .i64 a0, .int .u64 a1] rfl (by (try simp only [map_toArray, map_cons, map_nil]); first | done | rfl) ?_; (with_reducible refine (medlarref01_Leaf.calls k a0 a1 t244 t245 _ A3.out).mono ?_); rintro e w' ⟨rfl, ⟨nd, rfl⟩⟩; refine ⟨_, rfl, ?_⟩))
  go_ret
  exact ⟨by first | rfl | (simp; done) | (simp [*]; done), by repeat (first | exact Drawn0.refl _ | apply Drawn0.step)⟩
mutual
def medlarref02_Check.j0 : Nat → Int → List Int → Bool → Option (Int)
  | 0, _, _, _ => none
  | k + 1, x0, x1, x14 => if x14 = true then (some 1) else (medlarref02_Check.l0 k x0 x1 x1 (x1.length : Int) 0)
def medlarref02_Check.l0 : Nat → Int → List Int → List Int → Int → Int → Option (Int)
  | 0, _, _, _, _, _ => none
  | k + 1, x0, x1, x15, x16, x17 => if x17 < x16 then (if 0 ≤ x17 then (if x17 < (x15.length : Int) then ((medlarref02_Is.f k x0 (rd x15 x17)).bind fun t248 => (if t248 = true then (if x17 > 0 then (if 0 ≤ (wrap64 (x17 - 1)) then (if (wrap64 (x17 - 1)) < (x1.length : Int) then (if (rd x1 (wrap64 (x17 - 1))) ≥ (rd x15 x17) then (some 1) else (medlarref02_Check.l0 k x0 x1 x15 x16 (wrap64 (x17 + 1)))) else (none)) else (none)) else (medlarref02_Check.l0 k x0 x1 x15 x16 (wrap64 (x17 + 1)))) else (some 1))) else (none)) else (none)) else (some 0)
end
def medlarref02_Check.f (k : Nat) (a0 : Int) (l1 : List Int) : Option (Int) := (medlarref01_Check.f k a0 1).bind fun t246 => (if t246 = 0 then (medlarref02_Check.j0 k a0 l1 (decide ((l1.length : Int) > 1024))) else (medlarref02_Check.j0 k a0 l1 true))
set_option maxHeartbeats 8000000 in
set_option maxRecDepth 100000 in
theorem medlarref02_Check.calls (k : Nat) (a0 : Int) (A1 : Option Addr) (c1 : Nat) (l1 : List Int) (r : Int) (w : World) (hr1 : Kd.C (Kd.int .u64) w A1 l1.length l1) (hc1 : l1.length ≤ c1) (h : medlarref02_Check.f k a0 l1 = some r) :
   Calls Try.prog 42 #[.int .i64 a0, .slice A1 l1.length c1] w fun e w' => e = .returned (.int .i64 r) ∧ Drawn0 w w' := by
  have HR1 := ak_ hr1
  have HC1 := ak_ hc1
  clear hr1 hc1
  have H : ((medlarref01_Check.f k a0 1).bind fun t246 => (if t246 = 0 then (medlarref02_Check.j0 k a0 l1 (decide ((l1.length : Int) > 1024))) else (medlarref02_Check.j0 k a0 l1 true))) = some r := h
  clear h
  have HC3 := ak_ H
  clear H
  go_enter func42, ntmps42
  go_upto_region 1 with (fail)
  go_cut [14] (fun v14 wc => ∃ (kq : Nat) (x14_2 : Bool), v14 = .bool x14_2 ∧ Aside0 (medlarref02_Check.j0 kq a0 l1 x14_2 = some r) ∧ Aside0 (kq ≤ k) ∧ Drawn0 w wc)
  case first =>
   have H := HC3.out
   clear HC3
   replace H := bind_eq_some_iff.mp H
   obtain ⟨t246, A40, H⟩ := H
   replace H : (if t246 = 0 then (medlarref02_Check.j0 k a0 l1 (decide ((l1.length : Int) > 1024))) else (medlarref02_Check.j0 k a0 l1 true)) = some r := H
   have A4 := ak_ A40
   clear A40
   by_cases c5 : t246 = 0
   ·rw [if_pos c5] at H
    have c5b0 : (t246 == 0) = true := beq_iff_eq.mpr c5
    have c5b1 : (t246 != 0) = false := bne_eq_false_iff_eq.mpr c5
    clear c5
    (first | rw [c5b0] | (simp only [i64_w, i32_w]; rw [c5b0]) | skip)
    have H' := ak_ H
    clear H
    go_wp2_with (first | ((with_reducible refine gate_callee (f := 46) rfl ?_); refine goesL_ (some 8) rfl rfl func46 (by kernel_rfl) rfl #[.int .i64 a0, .int .u64 1] rfl (by (try simp only [map_toArray, map_cons, map_nil]); first | done | rfl) ?_; (with_reducible refine (medlarref01_Check.calls k a0 1 t246 _ A4.out).mono ?_); rintro e w' ⟨rfl, ⟨nd, rfl⟩⟩; refine ⟨_, rfl, ?_⟩))
    go_meet
    case rel => exact ⟨_, (decide ((l1.length : Int) > 1024)), (by first | rfl | (simp; done) | (simp [*]; done)), H', ⟨by first | omega | exact Nat.le_refl _⟩, by repeat (first | exact Drawn0.refl _ | apply Drawn0.step)⟩
   ·rw [if_neg c5] at H
    have c5b0 : (t246 == 0) = false := beq_eq_false_iff_ne.mpr c5
    have c5b1 : (t246 != 0) = true := bne_iff_ne.mpr c5
    (first | rw [c5b0] | (simp only [i64_w, i32_w]; rw [c5b0]) | skip)
    have H' := ak_ H
    clear H
    go_wp2_with (first | ((with_reducible refine gate_callee (f := 46) rfl ?_); refine goesL_ (some 8) rfl rfl func46 (by kernel_rfl) rfl #[.int .i64 a0, .int .u64 1] rfl (by (try simp only [map_toArray, map_cons, map_nil]); first | done | rfl) ?_; (with_reducible refine (medlarref01_Check.calls k a0 1 t246 _ A4.out).mono ?_); rintro e w' ⟨rfl, ⟨nd, rfl⟩⟩; refine ⟨_, rfl, ?_⟩))
    go_meet
    case rel => exact ⟨_, (true), (by first | rfl | (simp; done) | (simp [*]; done)), H', ⟨by first | omega | exact Nat.le_refl _⟩, by repeat (first | exact Drawn0.refl _ | apply Drawn0.step)⟩
  case rest =>
   clear HC3
   try clear c1
   try clear p2
   try clear c4
   try clear c5
   try clear c5b0
   try clear c5b1
   obtain ⟨kq, x14_2, rfl, HA, HJ2, ⟨mc2, rfl⟩⟩ := hcut
   cases kq with
   | zero => exact absurd HA.out (by simp [medlarref02_Check.j0])
   | succ kj2 =>
    have H := HA.out
    clear HA
    simp only [medlarref02_Check.j0] at H
    by_cases c6 : x14_2 = true
    ·subst c6
     have H1 : (some 1) = some r := by rw [if_pos rfl] at H; exact H
     clear H
     have H := H1
     clear H1
     obtain rfl := Option.some.inj H
     go_wp2
     go_ret
     exact ⟨by first | rfl | (simp; done) | (simp [*]; done), by repeat (first | exact Drawn0.refl _ | apply Drawn0.step)⟩
    ·replace c6 := Bool.eq_false_iff.mpr c6
     subst c6
     have H1 : (medlarref02_Check.l0 kj2 a0 l1 l1 (l1.length : Int) 0) = some r := by rw [if_neg (show ¬ (false = true) by decide)] at H; exact H
     clear H
     have H := H1
     clear H1
     have H' := ak_ H
     clear H
     go_wp2
     go_loopg [17] kj2 (fun kq v17 w' => ∃ (x17_2 : Int), v17 = .int .i64 x17_2 ∧ Aside0 (medlarref02_Check.l0 kq a0 l1 l1 (l1.length : Int) x17_2 = some r) ∧ Aside0 (kq ≤ kj2) ∧ Drawn0 w w')
     case atStart => exact ⟨(0), (by first | rfl | (simp; done) | (simp [*]; done)), H', ⟨Nat.le_refl _⟩, by repeat (first | exact Drawn0.refl _ | apply Drawn0.step)⟩
     case round =>
      clear H'
      try clear c1
      try clear c2
      try clear p2
      try clear c4
      try clear c5
      try clear c5b0
      try clear c5b1
      try clear c6
      try clear p2
      obtain ⟨x17_2, rfl, HA, HK2, ⟨m2, rfl⟩⟩ := hrel
      cases gk with
      | zero => exact absurd HA.out (by simp [medlarref02_Check.l0])
      | succ k2 =>
       have H := HA.out
       clear HA
       simp only [medlarref02_Check.l0] at H
       by_cases c7 : x17_2 < (l1.length : Int)
       ·rw [if_pos c7] at H
        have c7b0 := decide_eq_true c7
        clear c7
        by_cases c8 : 0 ≤ x17_2
        ·rw [if_pos c8] at H
         have c8b0 := decide_eq_true c8
         clear c8
         by_cases c9 : x17_2 < (l1.length : Int)
         ·rw [if_pos c9] at H
          have c9b0 := decide_eq_true c9
          clear c9
          replace H := bind_eq_some_iff.mp H
          obtain ⟨t248, A100, H⟩ := H
          replace H : (if t248 = true then (if x17_2 > 0 then (if 0 ≤ (wrap64 (x17_2 - 1)) then (if (wrap64 (x17_2 - 1)) < (l1.length : Int) then (if (rd l1 (wrap64 (x17_2 - 1))) ≥ (rd l1 x17_2) then (some 1) else (medlarref02_Check.l0 k2 a0 l1 l1 (l1.length : Int) (wrap64 (x17_2 + 1)))) else (none)) else (none)) else (medlarref02_Check.l0 k2 a0 l1 l1 (l1.length : Int) (wrap64 (x17_2 + 1)))) else (some 1)) = some r := H
          have A10 := ak_ A100
          clear A100
          by_cases c11 : t248 = true
          ·subst c11
           have H1 : (if x17_2 > 0 then (if 0 ≤ (wrap64 (x17_2 - 1)) then (if (wrap64 (x17_2 - 1)) < (l1.length : Int) then (if (rd l1 (wrap64 (x17_2 - 1))) ≥ (rd l1 x17_2) then (some 1) else (medlarref02_Check.l0 k2 a0 l1 l1 (l1.length : Int) (wrap64 (x17_2 + 1)))) else (none)) else (none)) else (medlarref02_Check.l0 k2 a0 l1 l1 (l1.length : Int) (wrap64 (x17_2 + 1)))) = some r := by rw [if_pos rfl] at H; exact H
           clear H
           have H := H1
           clear H1
           by_cases c12 : x17_2 > 0
           ·rw [if_pos c12] at H
            have c12b0 : decide (0 < x17_2) = true := decide_eq_true c12
            clear c12
            obtain ⟨ji13, hji13⟩ : ∃ j_ : Int, (wrap64 (x17_2 - 1)) = j_ := ⟨_, rfl⟩
            replace H : (if 0 ≤ (ji13) then (if (ji13) < (l1.length : Int) then (if (rd l1 (ji13)) ≥ (rd l1 x17_2) then (some 1) else (medlarref02_Check.l0 k2 a0 l1 l1 (l1.length : Int) (wrap64 (x17_2 + 1)))) else (none)) else (none)) = some r := by first | (rw [hji13] at H; exact H) | (simp only [hji13] at H ⊢; exact H)
            (try rw [hji13] at A10)
            have hji13w : (IntKind.i64.wrap (x17_2 - 1)) = ji13 := (i64_w _).trans hji13
            by_cases c14 : 0 ≤ (ji13)
            ·rw [if_pos c14] at H
             have c14b0 := decide_eq_true c14
             clear c14
             by_cases c15 : (ji13) < (l1.length : Int)
             ·rw [if_pos c15] at H
              have c15b0 := decide_eq_true c15
              clear c15
              by_cases c16 : (rd l1 (ji13)) ≥ (rd l1 x17_2)
              ·rw [if_pos c16] at H
               have c16b0 : decide ((rd l1 x17_2) ≤ (rd l1 (ji13))) = true := decide_eq_true c16
               clear c16
               obtain rfl := Option.some.inj H
               have p247 : 0 ≤ (x17_2 : Int) := od_ (by first | (with_reducible assumption) | assumption)
               have q247 : x17_2 < (l1.length : Int) := od_ (by first | (with_reducible assumption) | assumption)
               obtain ⟨ad247, e247, hx247_0⟩ := Kd.at_int HR1.out x17_2 p247 q247
               cases e247
               replace p247 := eq_true p247
               replace q247 := eq_true q247
               go_wp2_with (first | ((with_reducible refine gate_callee (f := 68) rfl ?_); refine goesL_ (some 24) rfl rfl func68 (by kernel_rfl) rfl #[.int .i64 a0, .int .u64 (rd l1 x17_2)] rfl (by (try simp only [map_toArray, map_cons, map_nil]); first | done | rfl) ?_; (with_reducible refine (medlarref02_Is.calls k2 a0 (rd l1 x17_2) true _ A10.out).mono ?_); rintro e w' ⟨rfl, ⟨nd, rfl⟩⟩; refine ⟨_, rfl, ?_⟩; have p249 : 0 ≤ ((ji13) : Int) := od_ (by first | (with_reducible assumption) | assumption); have q249 : (ji13) < (l1.length : Int) := od_ (by first | (with_reducible assumption) | assumption); obtain ⟨ad249, e249, hx249_0⟩ := Kd.at_int HR1.out (ji13) p249 q249; obtain rfl : ad247 = ad249 := (by injection e249); replace p249 := eq_true p249; replace q249 := eq_true q249))
               go_ret
               exact ⟨by first | rfl | (simp; done) | (simp only [← hji13] <;> (first | rfl | simp)) | (simp [*]; done), by repeat (first | exact Drawn0.refl _ | apply Drawn0.step)⟩
              ·rw [if_neg c16] at H
               have c16b0 : decide ((rd l1 x17_2) ≤ (rd l1 (ji13))) = false := decide_eq_false c16
               clear c16
               have H' := ak_ H
               clear H
               have p247 : 0 ≤ (x17_2 : Int) := od_ (by first | (with_reducible assumption) | assumption)
               have q247 : x17_2 < (l1.length : Int) := od_ (by first | (with_reducible assumption) | assumption)
               obtain ⟨ad247, e247, hx247_0⟩ := Kd.at_int HR1.out x17_2 p247 q247
               cases e247
               replace p247 := eq_true p247
               replace q247 := eq_true q247
               go_wp2_with (first | ((with_reducible refine gate_callee (f := 68) rfl ?_); refine goesL_ (some 24) rfl rfl func68 (by kernel_rfl) rfl #[.int .i64 a0, .int .u64 (rd l1 x17_2)] rfl (by (try simp only [map_toArray, map_cons, map_nil]); first | done | rfl) ?_; (with_reducible refine (medlarref02_Is.calls k2 a0 (rd l1 x17_2) true _ A10.out).mono ?_); rintro e w' ⟨rfl, ⟨nd, rfl⟩⟩; refine ⟨_, rfl, ?_⟩; have p249 : 0 ≤ ((ji13) : Int) := od_ (by first | (with_reducible assumption) | assumption); have q249 : (ji13) < (l1.length : Int) := od_ (by first | (with_reducible assumption) | assumption); obtain ⟨ad249, e249, hx249_0⟩ := Kd.at_int HR1.out (ji13) p249 q249; obtain rfl : ad247 = ad249 := (by injection e249); replace p249 := eq_true p249; replace q249 := eq_true q249))
               go_roundg k2
               case measure => have := HJ2.out; have := HK2.out; omega
               case rel => exact ⟨(wrap64 (x17_2 + 1)), (by first | rfl | (simp; done) | (simp [*]; done)), H', ⟨by have := HJ2.out; have := HK2.out; omega⟩, by repeat (first | exact Drawn0.refl _ | apply Drawn0.step)⟩
             ·rw [if_neg c15] at H
              exact absurd H (by simp)
            ·rw [if_neg c14] at H
             exact absurd H (by simp)
           ·rw [if_neg c12] at H
            have c12b0 : decide (0 < x17_2) = false := decide_eq_false c12
            clear c12
            have H' := ak_ H
            clear H
            have p247 : 0 ≤ (x17_2 : Int) := od_ (by first | (with_reducible assumption) | assumption)
            have q247 : x17_2 < (l1.length : Int) := od_ (by first | (with_reducible assumption) | assumption)
            obtain ⟨ad247, e247, hx247_0⟩ := Kd.at_int HR1.out x17_2 p247 q247
            cases e247
            replace p247 := eq_true p247
            replace q247 := eq_true q247
            go_wp2_with (first | ((with_reducible refine gate_callee (f := 68) rfl ?_); refine goesL_ (some 24) rfl rfl func68 (by kernel_rfl) rfl #[.int .i64 a0, .int .u64 (rd l1 x17_2)] rfl (by (try simp only [map_toArray, map_cons, map_nil]); first | done | rfl) ?_; (with_reducible refine (medlarref02_Is.calls k2 a0 (rd l1 x17_2) true _ A10.out).mono ?_); rintro e w' ⟨rfl, ⟨nd, rfl⟩⟩; refine ⟨_, rfl, ?_⟩))
            go_roundg k2
            case measure => have := HJ2.out; have := HK2.out; omega
            case rel => exact ⟨(wrap64 (x17_2 + 1)), (by first | rfl | (simp; done) | (simp [*]; done)), H', ⟨by have := HJ2.out; have := HK2.out; omega⟩, by repeat (first | exact Drawn0.refl _ | apply Drawn0.step)⟩
          ·replace c11 := Bool.eq_false_iff.mpr c11
           subst c11
           have H1 : (some 1) = some r := by rw [if_neg (show ¬ (false = true) by decide)] at H; exact H
           clear H
           have H := H1
           clear H1
           obtain rfl := Option.some.inj H
           have p247 : 0 ≤ (x17_2 : Int) := od_ (by first | (with_reducible assumption) | assumption)
           have q247 : x17_2 < (l1.length : Int) := od_ (by first | (with_reducible assumption) | assumption)
           obtain ⟨ad247, e247, hx247_0⟩ := Kd.at_int HR1.out x17_2 p247 q247
           cases e247
           replace p247 := eq_true p247
           replace q247 := eq_true q247
           go_wp2_with (first | ((with_reducible refine gate_callee (f := 68) rfl ?_); refine goesL_ (some 24) rfl rfl func68 (by kernel_rfl) rfl #[.int .i64 a0, .int .u64 (rd l1 x17_2)] rfl (by (try simp only [map_toArray, map_cons, map_nil]); first | done | rfl) ?_; (with_reducible refine (medlarref02_Is.calls k2 a0 (rd l1 x17_2) false _ A10.out).mono ?_); rintro e w' ⟨rfl, ⟨nd, rfl⟩⟩; refine ⟨_, rfl, ?_⟩))
           go_ret
           exact ⟨by first | rfl | (simp; done) | (simp [*]; done), by repeat (first | exact Drawn0.refl _ | apply Drawn0.step)⟩
         ·rw [if_neg c9] at H
          exact absurd H (by simp)
        ·rw [if_neg c8] at H
         exact absurd H (by simp)
       ·rw [if_neg c7] at H
        have c7b0 := decide_eq_false c7
        clear c7
        obtain rfl := Option.some.inj H
        go_wp2
        go_ret
        exact ⟨by first | rfl | (simp; done) | (simp [*]; done), by repeat (first | exact Drawn0.refl _ | apply Drawn0.step)⟩
def medlarref01_Chain.f : Nat → Int → Option (List Int)
  | 0, _ => none
  | k + 1, a0 => if a0 = 1 then (some (([1] : List Int))) else ((medlarref01_Chain.f k (IntKind.u64.wrap (Int.tdiv a0 2))).bind fun t253 => (if t253.length < 17592186044416 then (some (t253 ++ [a0])) else (none)))
set_option maxHeartbeats 8000000 in
set_option maxRecDepth 100000 in
theorem medlarref01_Chain.calls (k : Nat) : ∀ (a0 : Int) (r : List Int) (w : World) (h : medlarref01_Chain.f k a0 = some r),
   Calls Try.prog 75 #[.int .u64 a0] w fun e w' => ∃ v0_ : Value, e = .returned (v0_) ∧ Kd.R (Kd.int .u64) 22 w' w.heap.size (fun _ => True) v0_ r ∧ Below w.heap.size w w' := by
  induction k using Nat.strongRecOn with
  | _ k ih =>
  intro a0 r w h
  cases k with
  | zero => exact absurd h (by simp [medlarref01_Chain.f])
  | succ k =>
  simp only [medlarref01_Chain.f] at h
  have HB := ak_ (Below.refl w.heap.size w)
  have H : (if a0 = 1 then (some (([1] : List Int))) else ((medlarref01_Chain.f k (IntKind.u64.wrap (Int.tdiv a0 2))).bind fun t253 => (if t253.length < 17592186044416 then (some (t253 ++ [a0])) else (none)))) = some r := h
  clear h
  by_cases c2 : a0 = 1
  ·rw [if_pos c2] at H
   have c2b0 : (a0 == 1) = true := beq_iff_eq.mpr c2
   have c2b1 : (a0 != 1) = false := bne_eq_false_iff_eq.mpr c2
   clear c2
   obtain ⟨y250, hy250⟩ : ∃ y_ : List Int, y_ = (([1] : List Int)) := ⟨_, rfl⟩
   replace H : (some y250) = some r := by first | (rw [hy250]; with_reducible exact H) | (have H2_ := (Option.bind_some _ _).symm.trans H; rw [hy250]; with_reducible exact H2_) | (have H2_ := (Option.bind_some _ _).symm.trans H; with_reducible exact H2_) | with_reducible exact H | (rw [hy250]; exact H) | exact H
   have Ny250 := ak_ hy250
   clear hy250
   obtain rfl := Option.some.inj H
   go_enter func75, ntmps75
   go_wp2_with (first | ((with_reducible refine gate_dst (N := 5) rfl ?_); refine Kd.R_lit (Kd.int .u64) _ 22 ?hg (N := 5) ?hd (xs := ([1] : List Int)) (inner := [.int .u64 1]) (ok := fun _ => True) (okp := fun _ => True) ?hr ?hp (fun _ hk => hk) trivial (Below.refl _ _) (Nat.le_refl _) (by simp) ?_; (case hd => rfl); (case hg => rfl); (case hr => first | (go_simp; done) | (go_simp; rfl)); (case hp => exact (Reps.one (show Kd.M (Kd.int .u64) _ _ _ 1 [.int .u64 1] from rfl) (Reps.none _ _))); intro v251 w3 ho4 hb hg_ hnew_; clear hg_ hnew_; (first | rw [← Ny250.out] at ho4 | (simp only [Int.reduceToNat] at ho4; rw [← Ny250.out] at ho4)); have n0_ := ak_ (Kd.R_lower ho4 (bz_ (bl_ HB))); have n1_ := ak_ (bt_ (bl_ HB) hb); clear HB; have HO252 := n0_; have HB := n1_; clear n0_ n1_; clear hb ho4))
   go_ret
   exact ⟨_, by first | rfl | (simp <;> rfl) | (simp [*] <;> rfl), by (with_reducible repeat (first | apply Kd.R_alloc | apply Kd.R_drewN | apply Kd.R_drew)); exact HO252.out, bl_ HB⟩
  ·rw [if_neg c2] at H
   have c2b0 : (a0 == 1) = false := beq_eq_false_iff_ne.mpr c2
   have c2b1 : (a0 != 1) = true := bne_iff_ne.mpr c2
   replace H := bind_eq_some_iff.mp H
   obtain ⟨t253, A50, H⟩ := H
   replace H : (if t253.length < 17592186044416 then (some (t253 ++ [a0])) else (none)) = some r := H
   have A5 := ak_ A50
   clear A50
   by_cases c6 : t253.length < 17592186044416
   ·rw [if_pos c6] at H
    have LMc6 := ak_ c6
    clear c6
    obtain ⟨y256, hy256⟩ : ∃ y_ : List Int, y_ = (t253 ++ [a0]) := ⟨_, rfl⟩
    replace H : (some y256) = some r := by first | (rw [hy256]; with_reducible exact H) | (have H2_ := (Option.bind_some _ _).symm.trans H; rw [hy256]; with_reducible exact H2_) | (have H2_ := (Option.bind_some _ _).symm.trans H; with_reducible exact H2_) | with_reducible exact H | (rw [hy256]; exact H) | exact H
    have Ny256 := ak_ hy256
    clear hy256
    obtain rfl := Option.some.inj H
    go_enter func75, ntmps75
    go_wp2_with (first | ((with_reducible refine gate_callee (f := 75) rfl ?_); refine goesL_ (some 8) rfl rfl func75 (by kernel_rfl) rfl #[.int .u64 (IntKind.u64.wrap (Int.tdiv a0 2))] rfl (by (try simp only [map_toArray, map_cons, map_nil]); first | done | rfl) ?_; (with_reducible refine (ih k (by omega) (IntKind.u64.wrap (Int.tdiv a0 2)) t253 _ A5.out).mono ?_); rintro e w7 ⟨v254, rfl, ho0, hb⟩; refine ⟨_, rfl, ?_⟩; have n0_ := ak_ (Kd.R_lower ho0 (bz_ (bl_ HB))); have n1_ := ak_ (bt_ (bl_ HB) hb); clear HB; have HO255 := n0_; have HB := n1_; clear n0_ n1_; (try clear hb); (try clear hk); (try clear ho0)) | ((with_reducible refine gate_builtin (b := .append) (xs := #[.tmp 8, .tmp 10]) rfl ?_); at_builtin; refine Kd.R_append (Kd.int .u64) (w0 := w) w.heap.size rfl (.tmp 8) (.tmp 10) 39 22 (.int .u64 0) 8 rfl underlying39 info22 rfl (by decide) (by omega) v254 t253 a0 [.int .u64 a0] (fun _ => True) (fun _ => False) rfl rfl ?aP (fun _ hk => hk.elim) ?aF ?aO ?aB ?aS ?aL ?_; (case aP => exact rfl); (case aB => exact (bl_ HB)); (case aF => exact (fun _ _ => trivial)); (case aO => exact (rl_ HO255)); (case aS => exact (bz_ (bl_ HB))); (case aL => have := LMc6.out; omega); intro v257 w8 ho hb hg hat; rw [← Ny256.out] at ho; have n0_ := ak_ (hb); have n1_ := ak_ (ho); clear HB; clear HO255; have HB := n0_; have HO258 := n1_; clear n0_ n1_; clear ho hb hg hat))
    go_ret
    exact ⟨_, by first | rfl | (simp <;> rfl) | (simp [*] <;> rfl), by (with_reducible repeat (first | apply Kd.R_alloc | apply Kd.R_drewN | apply Kd.R_drew)); exact HO258.out, bl_ HB⟩
   ·rw [if_neg c6] at H
    exact absurd H (by simp)
def medlarref01_Is.l0 : Nat → Int → List Int → Int → Int → Option (Bool)
  | 0, _, _, _, _ => none
  | k + 1, x0, x8, x9, x10 => if x10 < x9 then (if 0 ≤ x10 then (if x10 < (x8.length : Int) then (if (rd x8 x10) = x0 then (some true) else (medlarref01_Is.l0 k x0 x8 x9 (wrap64 (x10 + 1)))) else (none)) else (none)) else (some false)
def medlarref01_Is.f (k : Nat) (a0 : Int) (a1 : Int) : Option (Bool) := (medlarref01_Chain.f k a1).bind fun t259 => (medlarref01_Is.l0 k a0 t259 (t259.length : Int) 0)
set_option maxHeartbeats 8000000 in
set_option maxRecDepth 100000 in
theorem medlarref01_Is.calls (k : Nat) (a0 : Int) (a1 : Int) (r : Bool) (w : World) (h : medlarref01_Is.f k a0 a1 = some r) :
   Calls Try.prog 52 #[.int .u64 a0, .int .u64 a1] w fun e w' => e = .returned (.bool r) ∧ Below w.heap.size w w' := by
  have HB := ak_ (Below.refl w.heap.size w)
  have H : ((medlarref01_Chain.f k a1).bind fun t259 => (medlarref01_Is.l0 k a0 t259 (t259.length : Int) 0)) = some r := h
  clear h
  replace H := bind_eq_some_iff.mp H
  obtain ⟨t259, A30, H⟩ := H
  replace H : (medlarref01_Is.l0 k a0 t259 (t259.length : Int) 0) = some r := H
  have A3 := ak_ A30
  clear A30
  have H' := ak_ H
  clear H
  go_enter func52, ntmps52
  go_wp2_with (first | ((with_reducible refine gate_callee (f := 75) rfl ?_); refine goesL_ (some 8) rfl rfl func75 (by kernel_rfl) rfl #[.int .u64 a1] rfl (by (try simp only [map_toArray, map_cons, map_nil]); first | done | rfl) ?_; (with_reducible refine (medlarref01_Chain.calls k a1 t259 _ A3.out).mono ?_); rintro e w4 ⟨v260, rfl, ho0, hb⟩; refine ⟨_, rfl, ?_⟩; have n0_ := ak_ (Kd.R_lower ho0 (bz_ (bl_ HB))); have n1_ := ak_ (bt_ (bl_ HB) hb); clear HB; have HO261 := n0_; have HB := n1_; clear n0_ n1_; (try clear hb); (try clear hk); (try clear ho0); obtain ⟨Ao5, co5, eo5⟩ := Kd.R_slice HO261.out; subst eo5))
  go_loopg [10] k (fun kq v10 w' => ∃ (x10_1 : Int), v10 = .int .i64 x10_1 ∧ Aside0 (medlarref01_Is.l0 kq a0 t259 (t259.length : Int) x10_1 = some r) ∧ Aside0 (kq ≤ k) ∧ Aside0 (Kd.R (Kd.int .u64) 22 w' w.heap.size (fun _ => True) (.slice Ao5 t259.length co5) t259) ∧ Aside0 (Below w.heap.size w w'))
  case atStart => exact ⟨(0), (by first | rfl | (simp; done) | (simp [*]; done)), H', ⟨Nat.le_refl _⟩, ⟨rl_ HO261⟩, ⟨bl_ HB⟩⟩
  case round =>
   clear H'
   try clear p2
   try clear c5
   obtain ⟨x10_1, rfl, HA, HK1, HO_8, HB⟩ := hrel
   cases gk with
   | zero => exact absurd HA.out (by simp [medlarref01_Is.l0])
   | succ k1 =>
    have H := HA.out
    clear HA
    simp only [medlarref01_Is.l0] at H
    by_cases c6 : x10_1 < (t259.length : Int)
    ·rw [if_pos c6] at H
     have c6b0 := decide_eq_true c6
     clear c6
     by_cases c7 : 0 ≤ x10_1
     ·rw [if_pos c7] at H
      have c7b0 := decide_eq_true c7
      clear c7
      by_cases c8 : x10_1 < (t259.length : Int)
      ·rw [if_pos c8] at H
       have c8b0 := decide_eq_true c8
       clear c8
       by_cases c9 : (rd t259 x10_1) = a0
       ·rw [if_pos c9] at H
        have c9b0 : ((rd t259 x10_1) == a0) = true := beq_iff_eq.mpr c9
        have c9b1 : ((rd t259 x10_1) != a0) = false := bne_eq_false_iff_eq.mpr c9
        clear c9
        obtain rfl := Option.some.inj H
        have p262 : 0 ≤ (x10_1 : Int) := od_ (by first | (with_reducible assumption) | assumption)
        have q262 : x10_1 < (t259.length : Int) := od_ (by first | (with_reducible assumption) | assumption)
        obtain ⟨ad262, e262, hx262_0⟩ := Kd.at_int (Kd.R_reads' HO_8.out).2.2 x10_1 p262 q262
        cases e262
        replace p262 := eq_true p262
        replace q262 := eq_true q262
        go_wp2
        go_ret
        exact ⟨by first | rfl | (simp <;> rfl) | (simp [*] <;> rfl), bl_ HB⟩
       ·rw [if_neg c9] at H
        have c9b0 : ((rd t259 x10_1) == a0) = false := beq_eq_false_iff_ne.mpr c9
        have c9b1 : ((rd t259 x10_1) != a0) = true := bne_iff_ne.mpr c9
        have H' := ak_ H
        clear H
        have p262 : 0 ≤ (x10_1 : Int) := od_ (by first | (with_reducible assumption) | assumption)
        have q262 : x10_1 < (t259.length : Int) := od_ (by first | (with_reducible assumption) | assumption)
        obtain ⟨ad262, e262, hx262_0⟩ := Kd.at_int (Kd.R_reads' HO_8.out).2.2 x10_1 p262 q262
        cases e262
        replace p262 := eq_true p262
        replace q262 := eq_true q262
        go_wp2
        go_roundg k1
        case measure => have := HK1.out; omega
        case rel => exact ⟨(wrap64 (x10_1 + 1)), (by first | rfl | (simp; done) | (simp [*]; done)), H', ⟨by have := HK1.out; omega⟩, ⟨rl_ HO_8⟩, ⟨bl_ HB⟩⟩
      ·rw [if_neg c8] at H
       exact absurd H (by simp)
     ·rw [if_neg c7] at H
      exact absurd H (by simp)
    ·rw [if_neg c6] at H
     have c6b0 := decide_eq_false c6
     clear c6
     obtain rfl := Option.some.inj H
     go_wp2
     go_ret
     exact ⟨by first | rfl | (simp <;> rfl) | (simp [*] <;> rfl), bl_ HB⟩
def medlarref08_Check.f (k : Nat) (a0 : Int) (a1_0 : Int) (a1_1 : Int) : Option (Int) := (medlarref01_May.f k a0 a1_0).bind fun t264 => (if t264 = true then (if a1_1 = 0 then (some 0) else ((medlarref01_May.f k a0 a1_1).bind fun t265 => (if t265 = true then (if a1_1 = a1_0 then (some 1) else ((medlarref01_Is.f k a1_0 a1_1).bind fun t266 => (if t266 = true then (some 0) else (some 1)))) else (some 1)))) else (some 1))
set_option maxHeartbeats 8000000 in
set_option maxRecDepth 100000 in
theorem medlarref08_Check.calls (k : Nat) (a0 : Int) (a1_0 : Int) (a1_1 : Int) (r : Int) (w : World) (h : medlarref08_Check.f k a0 a1_0 a1_1 = some r) :
   Calls Try.prog 43 #[.int .i64 a0, .agg #[.int .u64 a1_0, .int .u64 a1_1]] w fun e w' => e = .returned (.int .i64 r) ∧ Below w.heap.size w w' := by
  have hu24 := underlying24
  have HB := ak_ (Below.refl w.heap.size w)
  have H : ((medlarref01_May.f k a0 a1_0).bind fun t264 => (if t264 = true then (if a1_1 = 0 then (some 0) else ((medlarref01_May.f k a0 a1_1).bind fun t265 => (if t265 = true then (if a1_1 = a1_0 then (some 1) else ((medlarref01_Is.f k a1_0 a1_1).bind fun t266 => (if t266 = true then (some 0) else (some 1)))) else (some 1)))) else (some 1))) = some r := h
  clear h
  replace H := bind_eq_some_iff.mp H
  obtain ⟨t264, A30, H⟩ := H
  replace H : (if t264 = true then (if a1_1 = 0 then (some 0) else ((medlarref01_May.f k a0 a1_1).bind fun t265 => (if t265 = true then (if a1_1 = a1_0 then (some 1) else ((medlarref01_Is.f k a1_0 a1_1).bind fun t266 => (if t266 = true then (some 0) else (some 1)))) else (some 1)))) else (some 1)) = some r := H
  have A3 := ak_ A30
  clear A30
  by_cases c4 : t264 = true
  ·subst c4
   have H1 : (if a1_1 = 0 then (some 0) else ((medlarref01_May.f k a0 a1_1).bind fun t265 => (if t265 = true then (if a1_1 = a1_0 then (some 1) else ((medlarref01_Is.f k a1_0 a1_1).bind fun t266 => (if t266 = true then (some 0) else (some 1)))) else (some 1)))) = some r := by rw [if_pos rfl] at H; exact H
   clear H
   have H := H1
   clear H1
   by_cases c5 : a1_1 = 0
   ·rw [if_pos c5] at H
    have c5b0 : (a1_1 == 0) = true := beq_iff_eq.mpr c5
    have c5b1 : (a1_1 != 0) = false := bne_eq_false_iff_eq.mpr c5
    clear c5
    obtain rfl := Option.some.inj H
    go_enter func43, ntmps43
    go_wp2_with (first | ((with_reducible refine gate_dst (N := 3) rfl ?_); refine box_event ?hg (N := 3) ?hd (cs := #[.int .u64 a1_0, .int .u64 a1_1]) (t := 24) ?hr ?_; (case hd => rfl); (case hg => rfl); (case hr => first | (go_simp; done) | (go_simp; rfl)); intro gb263 hg w6 hbox hb; have n0_ := ak_ (bt_ (bl_ HB) hb); have n1_ := ak_ (hbox); have n2_ := ak_ ((gs_ hg HB)); have n3_ := ak_ ((gs_ hg HB)); clear HB; have HB := n0_; have BK263 := n1_; have GW263 := n2_; have GE263 := n3_; clear n0_ n1_ n2_ n3_; clear hb hbox hg; have hcz7_0 : w6.cell? ⟨gb263, 0, none⟩ = some (.int .u64 a1_0) := (kc_ BK263.out 0).trans rfl; have hcz7_1 : w6.cell? ⟨gb263, 1, none⟩ = some (.int .u64 a1_1) := (kc_ BK263.out 1).trans rfl; have hfz7_0 := kf_ BK263.out 0; have hfz7_1 := kf_ BK263.out 1) | ((with_reducible refine gate_callee (f := 69) rfl ?_); refine goesL_ (some 8) rfl rfl func69 (by kernel_rfl) rfl #[.int .i64 a0, .int .u64 a1_0] rfl (by (try simp only [map_toArray, map_cons, map_nil]); first | done | rfl) ?_; (with_reducible refine (medlarref01_May.calls k a0 a1_0 true _ A3.out).mono ?_); rintro e w' ⟨rfl, ⟨nd, rfl⟩⟩; refine ⟨_, rfl, ?_⟩))
    go_ret
    exact ⟨by first | rfl | (simp <;> rfl) | (simp [*] <;> rfl), by repeat (first | (with_reducible first | exact HB.out | apply ba_ | apply bn_ | apply bd_ | refine below_set ?_ GE263.out) | exact HB.out)⟩
   ·rw [if_neg c5] at H
    have c5b0 : (a1_1 == 0) = false := beq_eq_false_iff_ne.mpr c5
    have c5b1 : (a1_1 != 0) = true := bne_iff_ne.mpr c5
    replace H := bind_eq_some_iff.mp H
    obtain ⟨t265, A80, H⟩ := H
    replace H : (if t265 = true then (if a1_1 = a1_0 then (some 1) else ((medlarref01_Is.f k a1_0 a1_1).bind fun t266 => (if t266 = true then (some 0) else (some 1)))) else (some 1)) = some r := H
    have A8 := ak_ A80
    clear A80
    by_cases c9 : t265 = true
    ·subst c9
     have H1 : (if a1_1 = a1_0 then (some 1) else ((medlarref01_Is.f k a1_0 a1_1).bind fun t266 => (if t266 = true then (some 0) else (some 1)))) = some r := by rw [if_pos rfl] at H; exact H
     clear H
     have H := H1
     clear H1
     by_cases c10 : a1_1 = a1_0
     ·rw [if_pos c10] at H
      have c10b0 : (a1_1 == a1_0) = true := beq_iff_eq.mpr c10
      have c10b1 : (a1_1 != a1_0) = false := bne_eq_false_iff_eq.mpr c10
      clear c10
      obtain rfl := Option.some.inj H
      go_enter func43, ntmps43
      go_wp2_with (first | ((with_reducible refine gate_dst (N := 3) rfl ?_); refine box_event ?hg (N := 3) ?hd (cs := #[.int .u64 a1_0, .int .u64 a1_1]) (t := 24) ?hr ?_; (case hd => rfl); (case hg => rfl); (case hr => first | (go_simp; done) | (go_simp; rfl)); intro gb263 hg w11 hbox hb; have n0_ := ak_ (bt_ (bl_ HB) hb); have n1_ := ak_ (hbox); have n2_ := ak_ ((gs_ hg HB)); have n3_ := ak_ ((gs_ hg HB)); clear HB; have HB := n0_; have BK263 := n1_; have GW263 := n2_; have GE263 := n3_; clear n0_ n1_ n2_ n3_; clear hb hbox hg; have hcz12_0 : w11.cell? ⟨gb263, 0, none⟩ = some (.int .u64 a1_0) := (kc_ BK263.out 0).trans rfl; have hcz12_1 : w11.cell? ⟨gb263, 1, none⟩ = some (.int .u64 a1_1) := (kc_ BK263.out 1).trans rfl; have hfz12_0 := kf_ BK263.out 0; have hfz12_1 := kf_ BK263.out 1) | ((with_reducible refine gate_callee (f := 69) rfl ?_); refine goesL_ (some 8) rfl rfl func69 (by kernel_rfl) rfl #[.int .i64 a0, .int .u64 a1_0] rfl (by (try simp only [map_toArray, map_cons, map_nil]); first | done | rfl) ?_; (with_reducible refine (medlarref01_May.calls k a0 a1_0 true _ A3.out).mono ?_); rintro e w' ⟨rfl, ⟨nd, rfl⟩⟩; refine ⟨_, rfl, ?_⟩) | (go_at_call 69; (with_reducible refine (medlarref01_May.calls k a0 a1_1 true _ A8.out).mono ?_); rintro e w' ⟨rfl, ⟨nd, rfl⟩⟩))
      go_ret
      exact ⟨by first | rfl | (simp <;> rfl) | (simp [*] <;> rfl), by repeat (first | (with_reducible first | exact HB.out | apply ba_ | apply bn_ | apply bd_ | refine below_set ?_ GE263.out) | exact HB.out)⟩
     ·rw [if_neg c10] at H
      have c10b0 : (a1_1 == a1_0) = false := beq_eq_false_iff_ne.mpr c10
      have c10b1 : (a1_1 != a1_0) = true := bne_iff_ne.mpr c10
      replace H := bind_eq_some_iff.mp H
      obtain ⟨t266, A130, H⟩ := H
      replace H : (if t266 = true then (some 0) else (some 1)) = some r := H
      have A13 := ak_ A130
      clear A130
      by_cases c14 : t266 = true
      ·subst c14
       have H1 : (some 0) = some r := by rw [if_pos rfl] at H; exact H
       clear H
       have H := H1
       clear H1
       obtain rfl := Option.some.inj H
       go_enter func43, ntmps43
       go_wp2_with (first | ((with_reducible refine gate_dst (N := 3) rfl ?_); refine box_event ?hg (N := 3) ?hd (cs := #[.int .u64 a1_0, .int .u64 a1_1]) (t := 24) ?hr ?_; (case hd => rfl); (case hg => rfl); (case hr => first | (go_simp; done) | (go_simp; rfl)); intro gb263 hg w15 hbox hb; have n0_ := ak_ (bt_ (bl_ HB) hb); have n1_ := ak_ (hbox); have n2_ := ak_ ((gs_ hg HB)); have n3_ := ak_ ((gs_ hg HB)); clear HB; have HB := n0_; have BK263 := n1_; have GW263 := n2_; have GE263 := n3_; clear n0_ n1_ n2_ n3_; clear hb hbox hg; have hcz16_0 : w15.cell? ⟨gb263, 0, none⟩ = some (.int .u64 a1_0) := (kc_ BK263.out 0).trans rfl; have hcz16_1 : w15.cell? ⟨gb263, 1, none⟩ = some (.int .u64 a1_1) := (kc_ BK263.out 1).trans rfl; have hfz16_0 := kf_ BK263.out 0; have hfz16_1 := kf_ BK263.out 1) | ((with_reducible refine gate_callee (f := 69) rfl ?_); refine goesL_ (some 8) rfl rfl func69 (by kernel_rfl) rfl #[.int .i64 a0, .int .u64 a1_0] rfl (by (try simp only [map_toArray, map_cons, map_nil]); first | done | rfl) ?_; (with_reducible refine (medlarref01_May.calls k a0 a1_0 true _ A3.out).mono ?_); rintro e w' ⟨rfl, ⟨nd, rfl⟩⟩; refine ⟨_, rfl, ?_⟩) | (go_at_call 69; (with_reducible refine (medlarref01_May.calls k a0 a1_1 true _ A8.out).mono ?_); rintro e w' ⟨rfl, ⟨nd, rfl⟩⟩) | (go_at_call 52; (with_reducible refine (medlarref01_Is.calls k a1_0 a1_1 true _ A13.out).mono ?_); rintro e w17 ⟨rfl, hb⟩; have n0_ := ak_ (kb_ (g := gb263) (o := .cells #[.int .u64 a1_0, .int .u64 a1_1] 24 (0, 0)) (kl_ BK263) hb); have n1_ := ak_ (bt_ (by repeat (first | (with_reducible first | exact HB.out | apply ba_ | apply bn_ | apply bd_ | refine below_set ?_ GE263.out) | exact HB.out)) hb); clear BK263; clear HB; have BK263 := n0_; have HB := n1_; clear n0_ n1_; (try clear hb); (try clear hk)))
       go_ret
       exact ⟨by first | rfl | (simp <;> rfl) | (simp [*] <;> rfl), by repeat (first | (with_reducible first | exact HB.out | apply ba_ | apply bn_ | apply bd_ | refine below_set ?_ GE263.out) | exact HB.out)⟩
      ·replace c14 := Bool.eq_false_iff.mpr c14
       subst c14
       have H1 : (some 1) = some r := by rw [if_neg (show ¬ (false = true) by decide)] at H; exact H
       clear H
       have H := H1
       clear H1
       obtain rfl := Option.some.inj H
       go_enter func43, ntmps43
       go_wp2_with (first | ((with_reducible refine gate_dst (N := 3) rfl ?_); refine box_event ?hg (N := 3) ?hd (cs := #[.int .u64 a1_0, .int .u64 a1_1]) (t := 24) ?hr ?_; (case hd => rfl); (case hg => rfl); (case hr => first | (go_simp; done) | (go_simp; rfl)); intro gb263 hg w18 hbox hb; have n0_ := ak_ (bt_ (bl_ HB) hb); have n1_ := ak_ (hbox); have n2_ := ak_ ((gs_ hg HB)); have n3_ := ak_ ((gs_ hg HB)); clear HB; have HB := n0_; have BK263 := n1_; have GW263 := n2_; have GE263 := n3_; clear n0_ n1_ n2_ n3_; clear hb hbox hg; have hcz19_0 : w18.cell? ⟨gb263, 0, none⟩ = some (.int .u64 a1_0) := (kc_ BK263.out 0).trans rfl; have hcz19_1 : w18.cell? ⟨gb263, 1, none⟩ = some (.int .u64 a1_1) := (kc_ BK263.out 1).trans rfl; have hfz19_0 := kf_ BK263.out 0; have hfz19_1 := kf_ BK263.out 1) | ((with_reducible refine gate_callee (f := 69) rfl ?_); refine goesL_ (some 8) rfl rfl func69 (by kernel_rfl) rfl #[.int .i64 a0, .int .u64 a1_0] rfl (by (try simp only [map_toArray, map_cons, map_nil]); first | done | rfl) ?_; (with_reducible refine (medlarref01_May.calls k a0 a1_0 true _ A3.out).mono ?_); rintro e w' ⟨rfl, ⟨nd, rfl⟩⟩; refine ⟨_, rfl, ?_⟩) | (go_at_call 69; (with_reducible refine (medlarref01_May.calls k a0 a1_1 true _ A8.out).mono ?_); rintro e w' ⟨rfl, ⟨nd, rfl⟩⟩) | (go_at_call 52; (with_reducible refine (medlarref01_Is.calls k a1_0 a1_1 false _ A13.out).mono ?_); rintro e w20 ⟨rfl, hb⟩; have n0_ := ak_ (kb_ (g := gb263) (o := .cells #[.int .u64 a1_0, .int .u64 a1_1] 24 (0, 0)) (kl_ BK263) hb); have n1_ := ak_ (bt_ (by repeat (first | (with_reducible first | exact HB.out | apply ba_ | apply bn_ | apply bd_ | refine below_set ?_ GE263.out) | exact HB.out)) hb); clear BK263; clear HB; have BK263 := n0_; have HB := n1_; clear n0_ n1_; (try clear hb); (try clear hk)))
       go_ret
       exact ⟨by first | rfl | (simp <;> rfl) | (simp [*] <;> rfl), by repeat (first | (with_reducible first | exact HB.out | apply ba_ | apply bn_ | apply bd_ | refine below_set ?_ GE263.out) | exact HB.out)⟩
    ·replace c9 := Bool.eq_false_iff.mpr c9
     subst c9
     have H1 : (some 1) = some r := by rw [if_neg (show ¬ (false = true) by decide)] at H; exact H
     clear H
     have H := H1
     clear H1
     obtain rfl := Option.some.inj H
     go_enter func43, ntmps43
     go_wp2_with (first | ((with_reducible refine gate_dst (N := 3) rfl ?_); refine box_event ?hg (N := 3) ?hd (cs := #[.int .u64 a1_0, .int .u64 a1_1]) (t := 24) ?hr ?_; (case hd => rfl); (case hg => rfl); (case hr => first | (go_simp; done) | (go_simp; rfl)); intro gb263 hg w21 hbox hb; have n0_ := ak_ (bt_ (bl_ HB) hb); have n1_ := ak_ (hbox); have n2_ := ak_ ((gs_ hg HB)); have n3_ := ak_ ((gs_ hg HB)); clear HB; have HB := n0_; have BK263 := n1_; have GW263 := n2_; have GE263 := n3_; clear n0_ n1_ n2_ n3_; clear hb hbox hg; have hcz22_0 : w21.cell? ⟨gb263, 0, none⟩ = some (.int .u64 a1_0) := (kc_ BK263.out 0).trans rfl; have hcz22_1 : w21.cell? ⟨gb263, 1, none⟩ = some (.int .u64 a1_1) := (kc_ BK263.out 1).trans rfl; have hfz22_0 := kf_ BK263.out 0; have hfz22_1 := kf_ BK263.out 1) | ((with_reducible refine gate_callee (f := 69) rfl ?_); refine goesL_ (some 8) rfl rfl func69 (by kernel_rfl) rfl #[.int .i64 a0, .int .u64 a1_0] rfl (by (try simp only [map_toArray, map_cons, map_nil]); first | done | rfl) ?_; (with_reducible refine (medlarref01_May.calls k a0 a1_0 true _ A3.out).mono ?_); rintro e w' ⟨rfl, ⟨nd, rfl⟩⟩; refine ⟨_, rfl, ?_⟩) | (go_at_call 69; (with_reducible refine (medlarref01_May.calls k a0 a1_1 false _ A8.out).mono ?_); rintro e w' ⟨rfl, ⟨nd, rfl⟩⟩))
     go_ret
     exact ⟨by first | rfl | (simp <;> rfl) | (simp [*] <;> rfl), by repeat (first | (with_reducible first | exact HB.out | apply ba_ | apply bn_ | apply bd_ | refine below_set ?_ GE263.out) | exact HB.out)⟩
  ·replace c4 := Bool.eq_false_iff.mpr c4
   subst c4
   have H1 : (some 1) = some r := by rw [if_neg (show ¬ (false = true) by decide)] at H; exact H
   clear H
   have H := H1
   clear H1
   obtain rfl := Option.some.inj H
   go_enter func43, ntmps43
   go_wp2_with (first | ((with_reducible refine gate_dst (N := 3) rfl ?_); refine box_event ?hg (N := 3) ?hd (cs := #[.int .u64 a1_0, .int .u64 a1_1]) (t := 24) ?hr ?_; (case hd => rfl); (case hg => rfl); (case hr => first | (go_simp; done) | (go_simp; rfl)); intro gb263 hg w23 hbox hb; have n0_ := ak_ (bt_ (bl_ HB) hb); have n1_ := ak_ (hbox); have n2_ := ak_ ((gs_ hg HB)); have n3_ := ak_ ((gs_ hg HB)); clear HB; have HB := n0_; have BK263 := n1_; have GW263 := n2_; have GE263 := n3_; clear n0_ n1_ n2_ n3_; clear hb hbox hg; have hcz24_0 : w23.cell? ⟨gb263, 0, none⟩ = some (.int .u64 a1_0) := (kc_ BK263.out 0).trans rfl; have hcz24_1 : w23.cell? ⟨gb263, 1, none⟩ = some (.int .u64 a1_1) := (kc_ BK263.out 1).trans rfl; have hfz24_0 := kf_ BK263.out 0; have hfz24_1 := kf_ BK263.out 1) | ((with_reducible refine gate_callee (f := 69) rfl ?_); refine goesL_ (some 8) rfl rfl func69 (by kernel_rfl) rfl #[.int .i64 a0, .int .u64 a1_0] rfl (by (try simp only [map_toArray, map_cons, map_nil]); first | done | rfl) ?_; (with_reducible refine (medlarref01_May.calls k a0 a1_0 false _ A3.out).mono ?_); rintro e w' ⟨rfl, ⟨nd, rfl⟩⟩; refine ⟨_, rfl, ?_⟩))
   go_ret
   exact ⟨by first | rfl | (simp <;> rfl) | (simp [*] <;> rfl), by repeat (first | (with_reducible first | exact HB.out | apply ba_ | apply bn_ | apply bd_ | refine below_set ?_ GE263.out) | exact HB.out)⟩
def medlarref08_Has.j0 : Nat → Int → Bool → Int → Int → Option (Bool × Int)
  | 0, _, _, _, _ => none
  | k + 1, x8, x23, x268000, x268001 => if x23 = true then (some (false, 1)) else ((medlarref01_Is.f k x268000 x8).bind fun t271 => (if t271 = true then (if x268001 = 0 then (some (true, 0)) else ((medlarref01_Is.f k x268001 x8).bind fun t272 => (some (!t272, 0)))) else (some (false, 0))))
def medlarref08_Has.f (k : Nat) (a0 : Int) (a1_0 : Int) (a1_1 : Int) (a2 : Int) : Option (Bool × Int) := (medlarref01_Leaf.f k a0 a2).bind fun bt268 => ((medlarref08_Check.f k a0 a1_0 a1_1).bind fun t270 => (if t270 = 0 then (medlarref08_Has.j0 k bt268.1 (bt268.2 != 0) a1_0 a1_1) else (medlarref08_Has.j0 k bt268.1 true a1_0 a1_1)))
set_option maxHeartbeats 8000000 in
set_option maxRecDepth 100000 in
theorem medlarref08_Has.calls (k : Nat) (a0 : Int) (a1_0 : Int) (a1_1 : Int) (a2 : Int) (r1 : Bool) (r2 : Int) (w : World) (h : medlarref08_Has.f k a0 a1_0 a1_1 a2 = some (r1, r2)) :
   Calls Try.prog 44 #[.int .i64 a0, .agg #[.int .u64 a1_0, .int .u64 a1_1], .int .u64 a2] w fun e w' => e = .returned (.tuple #[.bool r1, .int .i64 r2]) ∧ Below w.heap.size w w' := by
  have hu24 := underlying24
  have HB := ak_ (Below.refl w.heap.size w)
  have H : ((medlarref01_Leaf.f k a0 a2).bind fun bt268 => ((medlarref08_Check.f k a0 a1_0 a1_1).bind fun t270 => (if t270 = 0 then (medlarref08_Has.j0 k bt268.1 (bt268.2 != 0) a1_0 a1_1) else (medlarref08_Has.j0 k bt268.1 true a1_0 a1_1)))) = some (r1, r2) := h
  clear h
  replace H := bind_eq_some_iff.mp H
  obtain ⟨⟨t268, t269⟩, A40, H⟩ := H
  replace H : ((medlarref08_Check.f k a0 a1_0 a1_1).bind fun t270 => (if t270 = 0 then (medlarref08_Has.j0 k t268 (t269 != 0) a1_0 a1_1) else (medlarref08_Has.j0 k t268 true a1_0 a1_1))) = some (r1, r2) := H
  have A4 := ak_ A40
  clear A40
  have HC5 := ak_ H
  clear H
  go_enter func44, ntmps44
  go_upto_region 2 with (first | ((with_reducible refine gate_dst (N := 4) rfl ?_); refine box_event ?hg (N := 4) ?hd (cs := #[.int .u64 a1_0, .int .u64 a1_1]) (t := 24) ?hr ?_; (case hd => rfl); (case hg => rfl); (case hr => first | (go_simp; done) | (go_simp; rfl)); intro gb267 hg w6 hbox hb; have n0_ := ak_ (bt_ (bl_ HB) hb); have n1_ := ak_ (hbox); have n2_ := ak_ ((gs_ hg HB)); have n3_ := ak_ ((gs_ hg HB)); clear HB; have HB := n0_; have BK267 := n1_; have GW267 := n2_; have GE267 := n3_; clear n0_ n1_ n2_ n3_; clear hb hbox hg) | ((with_reducible refine gate_callee (f := 70) rfl ?_); refine goesL_ (some 13) rfl rfl func70 (by kernel_rfl) rfl #[.int .i64 a0, .int .u64 a2] rfl (by (try simp only [map_toArray, map_cons, map_nil]); first | done | rfl) ?_; (with_reducible refine (medlarref01_Leaf.calls k a0 a2 t268 t269 _ A4.out).mono ?_); rintro e w' ⟨rfl, ⟨nd, rfl⟩⟩; refine ⟨_, rfl, ?_⟩))
  (try simp only [Act.put, setIfInBounds_toArray, set_cons_zero, set_cons_succ])
  go_cut [23] (fun v23 wc => ∃ (kq : Nat) (x23_4 : Bool), v23 = .bool x23_4 ∧ Aside0 (medlarref08_Has.j0 kq t268 x23_4 a1_0 a1_1 = some (r1, r2)) ∧ Aside0 (kq ≤ k) ∧ Aside0 (wc.heap[gb267]? = some (.cells #[.int .u64 a1_0, .int .u64 a1_1] 24 (0, 0))) ∧ Aside0 (Below w.heap.size w wc))
  case first =>
   have H := HC5.out
   clear HC5
   replace H := bind_eq_some_iff.mp H
   obtain ⟨t270, A70, H⟩ := H
   replace H : (if t270 = 0 then (medlarref08_Has.j0 k t268 (t269 != 0) a1_0 a1_1) else (medlarref08_Has.j0 k t268 true a1_0 a1_1)) = some (r1, r2) := H
   have A7 := ak_ A70
   clear A70
   by_cases c8 : t270 = 0
   ·rw [if_pos c8] at H
    have c8b0 : (t270 == 0) = true := beq_iff_eq.mpr c8
    have c8b1 : (t270 != 0) = false := bne_eq_false_iff_eq.mpr c8
    clear c8
    (first | rw [c8b0] | (simp only [i64_w, i32_w]; rw [c8b0]) | skip)
    have H' := ak_ H
    clear H
    have hcz9_0 : w6.cell? ⟨gb267, 0, none⟩ = some (.int .u64 a1_0) := (kc_ BK267.out 0).trans rfl
    have hcz9_1 : w6.cell? ⟨gb267, 1, none⟩ = some (.int .u64 a1_1) := (kc_ BK267.out 1).trans rfl
    have hfz9_0 := kf_ BK267.out 0
    have hfz9_1 := kf_ BK267.out 1
    go_wp2_with (first | ((with_reducible refine gate_callee (f := 43) rfl ?_); refine goesL_ (some 18) rfl rfl func43 (by kernel_rfl) rfl #[.int .i64 a0, .agg #[.int .u64 a1_0, .int .u64 a1_1]] rfl (by (try simp only [map_toArray, map_cons, map_nil]); first | done | rfl) ?_; (with_reducible refine (medlarref08_Check.calls k a0 a1_0 a1_1 t270 _ A7.out).mono ?_); rintro e w10 ⟨rfl, hb⟩; refine ⟨_, rfl, ?_⟩; have n0_ := ak_ (kb_ (g := gb267) (o := .cells #[.int .u64 a1_0, .int .u64 a1_1] 24 (0, 0)) (kl_ BK267) hb); have n1_ := ak_ (bt_ (by repeat (first | (with_reducible first | exact HB.out | apply ba_ | apply bn_ | apply bd_ | refine below_set ?_ GE267.out) | exact HB.out)) hb); clear BK267; clear HB; have BK267 := n0_; have HB := n1_; clear n0_ n1_; (try clear hb); (try clear hk)))
    go_meet
    case rel => exact ⟨_, ((t269 != 0)), (by first | rfl | (simp; done) | (simp [*]; done)), H', ⟨by first | omega | exact Nat.le_refl _⟩, ⟨kl_ BK267⟩, ⟨by repeat (first | (with_reducible first | exact HB.out | apply ba_ | apply bn_ | apply bd_ | refine below_set ?_ GE267.out) | exact HB.out)⟩⟩
   ·rw [if_neg c8] at H
    have c8b0 : (t270 == 0) = false := beq_eq_false_iff_ne.mpr c8
    have c8b1 : (t270 != 0) = true := bne_iff_ne.mpr c8
    (first | rw [c8b0] | (simp only [i64_w, i32_w]; rw [c8b0]) | skip)
    have H' := ak_ H
    clear H
    have hcz11_0 : w6.cell? ⟨gb267, 0, none⟩ = some (.int .u64 a1_0) := (kc_ BK267.out 0).trans rfl
    have hcz11_1 : w6.cell? ⟨gb267, 1, none⟩ = some (.int .u64 a1_1) := (kc_ BK267.out 1).trans rfl
    have hfz11_0 := kf_ BK267.out 0
    have hfz11_1 := kf_ BK267.out 1
    go_wp2_with (first | ((with_reducible refine gate_callee (f := 43) rfl ?_); refine goesL_ (some 18) rfl rfl func43 (by kernel_rfl) rfl #[.int .i64 a0, .agg #[.int .u64 a1_0, .int .u64 a1_1]] rfl (by (try simp only [map_toArray, map_cons, map_nil]); first | done | rfl) ?_; (with_reducible refine (medlarref08_Check.calls k a0 a1_0 a1_1 t270 _ A7.out).mono ?_); rintro e w12 ⟨rfl, hb⟩; refine ⟨_, rfl, ?_⟩; have n0_ := ak_ (kb_ (g := gb267) (o := .cells #[.int .u64 a1_0, .int .u64 a1_1] 24 (0, 0)) (kl_ BK267) hb); have n1_ := ak_ (bt_ (by repeat (first | (with_reducible first | exact HB.out | apply ba_ | apply bn_ | apply bd_ | refine below_set ?_ GE267.out) | exact HB.out)) hb); clear BK267; clear HB; have BK267 := n0_; have HB := n1_; clear n0_ n1_; (try clear hb); (try clear hk)))
    go_meet
    case rel => exact ⟨_, (true), (by first | rfl | (simp; done) | (simp [*]; done)), H', ⟨by first | omega | exact Nat.le_refl _⟩, ⟨kl_ BK267⟩, ⟨by repeat (first | (with_reducible first | exact HB.out | apply ba_ | apply bn_ | apply bd_ | refine below_set ?_ GE267.out) | exact HB.out)⟩⟩
  case rest =>
   clear HC5
   try clear p2
   try clear c4
   try clear c7
   try clear c8
   try clear c8b0
   try clear c8b1
   try clear hcz11_0
   try clear hcz11_1
   try clear hcz9_0
   try clear hcz9_1
   try clear hfz11_0
   try clear hfz11_1
   try clear hfz9_0
   try clear hfz9_1
   obtain ⟨kq, x23_4, rfl, HA, HJ4, BK267, HB⟩ := hcut
   cases kq with
   | zero => exact absurd HA.out (by simp [medlarref08_Has.j0])
   | succ kj4 =>
    have H := HA.out
    clear HA
    simp only [medlarref08_Has.j0] at H
    by_cases c13 : x23_4 = true
    ·subst c13
     have H1 : (some (false, 1)) = some (r1, r2) := by rw [if_pos rfl] at H; exact H
     clear H
     have H := H1
     clear H1
     simp only [some.injEq, Prod.mk.injEq] at H
     obtain ⟨rfl, rfl⟩ := H
     go_wp2
     go_ret2
     exact ⟨by first | rfl | (simp <;> rfl) | (simp [*] <;> rfl), by repeat (first | (with_reducible first | exact HB.out | apply ba_ | apply bn_ | apply bd_ | refine below_set ?_ GE267.out) | exact HB.out)⟩
    ·replace c13 := Bool.eq_false_iff.mpr c13
     subst c13
     have H1 : ((medlarref01_Is.f kj4 a1_0 t268).bind fun t271 => (if t271 = true then (if a1_1 = 0 then (some (true, 0)) else ((medlarref01_Is.f kj4 a1_1 t268).bind fun t272 => (some (!t272, 0)))) else (some (false, 0)))) = some (r1, r2) := by rw [if_neg (show ¬ (false = true) by decide)] at H; exact H
     clear H
     have H := H1
     clear H1
     replace H := bind_eq_some_iff.mp H
     obtain ⟨t271, A140, H⟩ := H
     replace H : (if t271 = true then (if a1_1 = 0 then (some (true, 0)) else ((medlarref01_Is.f kj4 a1_1 t268).bind fun t272 => (some (!t272, 0)))) else (some (false, 0))) = some (r1, r2) := H
     have A14 := ak_ A140
     clear A140
     by_cases c15 : t271 = true
     ·subst c15
      have H1 : (if a1_1 = 0 then (some (true, 0)) else ((medlarref01_Is.f kj4 a1_1 t268).bind fun t272 => (some (!t272, 0)))) = some (r1, r2) := by rw [if_pos rfl] at H; exact H
      clear H
      have H := H1
      clear H1
      by_cases c16 : a1_1 = 0
      ·rw [if_pos c16] at H
       have c16b0 : (a1_1 == 0) = true := beq_iff_eq.mpr c16
       have c16b1 : (a1_1 != 0) = false := bne_eq_false_iff_eq.mpr c16
       clear c16
       simp only [some.injEq, Prod.mk.injEq] at H
       obtain ⟨rfl, rfl⟩ := H
       have hcz17_0 : wc.cell? ⟨gb267, 0, none⟩ = some (.int .u64 a1_0) := (kc_ BK267.out 0).trans rfl
       have hcz17_1 : wc.cell? ⟨gb267, 1, none⟩ = some (.int .u64 a1_1) := (kc_ BK267.out 1).trans rfl
       have hfz17_0 := kf_ BK267.out 0
       have hfz17_1 := kf_ BK267.out 1
       go_wp2_with (first | ((with_reducible refine gate_callee (f := 52) rfl ?_); refine goesL_ (some 27) rfl rfl func52 (by kernel_rfl) rfl #[.int .u64 a1_0, .int .u64 t268] rfl (by (try simp only [map_toArray, map_cons, map_nil]); first | done | rfl) ?_; (with_reducible refine (medlarref01_Is.calls kj4 a1_0 t268 true _ A14.out).mono ?_); rintro e w18 ⟨rfl, hb⟩; refine ⟨_, rfl, ?_⟩; have n0_ := ak_ (kb_ (g := gb267) (o := .cells #[.int .u64 a1_0, .int .u64 a1_1] 24 (0, 0)) (kl_ BK267) hb); have n1_ := ak_ (bt_ (by repeat (first | (with_reducible first | exact HB.out | apply ba_ | apply bn_ | apply bd_ | refine below_set ?_ GE267.out) | exact HB.out)) hb); clear BK267; clear HB; have BK267 := n0_; have HB := n1_; clear n0_ n1_; (try clear hb); (try clear hk); have hcz19_0 : w18.cell? ⟨gb267, 0, none⟩ = some (.int .u64 a1_0) := (kc_ BK267.out 0).trans rfl; have hcz19_1 : w18.cell? ⟨gb267, 1, none⟩ = some (.int .u64 a1_1) := (kc_ BK267.out 1).trans rfl; have hfz19_0 := kf_ BK267.out 0; have hfz19_1 := kf_ BK267.out 1))
       go_ret2
       exact ⟨by first | rfl | (simp <;> rfl) | (simp [*] <;> rfl), by repeat (first | (with_reducible first | exact HB.out | apply ba_ | apply bn_ | apply bd_ | refine below_set ?_ GE267.out) | exact HB.out)⟩
      ·rw [if_neg c16] at H
       have c16b0 : (a1_1 == 0) = false := beq_eq_false_iff_ne.mpr c16
       have c16b1 : (a1_1 != 0) = true := bne_iff_ne.mpr c16
       replace H := bind_eq_some_iff.mp H
       obtain ⟨t272, A200, H⟩ := H
       replace H : (some (!t272, 0)) = some (r1, r2) := H
       have A20 := ak_ A200
       clear A200
       simp only [some.injEq, Prod.mk.injEq] at H
       obtain ⟨rfl, rfl⟩ := H
       have hcz21_0 : wc.cell? ⟨gb267, 0, none⟩ = some (.int .u64 a1_0) := (kc_ BK267.out 0).trans rfl
       have hcz21_1 : wc.cell? ⟨gb267, 1, none⟩ = some (.int .u64 a1_1) := (kc_ BK267.out 1).trans rfl
       have hfz21_0 := kf_ BK267.out 0
       have hfz21_1 := kf_ BK267.out 1
       go_wp2_with (first | ((with_reducible refine gate_callee (f := 52) rfl ?_); refine goesL_ (some 27) rfl rfl func52 (by kernel_rfl) rfl #[.int .u64 a1_0, .int .u64 t268] rfl (by (try simp only [map_toArray, map_cons, map_nil]); first | done | rfl) ?_; (with_reducible refine (medlarref01_Is.calls kj4 a1_0 t268 true _ A14.out).mono ?_); rintro e w22 ⟨rfl, hb⟩; refine ⟨_, rfl, ?_⟩; have n0_ := ak_ (kb_ (g := gb267) (o := .cells #[.int .u64 a1_0, .int .u64 a1_1] 24 (0, 0)) (kl_ BK267) hb); have n1_ := ak_ (bt_ (by repeat (first | (with_reducible first | exact HB.out | apply ba_ | apply bn_ | apply bd_ | refine below_set ?_ GE267.out) | exact HB.out)) hb); clear BK267; clear HB; have BK267 := n0_; have HB := n1_; clear n0_ n1_; (try clear hb); (try clear hk); have hcz23_0 : w22.cell? ⟨gb267, 0, none⟩ = some (.int .u64 a1_0) := (kc_ BK267.out 0).trans rfl; have hcz23_1 : w22.cell? ⟨gb267, 1, none⟩ = some (.int .u64 a1_1) := (kc_ BK267.out 1).trans rfl; have hfz23_0 := kf_ BK267.out 0; have hfz23_1 := kf_ BK267.out 1) | (go_at_call 52; (with_reducible refine (medlarref01_Is.calls kj4 a1_1 t268 t272 _ A20.out).mono ?_); rintro e w24 ⟨rfl, hb⟩; have n0_ := ak_ (kb_ (g := gb267) (o := .cells #[.int .u64 a1_0, .int .u64 a1_1] 24 (0, 0)) (kl_ BK267) hb); have n1_ := ak_ (bt_ (by repeat (first | (with_reducible first | exact HB.out | apply ba_ | apply bn_ | apply bd_ | refine below_set ?_ GE267.out) | exact HB.out)) hb); clear BK267; clear HB; have BK267 := n0_; have HB := n1_; clear n0_ n1_; (try clear hb); (try clear hk)))
       go_ret2
       exact ⟨by first | rfl | (simp <;> rfl) | (simp [*] <;> rfl), by repeat (first | (with_reducible first | exact HB.out | apply ba_ | apply bn_ | apply bd_ | refine below_set ?_ GE267.out) | exact HB.out)⟩
     ·replace c15 := Bool.eq_false_iff.mpr c15
      subst c15
      have H1 : (some (false, 0)) = some (r1, r2) := by rw [if_neg (show ¬ (false = true) by decide)] at H; exact H
      clear H
      have H := H1
      clear H1
      simp only [some.injEq, Prod.mk.injEq] at H
      obtain ⟨rfl, rfl⟩ := H
      have hcz25_0 : wc.cell? ⟨gb267, 0, none⟩ = some (.int .u64 a1_0) := (kc_ BK267.out 0).trans rfl
      have hcz25_1 : wc.cell? ⟨gb267, 1, none⟩ = some (.int .u64 a1_1) := (kc_ BK267.out 1).trans rfl
      have hfz25_0 := kf_ BK267.out 0
      have hfz25_1 := kf_ BK267.out 1
      go_wp2_with (first | ((with_reducible refine gate_callee (f := 52) rfl ?_); refine goesL_ (some 27) rfl rfl func52 (by kernel_rfl) rfl #[.int .u64 a1_0, .int .u64 t268] rfl (by (try simp only [map_toArray, map_cons, map_nil]); first | done | rfl) ?_; (with_reducible refine (medlarref01_Is.calls kj4 a1_0 t268 false _ A14.out).mono ?_); rintro e w26 ⟨rfl, hb⟩; refine ⟨_, rfl, ?_⟩; have n0_ := ak_ (kb_ (g := gb267) (o := .cells #[.int .u64 a1_0, .int .u64 a1_1] 24 (0, 0)) (kl_ BK267) hb); have n1_ := ak_ (bt_ (by repeat (first | (with_reducible first | exact HB.out | apply ba_ | apply bn_ | apply bd_ | refine below_set ?_ GE267.out) | exact HB.out)) hb); clear BK267; clear HB; have BK267 := n0_; have HB := n1_; clear n0_ n1_; (try clear hb); (try clear hk)))
      go_ret2
      exact ⟨by first | rfl | (simp <;> rfl) | (simp [*] <;> rfl), by repeat (first | (with_reducible first | exact HB.out | apply ba_ | apply bn_ | apply bd_ | refine below_set ?_ GE267.out) | exact HB.out)⟩
end Go.Proofs.Ytnbiddloiiljjaa.MP
