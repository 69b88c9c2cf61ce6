-- written by a program of this session (wip/tools/mprint.sh) for this seat
import Derived.Test.YtnbiddloiiljjaaMPx0
import Derived.Test.YtnbiddloiiljjaaMPx2
import Derived.Test.YtnbiddloiiljjaaMPx3
import Derived.Deep.RegionHeld3
import Derived.WalkMore
import Derived.ScopeJumps
import Derived.Shelf.SlicesE.Compact
import Derived.Ground.SlgnProg
import Derived.Shelf.SlGeneric
namespace Go.Proofs.Ytnbiddloiiljjaa.MP
open Go.RowKit Go.Proofs.YtnbiddloiiljjaaW.PrintWords Go.Proofs.YtnbiddloiiljjaaW.PrintLast Go.Proofs.YtnbiddloiiljjaaW.PrintMore
attribute [local go_sem] max2_int min2_int max_two min_two max_three min_three max_four min_four
set_option linter.unusedVariables false
set_option linter.unusedSimpArgs false
theorem hand_keepa {w : World} (o : Obj) {a : Addr} {v : Value} (hc : w.cell? a = some v) : (w.alloc o).cell? a = some v := pw_cell_below (below_alloc (Below.refl _ w) o) hc
set_option maxHeartbeats 8000000 in
set_option maxRecDepth 100000 in
theorem sub_Has_1.calls (lo hi i : Int) (g : Nat) (w : World) (hc : w.cell? ⟨g, 0, none⟩ = some (.int .u64 i)) :
    Calls Try.prog 36 #[.agg #[.int .u64 lo, .int .u64 hi], .pointer (some ⟨g, 0, none⟩)] w fun e w' => e = .returned (.bool (decide (lo ≤ i) && decide (i ≤ hi))) ∧ Below w.heap.size w w' := by
  have hu50 := Try.underlying69
  have hc2 := hand_keepa (.cells #[.int .u64 lo, .int .u64 hi] 69) hc
  by_cases c1 : lo ≤ i
  · have d1 : decide (lo ≤ i) = true := decide_eq_true c1
    by_cases c2 : i ≤ hi
    · have d2 : decide (i ≤ hi) = true := decide_eq_true c2
      go_enter Try.func36, Try.ntmps36
      go_wp2
      go_ret
      exact ⟨by simp [d1, d2], by repeat (first | exact Below.refl _ _ | apply below_alloc)⟩
    · have d2 : decide (i ≤ hi) = false := decide_eq_false c2
      go_enter Try.func36, Try.ntmps36
      go_wp2
      go_ret
      exact ⟨by simp [d1, d2], by repeat (first | exact Below.refl _ _ | apply below_alloc)⟩
  · have d1 : decide (lo ≤ i) = false := decide_eq_false c1
    go_enter Try.func36, Try.ntmps36
    go_wp2
    go_ret
    exact ⟨by simp [d1], by repeat (first | exact Below.refl _ _ | apply below_alloc)⟩
def sub_Has.f (k : Nat) (a0 : Int) (a1_0 : Int) (a1_1 : Int) (a2 : Int) : Option (Bool × Int) := (sub_both.f k a0 a1_0 a1_1).bind fun b => (leaf_Has.f k a0 [] a2).bind fun q => if b.2.2.2.2 = 0 then (if q.2 = 0 then some ((decide (b.1 ≤ a2) && decide (a2 ≤ b.2.1)) && ((a1_1 == 0) || !(decide (b.2.2.1 ≤ a2) && decide (a2 ≤ b.2.2.2.1))), 0) else some (false, 1)) else some (false, 1)
theorem sub_Has.mono : ∀ a0 a1 a2 a3 k, LeO (sub_Has.f k a0 a1 a2 a3) (sub_Has.f (k + 1) a0 a1 a2 a3) := by
  intro a0 a1 a2 a3 k
  unfold sub_Has.f
  exact LeO.bind (sub_both.mono _ _ _ _) (fun _ => LeO.bind (leaf_Has.mono _ _ _ _) (fun _ => LeO.refl _))
set_option maxHeartbeats 8000000 in
set_option maxRecDepth 100000 in
theorem sub_Has.calls (k : Nat) (a0 : Int) (a1_0 : Int) (a1_1 : Int) (a2 : Int) (r1 : Bool) (r2 : Int) (w : World) (h : sub_Has.f k a0 a1_0 a1_1 a2 = some (r1, r2)) :
    Calls Try.prog 13 #[.int .i64 a0, .agg #[.int .u64 a1_0, .int .u64 a1_1], .int .u64 a2] w fun e w' => e = .returned (.tuple #[.bool r1, .int .i64 r2]) ∧ Below w.heap.size w w' := by
  have hu24 := Try.underlying24
  have hu50 := Try.underlying69
  replace h := Option.bind_eq_some_iff.mp h
  obtain ⟨⟨b1, b2, b3, b4, b5⟩, A1, h⟩ := h
  replace h := Option.bind_eq_some_iff.mp h
  obtain ⟨⟨q1, q2⟩, A2, h⟩ := h
  have A1' := Aside0.mk A1
  have A2' := Aside0.mk A2
  clear A1 A2
  simp only at h
  by_cases c1 : b5 = 0
  · rw [if_pos c1] at h
    have c1b : (b5 != 0) = false := bne_eq_false_iff_eq.mpr c1
    clear c1
    by_cases c2 : q2 = 0
    · rw [if_pos c2] at h
      have c2b : (q2 != 0) = false := bne_eq_false_iff_eq.mpr c2
      clear c2
      simp only [Option.some.injEq, Prod.mk.injEq] at h
      obtain ⟨hr, rfl⟩ := h
      have HR := Aside0.mk hr
      clear hr
      by_cases c3 : (decide (b1 ≤ a2) && decide (a2 ≤ b2)) = true
      · by_cases c4 : a1_1 = 0
        · have c4b : (a1_1 == 0) = true := beq_iff_eq.mpr c4
          clear c4
          go_enter Try.func13, Try.ntmps13
          go_wp2_with (first | (go_at_call 32; refine (sub_both.calls k a0 a1_0 a1_1 b1 b2 b3 b4 b5 _ A1'.out).mono ?_; rintro e w1 ⟨rfl, hb⟩; have HB1 := Aside0.mk hb; have B24 := Aside0.mk (blk_below (blk_alloc (heap_alloc_new w (.cells #[.int .u64 a1_0, .int .u64 a1_1] 24 (0, 0))) (.cells #[.int .u64 a2] 22 (0, 0))) hb); have B22 := Aside0.mk (blk_below (g := w.heap.size + 1) (o := .cells #[.int .u64 a2] 22 (0, 0)) (by simpa using heap_alloc_new (w.alloc (.cells #[.int .u64 a1_0, .int .u64 a1_1] 24 (0, 0))) (.cells #[.int .u64 a2] 22 (0, 0))) hb); have hI : ((w1.alloc (.cells #[.int .u64 b1, .int .u64 b2] 69 (0, 0))).alloc (.cells #[.int .u64 b3, .int .u64 b4] 69 (0, 0))).cell? ⟨w.heap.size + 1, 0, none⟩ = some (.int .u64 a2) := (blk_cell (blk_alloc (blk_alloc B22.out _) _) 0).trans rfl; clear hb) | (go_at_call 35; refine (leaf_Has.calls k a0 none 0 [] a2 q1 q2 _ (Kd.C_nil _ _) (Nat.le_refl _) A2'.out).mono ?_; rintro e w2 ⟨rfl, hd⟩; have hb := hd.below; have HB2 := Aside0.mk hb; have n1 := Aside0.mk (blk_below (blk_alloc (blk_alloc B24.out (.cells #[.int .u64 b1, .int .u64 b2] 69 (0, 0))) (.cells #[.int .u64 b3, .int .u64 b4] 69 (0, 0))) hb); have n2 := Aside0.mk (blk_below (blk_alloc (blk_alloc B22.out (.cells #[.int .u64 b1, .int .u64 b2] 69 (0, 0))) (.cells #[.int .u64 b3, .int .u64 b4] 69 (0, 0))) hb); have P1 := Aside0.mk (blk_below (blk_alloc (heap_alloc_new w1 (.cells #[.int .u64 b1, .int .u64 b2] 69 (0, 0))) (.cells #[.int .u64 b3, .int .u64 b4] 69 (0, 0))) hb); have P2 := Aside0.mk (blk_below (g := w1.heap.size + 1) (o := .cells #[.int .u64 b3, .int .u64 b4] 69 (0, 0)) (by simpa using heap_alloc_new (w1.alloc (.cells #[.int .u64 b1, .int .u64 b2] 69 (0, 0))) (.cells #[.int .u64 b3, .int .u64 b4] 69 (0, 0))) hb); clear hI B24 B22; have hI2 : w2.cell? ⟨w.heap.size + 1, 0, none⟩ = some (.int .u64 a2) := (blk_cell n2.out 0).trans rfl; have hJ2 : w2.cell? ⟨w.heap.size, 1, none⟩ = some (.int .u64 a1_1) := (blk_cell n1.out 1).trans rfl; have hp0 : w2.cell? ⟨w1.heap.size, 0, none⟩ = some (.int .u64 b1) := (blk_cell P1.out 0).trans rfl; have hp1 : w2.cell? ⟨w1.heap.size, 1, none⟩ = some (.int .u64 b2) := (blk_cell P1.out 1).trans rfl; clear hd hb) | (go_at_call 36; refine (sub_Has_1.calls b1 b2 a2 (w.heap.size + 1) w2 hI2).mono ?_; rintro e w3 ⟨rfl, hb⟩; have HB3 := Aside0.mk hb; have hI3 : w3.cell? ⟨w.heap.size + 1, 0, none⟩ = some (.int .u64 a2) := (blk_cell (blk_below n2.out hb) 0).trans rfl; have hJ3 : w3.cell? ⟨w.heap.size, 1, none⟩ = some (.int .u64 a1_1) := (blk_cell (blk_below n1.out hb) 1).trans rfl; have hg0 : w3.cell? ⟨w1.heap.size + 1, 0, none⟩ = some (.int .u64 b3) := (blk_cell (blk_below P2.out hb) 0).trans rfl; have hg1 : w3.cell? ⟨w1.heap.size + 1, 1, none⟩ = some (.int .u64 b4) := (blk_cell (blk_below P2.out hb) 1).trans rfl; clear hb hI2 hJ2 hp0 hp1) | (go_at_call 36; refine (sub_Has_1.calls b3 b4 a2 (w.heap.size + 1) w3 hI3).mono ?_; rintro e w4 ⟨rfl, hb⟩; have HB4 := Aside0.mk hb; clear hb hI3 hJ3 hg0 hg1))
          go_ret2
          exact ⟨by rw [← HR.out, c3, c4b]; rfl, (below_step (below_step (below_alloc (below_alloc (below_step (below_alloc (below_alloc (Below.refl _ _) _) _) HB1.out) _) _) HB2.out) HB3.out)⟩
        · have c4b : (a1_1 == 0) = false := beq_eq_false_iff_ne.mpr c4
          clear c4
          by_cases c5 : (decide (b3 ≤ a2) && decide (a2 ≤ b4)) = true
          · go_enter Try.func13, Try.ntmps13
            go_wp2_with (first | (go_at_call 32; refine (sub_both.calls k a0 a1_0 a1_1 b1 b2 b3 b4 b5 _ A1'.out).mono ?_; rintro e w1 ⟨rfl, hb⟩; have HB1 := Aside0.mk hb; have B24 := Aside0.mk (blk_below (blk_alloc (heap_alloc_new w (.cells #[.int .u64 a1_0, .int .u64 a1_1] 24 (0, 0))) (.cells #[.int .u64 a2] 22 (0, 0))) hb); have B22 := Aside0.mk (blk_below (g := w.heap.size + 1) (o := .cells #[.int .u64 a2] 22 (0, 0)) (by simpa using heap_alloc_new (w.alloc (.cells #[.int .u64 a1_0, .int .u64 a1_1] 24 (0, 0))) (.cells #[.int .u64 a2] 22 (0, 0))) hb); have hI : ((w1.alloc (.cells #[.int .u64 b1, .int .u64 b2] 69 (0, 0))).alloc (.cells #[.int .u64 b3, .int .u64 b4] 69 (0, 0))).cell? ⟨w.heap.size + 1, 0, none⟩ = some (.int .u64 a2) := (blk_cell (blk_alloc (blk_alloc B22.out _) _) 0).trans rfl; clear hb) | (go_at_call 35; refine (leaf_Has.calls k a0 none 0 [] a2 q1 q2 _ (Kd.C_nil _ _) (Nat.le_refl _) A2'.out).mono ?_; rintro e w2 ⟨rfl, hd⟩; have hb := hd.below; have HB2 := Aside0.mk hb; have n1 := Aside0.mk (blk_below (blk_alloc (blk_alloc B24.out (.cells #[.int .u64 b1, .int .u64 b2] 69 (0, 0))) (.cells #[.int .u64 b3, .int .u64 b4] 69 (0, 0))) hb); have n2 := Aside0.mk (blk_below (blk_alloc (blk_alloc B22.out (.cells #[.int .u64 b1, .int .u64 b2] 69 (0, 0))) (.cells #[.int .u64 b3, .int .u64 b4] 69 (0, 0))) hb); have P1 := Aside0.mk (blk_below (blk_alloc (heap_alloc_new w1 (.cells #[.int .u64 b1, .int .u64 b2] 69 (0, 0))) (.cells #[.int .u64 b3, .int .u64 b4] 69 (0, 0))) hb); have P2 := Aside0.mk (blk_below (g := w1.heap.size + 1) (o := .cells #[.int .u64 b3, .int .u64 b4] 69 (0, 0)) (by simpa using heap_alloc_new (w1.alloc (.cells #[.int .u64 b1, .int .u64 b2] 69 (0, 0))) (.cells #[.int .u64 b3, .int .u64 b4] 69 (0, 0))) hb); clear hI B24 B22; have hI2 : w2.cell? ⟨w.heap.size + 1, 0, none⟩ = some (.int .u64 a2) := (blk_cell n2.out 0).trans rfl; have hJ2 : w2.cell? ⟨w.heap.size, 1, none⟩ = some (.int .u64 a1_1) := (blk_cell n1.out 1).trans rfl; have hp0 : w2.cell? ⟨w1.heap.size, 0, none⟩ = some (.int .u64 b1) := (blk_cell P1.out 0).trans rfl; have hp1 : w2.cell? ⟨w1.heap.size, 1, none⟩ = some (.int .u64 b2) := (blk_cell P1.out 1).trans rfl; clear hd hb) | (go_at_call 36; refine (sub_Has_1.calls b1 b2 a2 (w.heap.size + 1) w2 hI2).mono ?_; rintro e w3 ⟨rfl, hb⟩; have HB3 := Aside0.mk hb; have hI3 : w3.cell? ⟨w.heap.size + 1, 0, none⟩ = some (.int .u64 a2) := (blk_cell (blk_below n2.out hb) 0).trans rfl; have hJ3 : w3.cell? ⟨w.heap.size, 1, none⟩ = some (.int .u64 a1_1) := (blk_cell (blk_below n1.out hb) 1).trans rfl; have hg0 : w3.cell? ⟨w1.heap.size + 1, 0, none⟩ = some (.int .u64 b3) := (blk_cell (blk_below P2.out hb) 0).trans rfl; have hg1 : w3.cell? ⟨w1.heap.size + 1, 1, none⟩ = some (.int .u64 b4) := (blk_cell (blk_below P2.out hb) 1).trans rfl; clear hb hI2 hJ2 hp0 hp1) | (go_at_call 36; refine (sub_Has_1.calls b3 b4 a2 (w.heap.size + 1) w3 hI3).mono ?_; rintro e w4 ⟨rfl, hb⟩; have HB4 := Aside0.mk hb; clear hb hI3 hJ3 hg0 hg1))
            go_ret2
            exact ⟨by rw [← HR.out, c3, c4b, c5]; rfl, (below_step (below_step (below_step (below_alloc (below_alloc (below_step (below_alloc (below_alloc (Below.refl _ _) _) _) HB1.out) _) _) HB2.out) HB3.out) HB4.out)⟩
          · have c5b := Bool.eq_false_iff.mpr c5
            clear c5
            go_enter Try.func13, Try.ntmps13
            go_wp2_with (first | (go_at_call 32; refine (sub_both.calls k a0 a1_0 a1_1 b1 b2 b3 b4 b5 _ A1'.out).mono ?_; rintro e w1 ⟨rfl, hb⟩; have HB1 := Aside0.mk hb; have B24 := Aside0.mk (blk_below (blk_alloc (heap_alloc_new w (.cells #[.int .u64 a1_0, .int .u64 a1_1] 24 (0, 0))) (.cells #[.int .u64 a2] 22 (0, 0))) hb); have B22 := Aside0.mk (blk_below (g := w.heap.size + 1) (o := .cells #[.int .u64 a2] 22 (0, 0)) (by simpa using heap_alloc_new (w.alloc (.cells #[.int .u64 a1_0, .int .u64 a1_1] 24 (0, 0))) (.cells #[.int .u64 a2] 22 (0, 0))) hb); have hI : ((w1.alloc (.cells #[.int .u64 b1, .int .u64 b2] 69 (0, 0))).alloc (.cells #[.int .u64 b3, .int .u64 b4] 69 (0, 0))).cell? ⟨w.heap.size + 1, 0, none⟩ = some (.int .u64 a2) := (blk_cell (blk_alloc (blk_alloc B22.out _) _) 0).trans rfl; clear hb) | (go_at_call 35; refine (leaf_Has.calls k a0 none 0 [] a2 q1 q2 _ (Kd.C_nil _ _) (Nat.le_refl _) A2'.out).mono ?_; rintro e w2 ⟨rfl, hd⟩; have hb := hd.below; have HB2 := Aside0.mk hb; have n1 := Aside0.mk (blk_below (blk_alloc (blk_alloc B24.out (.cells #[.int .u64 b1, .int .u64 b2] 69 (0, 0))) (.cells #[.int .u64 b3, .int .u64 b4] 69 (0, 0))) hb); have n2 := Aside0.mk (blk_below (blk_alloc (blk_alloc B22.out (.cells #[.int .u64 b1, .int .u64 b2] 69 (0, 0))) (.cells #[.int .u64 b3, .int .u64 b4] 69 (0, 0))) hb); have P1 := Aside0.mk (blk_below (blk_alloc (heap_alloc_new w1 (.cells #[.int .u64 b1, .int .u64 b2] 69 (0, 0))) (.cells #[.int .u64 b3, .int .u64 b4] 69 (0, 0))) hb); have P2 := Aside0.mk (blk_below (g := w1.heap.size + 1) (o := .cells #[.int .u64 b3, .int .u64 b4] 69 (0, 0)) (by simpa using heap_alloc_new (w1.alloc (.cells #[.int .u64 b1, .int .u64 b2] 69 (0, 0))) (.cells #[.int .u64 b3, .int .u64 b4] 69 (0, 0))) hb); clear hI B24 B22; have hI2 : w2.cell? ⟨w.heap.size + 1, 0, none⟩ = some (.int .u64 a2) := (blk_cell n2.out 0).trans rfl; have hJ2 : w2.cell? ⟨w.heap.size, 1, none⟩ = some (.int .u64 a1_1) := (blk_cell n1.out 1).trans rfl; have hp0 : w2.cell? ⟨w1.heap.size, 0, none⟩ = some (.int .u64 b1) := (blk_cell P1.out 0).trans rfl; have hp1 : w2.cell? ⟨w1.heap.size, 1, none⟩ = some (.int .u64 b2) := (blk_cell P1.out 1).trans rfl; clear hd hb) | (go_at_call 36; refine (sub_Has_1.calls b1 b2 a2 (w.heap.size + 1) w2 hI2).mono ?_; rintro e w3 ⟨rfl, hb⟩; have HB3 := Aside0.mk hb; have hI3 : w3.cell? ⟨w.heap.size + 1, 0, none⟩ = some (.int .u64 a2) := (blk_cell (blk_below n2.out hb) 0).trans rfl; have hJ3 : w3.cell? ⟨w.heap.size, 1, none⟩ = some (.int .u64 a1_1) := (blk_cell (blk_below n1.out hb) 1).trans rfl; have hg0 : w3.cell? ⟨w1.heap.size + 1, 0, none⟩ = some (.int .u64 b3) := (blk_cell (blk_below P2.out hb) 0).trans rfl; have hg1 : w3.cell? ⟨w1.heap.size + 1, 1, none⟩ = some (.int .u64 b4) := (blk_cell (blk_below P2.out hb) 1).trans rfl; clear hb hI2 hJ2 hp0 hp1) | (go_at_call 36; refine (sub_Has_1.calls b3 b4 a2 (w.heap.size + 1) w3 hI3).mono ?_; rintro e w4 ⟨rfl, hb⟩; have HB4 := Aside0.mk hb; clear hb hI3 hJ3 hg0 hg1))
            go_ret2
            exact ⟨by rw [← HR.out, c3, c4b, c5b]; rfl, (below_step (below_step (below_step (below_alloc (below_alloc (below_step (below_alloc (below_alloc (Below.refl _ _) _) _) HB1.out) _) _) HB2.out) HB3.out) HB4.out)⟩
      · have c3b := Bool.eq_false_iff.mpr c3
        clear c3
        go_enter Try.func13, Try.ntmps13
        go_wp2_with (first | (go_at_call 32; refine (sub_both.calls k a0 a1_0 a1_1 b1 b2 b3 b4 b5 _ A1'.out).mono ?_; rintro e w1 ⟨rfl, hb⟩; have HB1 := Aside0.mk hb; have B24 := Aside0.mk (blk_below (blk_alloc (heap_alloc_new w (.cells #[.int .u64 a1_0, .int .u64 a1_1] 24 (0, 0))) (.cells #[.int .u64 a2] 22 (0, 0))) hb); have B22 := Aside0.mk (blk_below (g := w.heap.size + 1) (o := .cells #[.int .u64 a2] 22 (0, 0)) (by simpa using heap_alloc_new (w.alloc (.cells #[.int .u64 a1_0, .int .u64 a1_1] 24 (0, 0))) (.cells #[.int .u64 a2] 22 (0, 0))) hb); have hI : ((w1.alloc (.cells #[.int .u64 b1, .int .u64 b2] 69 (0, 0))).alloc (.cells #[.int .u64 b3, .int .u64 b4] 69 (0, 0))).cell? ⟨w.heap.size + 1, 0, none⟩ = some (.int .u64 a2) := (blk_cell (blk_alloc (blk_alloc B22.out _) _) 0).trans rfl; clear hb) | (go_at_call 35; refine (leaf_Has.calls k a0 none 0 [] a2 q1 q2 _ (Kd.C_nil _ _) (Nat.le_refl _) A2'.out).mono ?_; rintro e w2 ⟨rfl, hd⟩; have hb := hd.below; have HB2 := Aside0.mk hb; have n1 := Aside0.mk (blk_below (blk_alloc (blk_alloc B24.out (.cells #[.int .u64 b1, .int .u64 b2] 69 (0, 0))) (.cells #[.int .u64 b3, .int .u64 b4] 69 (0, 0))) hb); have n2 := Aside0.mk (blk_below (blk_alloc (blk_alloc B22.out (.cells #[.int .u64 b1, .int .u64 b2] 69 (0, 0))) (.cells #[.int .u64 b3, .int .u64 b4] 69 (0, 0))) hb); have P1 := Aside0.mk (blk_below (blk_alloc (heap_alloc_new w1 (.cells #[.int .u64 b1, .int .u64 b2] 69 (0, 0))) (.cells #[.int .u64 b3, .int .u64 b4] 69 (0, 0))) hb); have P2 := Aside0.mk (blk_below (g := w1.heap.size + 1) (o := .cells #[.int .u64 b3, .int .u64 b4] 69 (0, 0)) (by simpa using heap_alloc_new (w1.alloc (.cells #[.int .u64 b1, .int .u64 b2] 69 (0, 0))) (.cells #[.int .u64 b3, .int .u64 b4] 69 (0, 0))) hb); clear hI B24 B22; have hI2 : w2.cell? ⟨w.heap.size + 1, 0, none⟩ = some (.int .u64 a2) := (blk_cell n2.out 0).trans rfl; have hJ2 : w2.cell? ⟨w.heap.size, 1, none⟩ = some (.int .u64 a1_1) := (blk_cell n1.out 1).trans rfl; have hp0 : w2.cell? ⟨w1.heap.size, 0, none⟩ = some (.int .u64 b1) := (blk_cell P1.out 0).trans rfl; have hp1 : w2.cell? ⟨w1.heap.size, 1, none⟩ = some (.int .u64 b2) := (blk_cell P1.out 1).trans rfl; clear hd hb) | (go_at_call 36; refine (sub_Has_1.calls b1 b2 a2 (w.heap.size + 1) w2 hI2).mono ?_; rintro e w3 ⟨rfl, hb⟩; have HB3 := Aside0.mk hb; have hI3 : w3.cell? ⟨w.heap.size + 1, 0, none⟩ = some (.int .u64 a2) := (blk_cell (blk_below n2.out hb) 0).trans rfl; have hJ3 : w3.cell? ⟨w.heap.size, 1, none⟩ = some (.int .u64 a1_1) := (blk_cell (blk_below n1.out hb) 1).trans rfl; have hg0 : w3.cell? ⟨w1.heap.size + 1, 0, none⟩ = some (.int .u64 b3) := (blk_cell (blk_below P2.out hb) 0).trans rfl; have hg1 : w3.cell? ⟨w1.heap.size + 1, 1, none⟩ = some (.int .u64 b4) := (blk_cell (blk_below P2.out hb) 1).trans rfl; clear hb hI2 hJ2 hp0 hp1) | (go_at_call 36; refine (sub_Has_1.calls b3 b4 a2 (w.heap.size + 1) w3 hI3).mono ?_; rintro e w4 ⟨rfl, hb⟩; have HB4 := Aside0.mk hb; clear hb hI3 hJ3 hg0 hg1))
        go_ret2
        exact ⟨by rw [← HR.out, c3b]; rfl, (below_step (below_step (below_alloc (below_alloc (below_step (below_alloc (below_alloc (Below.refl _ _) _) _) HB1.out) _) _) HB2.out) HB3.out)⟩
    · rw [if_neg c2] at h
      have c2b : (q2 != 0) = true := bne_iff_ne.mpr c2
      clear c2
      simp only [Option.some.injEq, Prod.mk.injEq] at h
      obtain ⟨rfl, rfl⟩ := h
      go_enter Try.func13, Try.ntmps13
      go_wp2_with (first | (go_at_call 32; refine (sub_both.calls k a0 a1_0 a1_1 b1 b2 b3 b4 b5 _ A1'.out).mono ?_; rintro e w1 ⟨rfl, hb⟩; have HB1 := Aside0.mk hb; have B24 := Aside0.mk (blk_below (blk_alloc (heap_alloc_new w (.cells #[.int .u64 a1_0, .int .u64 a1_1] 24 (0, 0))) (.cells #[.int .u64 a2] 22 (0, 0))) hb); have B22 := Aside0.mk (blk_below (g := w.heap.size + 1) (o := .cells #[.int .u64 a2] 22 (0, 0)) (by simpa using heap_alloc_new (w.alloc (.cells #[.int .u64 a1_0, .int .u64 a1_1] 24 (0, 0))) (.cells #[.int .u64 a2] 22 (0, 0))) hb); have hI : ((w1.alloc (.cells #[.int .u64 b1, .int .u64 b2] 69 (0, 0))).alloc (.cells #[.int .u64 b3, .int .u64 b4] 69 (0, 0))).cell? ⟨w.heap.size + 1, 0, none⟩ = some (.int .u64 a2) := (blk_cell (blk_alloc (blk_alloc B22.out _) _) 0).trans rfl; clear hb) | (go_at_call 35; refine (leaf_Has.calls k a0 none 0 [] a2 q1 q2 _ (Kd.C_nil _ _) (Nat.le_refl _) A2'.out).mono ?_; rintro e w2 ⟨rfl, hd⟩; have hb := hd.below; have HB2 := Aside0.mk hb; have n1 := Aside0.mk (blk_below (blk_alloc (blk_alloc B24.out (.cells #[.int .u64 b1, .int .u64 b2] 69 (0, 0))) (.cells #[.int .u64 b3, .int .u64 b4] 69 (0, 0))) hb); have n2 := Aside0.mk (blk_below (blk_alloc (blk_alloc B22.out (.cells #[.int .u64 b1, .int .u64 b2] 69 (0, 0))) (.cells #[.int .u64 b3, .int .u64 b4] 69 (0, 0))) hb); have P1 := Aside0.mk (blk_below (blk_alloc (heap_alloc_new w1 (.cells #[.int .u64 b1, .int .u64 b2] 69 (0, 0))) (.cells #[.int .u64 b3, .int .u64 b4] 69 (0, 0))) hb); have P2 := Aside0.mk (blk_below (g := w1.heap.size + 1) (o := .cells #[.int .u64 b3, .int .u64 b4] 69 (0, 0)) (by simpa using heap_alloc_new (w1.alloc (.cells #[.int .u64 b1, .int .u64 b2] 69 (0, 0))) (.cells #[.int .u64 b3, .int .u64 b4] 69 (0, 0))) hb); clear hI B24 B22; have hI2 : w2.cell? ⟨w.heap.size + 1, 0, none⟩ = some (.int .u64 a2) := (blk_cell n2.out 0).trans rfl; have hJ2 : w2.cell? ⟨w.heap.size, 1, none⟩ = some (.int .u64 a1_1) := (blk_cell n1.out 1).trans rfl; have hp0 : w2.cell? ⟨w1.heap.size, 0, none⟩ = some (.int .u64 b1) := (blk_cell P1.out 0).trans rfl; have hp1 : w2.cell? ⟨w1.heap.size, 1, none⟩ = some (.int .u64 b2) := (blk_cell P1.out 1).trans rfl; clear hd hb) | (go_at_call 36; refine (sub_Has_1.calls b1 b2 a2 (w.heap.size + 1) w2 hI2).mono ?_; rintro e w3 ⟨rfl, hb⟩; have HB3 := Aside0.mk hb; have hI3 : w3.cell? ⟨w.heap.size + 1, 0, none⟩ = some (.int .u64 a2) := (blk_cell (blk_below n2.out hb) 0).trans rfl; have hJ3 : w3.cell? ⟨w.heap.size, 1, none⟩ = some (.int .u64 a1_1) := (blk_cell (blk_below n1.out hb) 1).trans rfl; have hg0 : w3.cell? ⟨w1.heap.size + 1, 0, none⟩ = some (.int .u64 b3) := (blk_cell (blk_below P2.out hb) 0).trans rfl; have hg1 : w3.cell? ⟨w1.heap.size + 1, 1, none⟩ = some (.int .u64 b4) := (blk_cell (blk_below P2.out hb) 1).trans rfl; clear hb hI2 hJ2 hp0 hp1) | (go_at_call 36; refine (sub_Has_1.calls b3 b4 a2 (w.heap.size + 1) w3 hI3).mono ?_; rintro e w4 ⟨rfl, hb⟩; have HB4 := Aside0.mk hb; clear hb hI3 hJ3 hg0 hg1))
      go_ret2
      exact ⟨rfl, (below_step (below_alloc (below_alloc (below_step (below_alloc (below_alloc (Below.refl _ _) _) _) HB1.out) _) _) HB2.out)⟩
  · rw [if_neg c1] at h
    simp only [Option.some.injEq, Prod.mk.injEq] at h
    obtain ⟨rfl, rfl⟩ := h
    have c1b : (b5 != 0) = true := bne_iff_ne.mpr c1
    clear c1
    go_enter Try.func13, Try.ntmps13
    go_wp2_with (first | (go_at_call 32; refine (sub_both.calls k a0 a1_0 a1_1 b1 b2 b3 b4 b5 _ A1'.out).mono ?_; rintro e w1 ⟨rfl, hb⟩; have HB1 := Aside0.mk hb; have B24 := Aside0.mk (blk_below (blk_alloc (heap_alloc_new w (.cells #[.int .u64 a1_0, .int .u64 a1_1] 24 (0, 0))) (.cells #[.int .u64 a2] 22 (0, 0))) hb); have B22 := Aside0.mk (blk_below (g := w.heap.size + 1) (o := .cells #[.int .u64 a2] 22 (0, 0)) (by simpa using heap_alloc_new (w.alloc (.cells #[.int .u64 a1_0, .int .u64 a1_1] 24 (0, 0))) (.cells #[.int .u64 a2] 22 (0, 0))) hb); have hI : ((w1.alloc (.cells #[.int .u64 b1, .int .u64 b2] 69 (0, 0))).alloc (.cells #[.int .u64 b3, .int .u64 b4] 69 (0, 0))).cell? ⟨w.heap.size + 1, 0, none⟩ = some (.int .u64 a2) := (blk_cell (blk_alloc (blk_alloc B22.out _) _) 0).trans rfl; clear hb) | (go_at_call 35; refine (leaf_Has.calls k a0 none 0 [] a2 q1 q2 _ (Kd.C_nil _ _) (Nat.le_refl _) A2'.out).mono ?_; rintro e w2 ⟨rfl, hd⟩; have hb := hd.below; have HB2 := Aside0.mk hb; have n1 := Aside0.mk (blk_below (blk_alloc (blk_alloc B24.out (.cells #[.int .u64 b1, .int .u64 b2] 69 (0, 0))) (.cells #[.int .u64 b3, .int .u64 b4] 69 (0, 0))) hb); have n2 := Aside0.mk (blk_below (blk_alloc (blk_alloc B22.out (.cells #[.int .u64 b1, .int .u64 b2] 69 (0, 0))) (.cells #[.int .u64 b3, .int .u64 b4] 69 (0, 0))) hb); have P1 := Aside0.mk (blk_below (blk_alloc (heap_alloc_new w1 (.cells #[.int .u64 b1, .int .u64 b2] 69 (0, 0))) (.cells #[.int .u64 b3, .int .u64 b4] 69 (0, 0))) hb); have P2 := Aside0.mk (blk_below (g := w1.heap.size + 1) (o := .cells #[.int .u64 b3, .int .u64 b4] 69 (0, 0)) (by simpa using heap_alloc_new (w1.alloc (.cells #[.int .u64 b1, .int .u64 b2] 69 (0, 0))) (.cells #[.int .u64 b3, .int .u64 b4] 69 (0, 0))) hb); clear hI B24 B22; have hI2 : w2.cell? ⟨w.heap.size + 1, 0, none⟩ = some (.int .u64 a2) := (blk_cell n2.out 0).trans rfl; have hJ2 : w2.cell? ⟨w.heap.size, 1, none⟩ = some (.int .u64 a1_1) := (blk_cell n1.out 1).trans rfl; have hp0 : w2.cell? ⟨w1.heap.size, 0, none⟩ = some (.int .u64 b1) := (blk_cell P1.out 0).trans rfl; have hp1 : w2.cell? ⟨w1.heap.size, 1, none⟩ = some (.int .u64 b2) := (blk_cell P1.out 1).trans rfl; clear hd hb) | (go_at_call 36; refine (sub_Has_1.calls b1 b2 a2 (w.heap.size + 1) w2 hI2).mono ?_; rintro e w3 ⟨rfl, hb⟩; have HB3 := Aside0.mk hb; have hI3 : w3.cell? ⟨w.heap.size + 1, 0, none⟩ = some (.int .u64 a2) := (blk_cell (blk_below n2.out hb) 0).trans rfl; have hJ3 : w3.cell? ⟨w.heap.size, 1, none⟩ = some (.int .u64 a1_1) := (blk_cell (blk_below n1.out hb) 1).trans rfl; have hg0 : w3.cell? ⟨w1.heap.size + 1, 0, none⟩ = some (.int .u64 b3) := (blk_cell (blk_below P2.out hb) 0).trans rfl; have hg1 : w3.cell? ⟨w1.heap.size + 1, 1, none⟩ = some (.int .u64 b4) := (blk_cell (blk_below P2.out hb) 1).trans rfl; clear hb hI2 hJ2 hp0 hp1) | (go_at_call 36; refine (sub_Has_1.calls b3 b4 a2 (w.heap.size + 1) w3 hI3).mono ?_; rintro e w4 ⟨rfl, hb⟩; have HB4 := Aside0.mk hb; clear hb hI3 hJ3 hg0 hg1))
    go_ret2
    exact ⟨rfl, (below_step (below_alloc (below_alloc (below_step (below_alloc (below_alloc (Below.refl _ _) _) _) HB1.out) _) _) HB2.out)⟩
theorem tr_al {W : World} {o : Obj} {a : Addr} {v : Value} (h : W.cell? a = some v) : (W.alloc o).cell? a = some v := by
  have hb : a.block < W.heap.size := World.block_lt_of_cell? _ _ h
  rw [World.cell?] at h ⊢
  have : (W.alloc o).heap[a.block]? = W.heap[a.block]? := by
    show (W.heap.push o)[a.block]? = _
    rw [Array.getElem?_push_lt hb, Array.getElem?_eq_getElem hb]
  rw [this]; exact h
theorem tr_goesC {P : Program} {ops : Array Oper} {Q : Exit → Act → World → Prop} {rest : List Oper} {oi : Oper} {a : Act} {w : World} (N : Option Tmp) (hd : oi.dst = N) (hg : oi.guard = none) {f : FuncId} {caps : Array Value} {x : Operand} {fn : Func} {xs_ : Array Operand} {ts : Array TypeId} (hf : P.funcs[f]? = some fn) (hname : (fn.name == "runtime.NumGoroutine") = false) (hb : fn.body.isSome = true) (args : Array Value)
    (hop : oi.op = .call { callee := .value x, args := xs_, argTypes := ts }) (hx : a.eval x = .func (.func f) #[] caps) (hargs : xs_.map a.eval = args)
    (h : Calls P f (args ++ caps) w fun e w' => ∃ v, e = .returned v ∧ wpList P ops Q rest (a.put N v) w') : wpList P ops Q (oi :: rest) a w := by
  refine wpList_plain hg fun K hK => ?_
  have he := enters_ hf hname hb (args ++ caps) w
  have hrun : (execOp a.eval oi).run P w = .ok (.enter f (args ++ caps)) w := by
    unfold execOp
    simp [hop, resolve, Deferred.ofValue, invoke, hx, hargs, he]
  unfold Oper.wp
  rw [hrun, Oper.upon_enter]
  refine h.mono fun e w'' hh => ?_
  obtain ⟨v, rfl, hk⟩ := hh
  subst hd
  exact hK _ _ hk
theorem tr_gateC {P : Program} {ops : Array Oper} {Q : Exit → Act → World → Prop} {rest : List Oper} {o : Oper} {a : Act} {W : World} {x : Operand} {xs_ : Array Operand} {ts : Array TypeId} (_ho : o.op = .call { callee := .value x, args := xs_, argTypes := ts }) (h : wpList P ops Q (o :: rest) a W) : wpList P ops Q (o :: rest) a W := h
def trace_any.f (q : S24 → Option Bool) : List S24 → Option Bool
  | [] => some false
  | x :: l => (q x).bind fun b => if b = true then some true else trace_any.f q l
theorem trace_any.mono {q q' : S24 → Option Bool} (hq : ∀ x, LeO (q x) (q' x)) : ∀ l, LeO (trace_any.f q l) (trace_any.f q' l)
  | [] => LeO.refl _
  | x :: l => LeO.bind (hq x) (fun _ => LeO.ite (LeO.refl _) (trace_any.mono hq l))
set_option maxHeartbeats 4000000 in
set_option maxRecDepth 100000 in
theorem trace_index.calls (q : S24 → Option Bool) (g : Nat) (fn : Func) (lb : Array Value) (hf : Try.prog.funcs[g]? = some fn) (hname : (fn.name == "runtime.NumGoroutine") = false) (hbo : fn.body.isSome = true) (A : Option Addr) (c : Nat) (l : List S24) (r : Bool) (w : World) (hr : Kd.C k24 w A l.length l) (hlen : l.length ≤ 1000000)
    (hst : ∀ (x : S24) (b : Bool) (W : World), Below w.heap.size w W → q x = some b → Calls Try.prog g (#[.agg #[.int .u64 x.f0, .int .u64 x.f1]] ++ lb) W fun e W' => e = .returned (.bool b) ∧ Below W.heap.size W W')
    (h : trace_any.f q l = some r) :
    Calls Try.prog 67 #[.slice A l.length c, .func (.func g) #[] lb] w fun e w' => (∃ i : Int, e = .returned (.int .i64 i) ∧ decide (0 ≤ i) = r) ∧ Below w.heap.size w w' := by
  have HR := Aside0.mk hr
  have HF := Aside0.mk hf
  have HN := Aside0.mk hname
  have HBO := Aside0.mk hbo
  have HST := Aside0.mk hst
  have H0 := Aside0.mk h
  clear hr hf hname hbo hst h
  go_enter Try.func67, Try.ntmps67
  go_wp2
  go_loopw [8] (fun i wr => ∃ k : Nat, i = .int .i64 k ∧ Aside0 (k ≤ l.length) ∧ Aside0 (trace_any.f q (l.drop k) = some r) ∧ Aside0 (Below w.heap.size w wr)) (fun i _ => l.length - (intOf i).toNat)
  case atStart => exact ⟨0, rfl, ⟨Nat.zero_le _⟩, ⟨H0.out⟩, ⟨Below.refl _ _⟩⟩
  case round =>
    obtain ⟨k, rfl, HK, HA, HB⟩ := hrel
    by_cases hlt : k < l.length
    · obtain ⟨ad, e1, hx0, hx1⟩ := at_T24 (Kd.C_below HR.out HB.out) (k : Int) (by omega) (by omega)
      cases e1
      rw [Int.toNat_natCast] at hx0 hx1
      have hg : rd_T24 l (k : Int) = l[k] := by
        first | (unfold rd_T24; simp [hlt]; done) | (simp [rd_T24, rdOf, hlt]; done)
      rw [hg] at hx0 hx1
      have hd : l.drop k = l[k] :: l.drop (k + 1) := List.drop_eq_getElem_cons hlt
      have HA2 := HA.out
      rw [hd, trace_any.f] at HA2
      clear hg hd HA
      generalize l[k] = x at *
      obtain ⟨b, hq, HA3⟩ := Option.bind_eq_some_iff.mp HA2
      clear HA2
      have HQ := Aside0.mk hq
      have HD := Aside0.mk HA3
      clear hq HA3
      have hkd : decide ((k : Int) < (l.length : Int)) = true := decide_eq_true (by omega)
      cases b with
      | true =>
        go_wp2_with ((with_reducible refine tr_gateC (x := .tmp 11) (xs_ := #[.tmp 15]) rfl ?_); refine tr_goesC (some 16) rfl rfl HF.out HN.out HBO.out #[.agg #[.int .u64 x.f0, .int .u64 x.f1]] rfl rfl (by (try simp only [List.map_toArray, List.map_cons, List.map_nil]); first | done | rfl) ?_; refine (HST.out x true _ HB.out HQ.out).mono ?_; rintro e w5 ⟨rfl, hb⟩; refine ⟨_, rfl, ?_⟩; have HB5 := Aside0.mk (below_step HB.out hb); clear hb)
        go_ret
        have h9 : some true = some r := HD.out
        have h8 := Option.some.inj h9
        exact ⟨⟨_, rfl, by rw [← h8]; exact decide_eq_true (by omega)⟩, HB5.out⟩
      | false =>
        go_wp2_with ((with_reducible refine tr_gateC (x := .tmp 11) (xs_ := #[.tmp 15]) rfl ?_); refine tr_goesC (some 16) rfl rfl HF.out HN.out HBO.out #[.agg #[.int .u64 x.f0, .int .u64 x.f1]] rfl rfl (by (try simp only [List.map_toArray, List.map_cons, List.map_nil]); first | done | rfl) ?_; refine (HST.out x false _ HB.out HQ.out).mono ?_; rintro e w5 ⟨rfl, hb⟩; refine ⟨_, rfl, ?_⟩; have HB5 := Aside0.mk (below_step HB.out hb); clear hb)
        go_roundw
        case rel => exact ⟨k + 1, by go_num, ⟨by omega⟩, ⟨by have := HD.out; simpa using this⟩, HB5⟩
        case measure => simp [intOf]; omega
    · have hkl : k = l.length := by have := HK.out; omega
      subst hkl
      have hkd : decide ((l.length : Int) < (l.length : Int)) = false := decide_eq_false (by omega)
      have HA2 := HA.out
      rw [List.drop_length, trace_any.f] at HA2
      go_wp2
      go_ret
      have h8 := Option.some.inj HA2
      exact ⟨⟨_, rfl, by rw [← h8]; rfl⟩, HB.out⟩
set_option maxHeartbeats 4000000 in
set_option maxRecDepth 100000 in
theorem trace_contains.calls (q : S24 → Option Bool) (g : Nat) (fn : Func) (lb : Array Value) (hf : Try.prog.funcs[g]? = some fn) (hname : (fn.name == "runtime.NumGoroutine") = false) (hbo : fn.body.isSome = true) (A : Option Addr) (c : Nat) (l : List S24) (r : Bool) (w : World) (hr : Kd.C k24 w A l.length l) (hlen : l.length ≤ 1000000)
    (hst : ∀ (x : S24) (b : Bool) (W : World), Below w.heap.size w W → q x = some b → Calls Try.prog g (#[.agg #[.int .u64 x.f0, .int .u64 x.f1]] ++ lb) W fun e W' => e = .returned (.bool b) ∧ Below W.heap.size W W')
    (h : trace_any.f q l = some r) :
    Calls Try.prog 41 #[.slice A l.length c, .func (.func g) #[] lb] w fun e w' => e = .returned (.bool r) ∧ Below w.heap.size w w' := by
  have K := Aside0.mk (trace_index.calls q g fn lb hf hname hbo A c l r w hr hlen hst h)
  clear hr hf hname hbo hst h
  go_enter Try.func41, Try.ntmps41
  go_wp2_with ((with_reducible refine gate_callee (f := 67) rfl ?_); refine goesL_ (some 7) rfl rfl Try.func67 (by kernel_rfl) rfl #[.slice A l.length c, .func (.func g) #[] lb] rfl (by (try simp only [List.map_toArray, List.map_cons, List.map_nil]); first | done | rfl) ?_; refine (K.out).mono ?_; rintro e w5 ⟨⟨i, rfl, hi⟩, hb⟩; refine ⟨_, rfl, ?_⟩; have HI := Aside0.mk hi; have HB5 := Aside0.mk hb; clear hi hb)
  go_ret
  exact ⟨by rw [← HI.out]; rfl, HB5.out⟩
set_option maxHeartbeats 4000000 in
set_option maxRecDepth 100000 in
theorem trace_Ask1.calls (k : Nat) (a0 : Int) (bh : Nat) (x : S24) (b : Bool) (w : World) (hc : w.cell? ⟨bh, 0, none⟩ = some (.int .i64 a0)) (h : ((sub_Check.f k a0 x.f0 x.f1).bind fun r => some (r != 0)) = some b) :
    Calls Try.prog 40 (#[.agg #[.int .u64 x.f0, .int .u64 x.f1]] ++ #[.pointer (some ⟨bh, 0, none⟩)]) w fun e w' => e = .returned (.bool b) ∧ Below w.heap.size w w' := by
  have hu24 := Try.underlying24
  obtain ⟨r, A3_, H⟩ := Option.bind_eq_some_iff.mp h
  have A3 := Aside0.mk A3_
  obtain rfl := Option.some.inj H
  clear A3_ h H
  have HB := Aside0.mk (Below.refl w.heap.size w)
  have hc2 : (w.alloc (.cells #[.int .u64 x.f0, .int .u64 x.f1] 24)).cell? ⟨bh, 0, none⟩ = some (.int .i64 a0) := tr_al hc
  go_enter Try.func40, Try.ntmps40
  go_wp2_with ((with_reducible refine gate_callee (f := 38) rfl ?_); refine goesL_ (some 6) rfl rfl Try.func38 (by kernel_rfl) rfl #[.int .i64 a0, .agg #[.int .u64 x.f0, .int .u64 x.f1]] rfl (by (try simp only [List.map_toArray, List.map_cons, List.map_nil]); first | done | rfl) ?_; (with_reducible refine (sub_Check.calls k a0 x.f0 x.f1 r _ A3.out).mono ?_); rintro e w5 ⟨rfl, hb⟩; refine ⟨_, rfl, ?_⟩; have HB5 := Aside0.mk (below_step (below_alloc (Below.refl _ _) _) hb); clear hb)
  go_ret
  exact ⟨rfl, HB5.out⟩
def trace_asks1.f (k : Nat) (a0 i : Int) : List S24 → Option Bool
  | [] => some false
  | s :: l => (sub_Has.f k a0 s.f0 s.f1 i).bind fun p => if p.2 = 0 then (if p.1 = true then some true else trace_asks1.f k a0 i l) else trace_asks1.f k a0 i l
def trace_asks.f (k : Nat) (a0 : Int) (l : List S24) : List Int → Option Bool
  | [] => some false
  | i :: t => (trace_asks1.f k a0 i l).bind fun b => if b = true then some true else trace_asks.f k a0 l t
theorem trace_asks1.mono (k : Nat) (a0 i : Int) : ∀ l, LeO (trace_asks1.f k a0 i l) (trace_asks1.f (k + 1) a0 i l)
  | [] => LeO.refl _
  | s :: l => LeO.bind (sub_Has.mono _ _ _ _ _) (fun _ => LeO.ite (LeO.ite (LeO.refl _) (trace_asks1.mono k a0 i l)) (trace_asks1.mono k a0 i l))
theorem trace_asks.mono (k : Nat) (a0 : Int) (l : List S24) : ∀ t, LeO (trace_asks.f k a0 l t) (trace_asks.f (k + 1) a0 l t)
  | [] => LeO.refl _
  | i :: t => LeO.bind (trace_asks1.mono _ _ _ _) (fun _ => LeO.ite (LeO.refl _) (trace_asks.mono k a0 l t))
def trace_Ask.f (k : Nat) (a0 : Int) (a1_0 : Bool) (l1_1 : List Int) (l1_2 : List Bool) (a2 : Int) (l3 : List S24) : Option (Bool × Int) :=
  (leaf_Check.f k a0 l1_1).bind fun t => if t = 0 then (if a2 < 0 then some (false, 1) else (if l3.length ≤ 1000000 ∧ l1_1.length ≤ 1000000 then
    ((trace_any.f (fun s => (sub_Check.f k a0 s.f0 s.f1).bind fun r => some (r != 0)) l3).bind fun o => if o = true then some (false, 1) else (if a1_0 = true then (if a2 < (l1_2.length : Int) then some (rdOf false l1_2 a2, 0) else some (false, 0)) else ((trace_asks.f k a0 l3 l1_1).bind fun b => some (b, 0)))) else none)) else some (false, 1)
theorem trace_Ask.mono : ∀ a0 a1 a2 a3 a4 a5 k, LeO (trace_Ask.f k a0 a1 a2 a3 a4 a5) (trace_Ask.f (k + 1) a0 a1 a2 a3 a4 a5) := fun a0 a1 a2 a3 a4 a5 k =>
  LeO.bind (leaf_Check.mono _ _ _) (fun _ => LeO.ite (LeO.ite (LeO.refl _) (LeO.ite (LeO.bind (trace_any.mono (fun _ => LeO.bind (sub_Check.mono _ _ _ _) (fun _ => LeO.refl _)) _) (fun _ => LeO.ite (LeO.refl _) (LeO.ite (LeO.refl _) (LeO.bind (trace_asks.mono _ _ _ _) (fun _ => LeO.refl _))))) (LeO.refl _))) (LeO.refl _))
set_option maxHeartbeats 8000000 in
set_option maxRecDepth 100000 in
theorem trace_Ask.calls (k : Nat) (a0 : Int) (a1_0 : Bool) (A1_1 : Option Addr) (c1_1 : Nat) (l1_1 : List Int) (A1_2 : Option Addr) (c1_2 : Nat) (l1_2 : List Bool) (a2 : Int) (A3 : Option Addr) (c3 : Nat) (l3 : List S24) (r1 : Bool) (r2 : Int) (w : World) (hr1_1 : Kd.C (Kd.int .u64) w A1_1 l1_1.length l1_1) (hc1_1 : l1_1.length ≤ c1_1) (hr1_2 : Kd.C Kd.bool w A1_2 l1_2.length l1_2) (hc1_2 : l1_2.length ≤ c1_2) (hr3 : Kd.C k24 w A3 l3.length l3) (hc3 : l3.length ≤ c3) (h : trace_Ask.f k a0 a1_0 l1_1 l1_2 a2 l3 = some (r1, r2)) :
    Calls Try.prog 16 #[.int .i64 a0, .agg #[.bool a1_0, .slice A1_1 l1_1.length c1_1, .slice A1_2 l1_2.length c1_2], .int .i64 a2, .slice A3 l3.length c3] w fun e w' => e = .returned (.tuple #[.bool r1, .int .i64 r2]) ∧ Below w.heap.size w w' := by
  have hu42 := Try.underlying42
  have hu24 := Try.underlying24
  have hmf : ∀ (fn : Fn) (first cap : Array Value) (w : World), (Instr.makeFunc fn first cap).run Try.prog w = .ok (.func fn first cap) w := fun _ _ _ _ => rfl
  have HR1 := Aside0.mk hr1_1
  have HC1 := Aside0.mk hc1_1
  have HR2 := Aside0.mk hr1_2
  have HR3 := Aside0.mk hr3
  clear hr1_1 hc1_1 hr1_2 hr3
  have HB := Aside0.mk (Below.refl w.heap.size w)
  obtain ⟨t, A3_, H⟩ := Option.bind_eq_some_iff.mp h
  have A5 := Aside0.mk A3_
  clear A3_ h
  have H' := Aside0.mk H
  clear H
  go_enter Try.func16, Try.ntmps16
  go_upto_region 1 with (first
    | ((with_reducible refine gate_dst (N := 4) rfl ?_); refine box_event ?hg (N := 4) ?hd (cs := #[.int .i64 a0]) (t := 3) ?hr ?_; (case hd => rfl); (case hg => rfl); (case hr => first | (go_simp; done) | (go_simp; rfl)); intro gh hg w1 hbox hb; have n0_ := Aside0.mk (below_step HB.out hb); have BKH := Aside0.mk hbox; have GEH := Aside0.mk (show w.heap.size ≤ gh by rw [hg]; exact Nat.le_refl _); clear HB; have HB := n0_; clear n0_ hb hbox hg)
    | ((with_reducible refine gate_dst (N := 5) rfl ?_); refine box_event ?hg (N := 5) ?hd (cs := #[.bool a1_0, .slice A1_1 l1_1.length c1_1, .slice A1_2 l1_2.length c1_2]) (t := 42) ?hr ?_; (case hd => rfl); (case hg => rfl); (case hr => first | (go_simp; done) | (go_simp; rfl)); intro gp hg w2 hbox hb; have n0_ := Aside0.mk (below_step HB.out hb); have n1_ := Aside0.mk (blk_below BKH.out hb); have BKP := Aside0.mk hbox; clear HB BKH; have HB := n0_; have BKH := n1_; clear n0_ n1_ hb hbox hg))
  (try simp only [Act.put, List.setIfInBounds_toArray, List.set_cons_zero, List.set_cons_succ])
  have hch : w2.cell? ⟨gh, 0, none⟩ = some (.int .i64 a0) := (blk_cell BKH.out 0).trans rfl
  have hcp0 : w2.cell? ⟨gp, 0, none⟩ = some (.bool a1_0) := (blk_cell BKP.out 0).trans rfl
  have hcp1 : w2.cell? ⟨gp, 1, none⟩ = some (.slice A1_1 l1_1.length c1_1) := (blk_cell BKP.out 1).trans rfl
  have hcp2 : w2.cell? ⟨gp, 2, none⟩ = some (.slice A1_2 l1_2.length c1_2) := (blk_cell BKP.out 2).trans rfl
  have H := H'.out
  clear H'
  by_cases c1 : t = 0
  · rw [if_pos c1] at H
    have c1b : (t != 0) = false := bne_eq_false_iff_eq.mpr c1
    clear c1
    by_cases c2 : a2 < 0
    · rw [if_pos c2] at H
      have c2b : decide (a2 < 0) = true := decide_eq_true c2
      clear c2
      simp only [Option.some.injEq, Prod.mk.injEq] at H
      obtain ⟨rfl, rfl⟩ := H
      go_wp2_with ((with_reducible refine gate_callee (f := 27) rfl ?_); refine goesL_ (some 21) rfl rfl Try.func27 (by kernel_rfl) rfl #[.int .i64 a0, .slice A1_1 l1_1.length c1_1] rfl (by (try simp only [List.map_toArray, List.map_cons, List.map_nil]); first | done | rfl) ?_; (with_reducible refine (leaf_Check.calls k a0 _ _ l1_1 t _ (Kd.C_below HR1.out HB.out) HC1.out A5.out).mono ?_); rintro e w5 ⟨rfl, ⟨nd, rfl⟩⟩; refine ⟨_, rfl, ?_⟩)
      go_ret2
      exact ⟨rfl, pw_below_drewN HB.out nd⟩
    · rw [if_neg c2] at H
      have c2b : decide (a2 < 0) = false := decide_eq_false c2
      by_cases c3 : l3.length ≤ 1000000 ∧ l1_1.length ≤ 1000000
      · rw [if_pos c3] at H
        obtain ⟨hl3, hl1⟩ := c3
        obtain ⟨o, ho, H⟩ := Option.bind_eq_some_iff.mp H
        have HO := Aside0.mk ho
        clear ho
        have key : ∀ nd, Calls Try.prog 41 #[.slice A3 l3.length c3, .func (.func 40) #[] #[.pointer (some ⟨gh, 0, none⟩)]] (w2.drewN nd) fun e w' => e = .returned (.bool o) ∧ Below w2.heap.size (w2.drewN nd) w' := fun nd =>
          trace_contains.calls _ 40 Try.f40 _ Try.func40 (by kernel_rfl) rfl A3 c3 l3 o (w2.drewN nd) (Kd.C_drewN (Kd.C_below HR3.out HB.out) _) hl3 (fun x b W hB hq => trace_Ask1.calls k a0 gh x b W ((hB.cell (p := ⟨gh, 0, none⟩) (by show gh < w2.heap.size; exact blk_lt BKH.out)).trans hch) hq) HO.out
        have KEY := Aside0.mk key
        clear key HO
        cases o with
        | true =>
          replace H : some (false, (1 : Int)) = some (r1, r2) := H
          simp only [Option.some.injEq, Prod.mk.injEq] at H
          obtain ⟨rfl, rfl⟩ := H
          go_wp2_with (first | ((with_reducible refine gate_callee (f := 27) rfl ?_); refine goesL_ (some 21) rfl rfl Try.func27 (by kernel_rfl) rfl #[.int .i64 a0, .slice A1_1 l1_1.length c1_1] rfl (by (try simp only [List.map_toArray, List.map_cons, List.map_nil]); first | done | rfl) ?_; (with_reducible refine (leaf_Check.calls k a0 _ _ l1_1 t _ (Kd.C_below HR1.out HB.out) HC1.out A5.out).mono ?_); rintro e w5 ⟨rfl, ⟨nd, rfl⟩⟩; refine ⟨_, rfl, ?_⟩) | (go_at_call 41; refine (KEY.out _).mono ?_; rintro e w3 ⟨rfl, hb⟩; have HB3 := Aside0.mk (Below.trans (pw_below_drewN HB.out nd) (hb.mono HB.out.size)); have BKP3 := Aside0.mk ((hb.block gp (blk_lt BKP.out)).trans BKP.out); have BKH3 := Aside0.mk ((hb.block gh (blk_lt BKH.out)).trans BKH.out); clear hb; have hch3 : w3.cell? ⟨gh, 0, none⟩ = some (.int .i64 a0) := (blk_cell BKH3.out 0).trans rfl; have hcq0 : w3.cell? ⟨gp, 0, none⟩ = some (.bool a1_0) := (blk_cell BKP3.out 0).trans rfl; have hcq1 : w3.cell? ⟨gp, 1, none⟩ = some (.slice A1_1 l1_1.length c1_1) := (blk_cell BKP3.out 1).trans rfl; have hcq2 : w3.cell? ⟨gp, 2, none⟩ = some (.slice A1_2 l1_2.length c1_2) := (blk_cell BKP3.out 2).trans rfl))
          go_ret2
          exact ⟨rfl, HB3.out⟩
        | false =>
          replace H : (if a1_0 = true then (if a2 < (l1_2.length : Int) then some (rdOf false l1_2 a2, (0 : Int)) else some (false, 0)) else ((trace_asks.f k a0 l3 l1_1).bind fun b => some (b, 0))) = some (r1, r2) := H
          cases a1_0 with
          | true =>
            replace H : (if a2 < (l1_2.length : Int) then some (rdOf false l1_2 a2, (0 : Int)) else some (false, 0)) = some (r1, r2) := H
            by_cases c4 : a2 < (l1_2.length : Int)
            · rw [if_pos c4] at H
              have c4b : decide (a2 < (l1_2.length : Int)) = true := decide_eq_true c4
              simp only [Option.some.injEq, Prod.mk.injEq] at H
              obtain ⟨rfl, rfl⟩ := H
              have p28 : 0 ≤ (a2 : Int) := by omega
              have q28 : a2 < (l1_2.length : Int) := c4
              obtain ⟨ad28, e28, hx28_0⟩ := Kd.at_bool HR2.out a2 p28 c4
              cases e28
              have HX := Aside0.mk hx28_0
              clear hx28_0 c2 c4
              replace p28 := eq_true p28
              replace q28 := eq_true q28
              go_wp2_with (first | ((with_reducible refine gate_callee (f := 27) rfl ?_); refine goesL_ (some 21) rfl rfl Try.func27 (by kernel_rfl) rfl #[.int .i64 a0, .slice A1_1 l1_1.length c1_1] rfl (by (try simp only [List.map_toArray, List.map_cons, List.map_nil]); first | done | rfl) ?_; (with_reducible refine (leaf_Check.calls k a0 _ _ l1_1 t _ (Kd.C_below HR1.out HB.out) HC1.out A5.out).mono ?_); rintro e w5 ⟨rfl, ⟨nd, rfl⟩⟩; refine ⟨_, rfl, ?_⟩) | ((go_at_call 41; refine (KEY.out _).mono ?_; rintro e w3 ⟨rfl, hb⟩; have HB3 := Aside0.mk (Below.trans (pw_below_drewN HB.out nd) (hb.mono HB.out.size)); have BKP3 := Aside0.mk ((hb.block gp (blk_lt BKP.out)).trans BKP.out); have BKH3 := Aside0.mk ((hb.block gh (blk_lt BKH.out)).trans BKH.out); clear hb; have hch3 : w3.cell? ⟨gh, 0, none⟩ = some (.int .i64 a0) := (blk_cell BKH3.out 0).trans rfl; have hcq0 : w3.cell? ⟨gp, 0, none⟩ = some (.bool true) := (blk_cell BKP3.out 0).trans rfl; have hcq1 : w3.cell? ⟨gp, 1, none⟩ = some (.slice A1_1 l1_1.length c1_1) := (blk_cell BKP3.out 1).trans rfl; have hcq2 : w3.cell? ⟨gp, 2, none⟩ = some (.slice (some ad28) l1_2.length c1_2) := (blk_cell BKP3.out 2).trans rfl); have hx28 := (HB3.out.cell (World.block_lt_of_cell? w _ HX.out)).trans HX.out))
              go_ret2
              exact ⟨rfl, HB3.out⟩
            · rw [if_neg c4] at H
              have c4b : decide (a2 < (l1_2.length : Int)) = false := decide_eq_false c4
              clear c4
              simp only [Option.some.injEq, Prod.mk.injEq] at H
              obtain ⟨rfl, rfl⟩ := H
              go_wp2_with (first | ((with_reducible refine gate_callee (f := 27) rfl ?_); refine goesL_ (some 21) rfl rfl Try.func27 (by kernel_rfl) rfl #[.int .i64 a0, .slice A1_1 l1_1.length c1_1] rfl (by (try simp only [List.map_toArray, List.map_cons, List.map_nil]); first | done | rfl) ?_; (with_reducible refine (leaf_Check.calls k a0 _ _ l1_1 t _ (Kd.C_below HR1.out HB.out) HC1.out A5.out).mono ?_); rintro e w5 ⟨rfl, ⟨nd, rfl⟩⟩; refine ⟨_, rfl, ?_⟩) | (go_at_call 41; refine (KEY.out _).mono ?_; rintro e w3 ⟨rfl, hb⟩; have HB3 := Aside0.mk (Below.trans (pw_below_drewN HB.out nd) (hb.mono HB.out.size)); have BKP3 := Aside0.mk ((hb.block gp (blk_lt BKP.out)).trans BKP.out); have BKH3 := Aside0.mk ((hb.block gh (blk_lt BKH.out)).trans BKH.out); clear hb; have hch3 : w3.cell? ⟨gh, 0, none⟩ = some (.int .i64 a0) := (blk_cell BKH3.out 0).trans rfl; have hcq0 : w3.cell? ⟨gp, 0, none⟩ = some (.bool true) := (blk_cell BKP3.out 0).trans rfl; have hcq1 : w3.cell? ⟨gp, 1, none⟩ = some (.slice A1_1 l1_1.length c1_1) := (blk_cell BKP3.out 1).trans rfl; have hcq2 : w3.cell? ⟨gp, 2, none⟩ = some (.slice A1_2 l1_2.length c1_2) := (blk_cell BKP3.out 2).trans rfl))
              go_ret2
              exact ⟨rfl, HB3.out⟩
          | false =>
            replace H : ((trace_asks.f k a0 l3 l1_1).bind fun b => some (b, (0 : Int))) = some (r1, r2) := H
            obtain ⟨b, H2, H⟩ := Option.bind_eq_some_iff.mp H
            simp only [Option.some.injEq, Prod.mk.injEq] at H
            obtain ⟨rfl, rfl⟩ := H
            have HS := Aside0.mk H2
            clear H2
            go_wp2_with (first | ((with_reducible refine gate_callee (f := 27) rfl ?_); refine goesL_ (some 21) rfl rfl Try.func27 (by kernel_rfl) rfl #[.int .i64 a0, .slice A1_1 l1_1.length c1_1] rfl (by (try simp only [List.map_toArray, List.map_cons, List.map_nil]); first | done | rfl) ?_; (with_reducible refine (leaf_Check.calls k a0 _ _ l1_1 t _ (Kd.C_below HR1.out HB.out) HC1.out A5.out).mono ?_); rintro e w5 ⟨rfl, ⟨nd, rfl⟩⟩; refine ⟨_, rfl, ?_⟩) | (go_at_call 41; refine (KEY.out _).mono ?_; rintro e w3 ⟨rfl, hb⟩; have HB3 := Aside0.mk (Below.trans (pw_below_drewN HB.out nd) (hb.mono HB.out.size)); have BKP3 := Aside0.mk ((hb.block gp (blk_lt BKP.out)).trans BKP.out); have BKH3 := Aside0.mk ((hb.block gh (blk_lt BKH.out)).trans BKH.out); clear hb; have hch3 : w3.cell? ⟨gh, 0, none⟩ = some (.int .i64 a0) := (blk_cell BKH3.out 0).trans rfl; have hcq0 : w3.cell? ⟨gp, 0, none⟩ = some (.bool false) := (blk_cell BKP3.out 0).trans rfl; have hcq1 : w3.cell? ⟨gp, 1, none⟩ = some (.slice A1_1 l1_1.length c1_1) := (blk_cell BKP3.out 1).trans rfl; have hcq2 : w3.cell? ⟨gp, 2, none⟩ = some (.slice A1_2 l1_2.length c1_2) := (blk_cell BKP3.out 2).trans rfl))
            go_loopw [49] (fun i wr => ∃ j : Nat, i = .int .i64 j ∧ Aside0 (j ≤ l1_1.length) ∧ Aside0 (trace_asks.f k a0 l3 (l1_1.drop j) = some b) ∧ Aside0 (wr.heap[gh]? = some (.cells #[.int .i64 a0] 3 (0, 0))) ∧ Aside0 (Below w.heap.size w wr)) (fun i _ => l1_1.length - (intOf i).toNat)
            case atStart => exact ⟨0, rfl, ⟨Nat.zero_le _⟩, ⟨HS.out⟩, BKH3, HB3⟩
            case round =>
              clear HS HB3 BKH3 BKP3 KEY hch3 hcq0 hcq1 hcq2 hcp0 hcp1 hcp2 BKP BKH HB
              obtain ⟨j, rfl, HJ, HA, BKH, HB⟩ := hrel
              by_cases hlt : j < l1_1.length
              · obtain ⟨ad, e1, hx0⟩ := Kd.at_int (Kd.C_below HR1.out HB.out) (j : Int) (by omega) (by omega)
                cases e1
                rw [Int.toNat_natCast] at hx0
                have hd : l1_1.drop j = rd l1_1 (j : Int) :: l1_1.drop (j + 1) := by
                  rw [List.drop_eq_getElem_cons hlt]; congr 1
                  unfold rd; simp [hlt]
                have HA2 := HA.out
                rw [hd, trace_asks.f] at HA2
                clear hd HA
                generalize rd l1_1 (j : Int) = x at *
                obtain ⟨y, hy, HA3⟩ := Option.bind_eq_some_iff.mp HA2
                clear HA2
                have HY := Aside0.mk hy
                have HD := Aside0.mk HA3
                clear hy HA3
                have hjd : decide ((j : Int) < (l1_1.length : Int)) = true := decide_eq_true (by omega)
                go_wp2
                go_loopw [55] (fun i wr => ∃ m : Nat, i = .int .i64 m ∧ Aside0 (m ≤ l3.length) ∧ Aside0 (trace_asks1.f k a0 x (l3.drop m) = some y) ∧ Aside0 (wr.heap[gh]? = some (.cells #[.int .i64 a0] 3 (0, 0))) ∧ Aside0 (Below w.heap.size w wr)) (fun i _ => l3.length - (intOf i).toNat)
                case atStart => exact ⟨0, rfl, ⟨Nat.zero_le _⟩, ⟨HY.out⟩, BKH, HB⟩
                case round =>
                  clear HY BKH HB hx0
                  obtain ⟨m, rfl, HM, HA, BKH, HB⟩ := hrel
                  by_cases hlm : m < l3.length
                  · obtain ⟨ad3, e3, hx0, hx1⟩ := at_T24 (Kd.C_below HR3.out HB.out) (m : Int) (by omega) (by omega)
                    cases e3
                    rw [Int.toNat_natCast] at hx0 hx1
                    have hg : rd_T24 l3 (m : Int) = l3[m] := by
                      first | (unfold rd_T24; simp [hlm]; done) | (simp [rd_T24, rdOf, hlm]; done)
                    rw [hg] at hx0 hx1
                    have hd : l3.drop m = l3[m] :: l3.drop (m + 1) := List.drop_eq_getElem_cons hlm
                    have HA2 := HA.out
                    rw [hd, trace_asks1.f] at HA2
                    clear hg hd HA
                    generalize l3[m] = s at *
                    obtain ⟨⟨y1, y2⟩, hy, HA3⟩ := Option.bind_eq_some_iff.mp HA2
                    clear HA2
                    replace HA3 : (if y2 = 0 then (if y1 = true then some true else trace_asks1.f k a0 x (l3.drop (m + 1))) else trace_asks1.f k a0 x (l3.drop (m + 1))) = some y := HA3
                    have HY := Aside0.mk hy
                    clear hy
                    have hmd : decide ((m : Int) < (l3.length : Int)) = true := decide_eq_true (by omega)
                    have hch : wr.cell? ⟨gh, 0, none⟩ = some (.int .i64 a0) := (blk_cell BKH.out 0).trans rfl
                    have hch2 : (wr.alloc (.cells #[.int .u64 s.f0, .int .u64 s.f1] 24)).cell? ⟨gh, 0, none⟩ = some (.int .i64 a0) := tr_al hch
                    by_cases d1 : y2 = 0
                    · rw [if_pos d1] at HA3
                      have d1b : (y2 == 0) = true := beq_iff_eq.mpr d1
                      clear d1
                      cases y1 with
                      | true =>
                        have h9 : some true = some y := HA3
                        obtain rfl := Option.some.inj h9
                        have hr1 : some true = some b := HD.out
                        obtain rfl := Option.some.inj hr1
                        go_wp2_with ((with_reducible refine gate_callee (f := 13) rfl ?_); refine goesL_ (some 63) rfl rfl Try.func13 (by kernel_rfl) rfl #[.int .i64 a0, .agg #[.int .u64 s.f0, .int .u64 s.f1], .int .u64 x] rfl (by (try simp only [List.map_toArray, List.map_cons, List.map_nil]); first | done | rfl) ?_; (with_reducible refine (sub_Has.calls k a0 s.f0 s.f1 x true y2 _ HY.out).mono ?_); rintro e w5 ⟨rfl, hb⟩; refine ⟨_, rfl, ?_⟩; have HB5 := Aside0.mk (below_step (below_alloc HB.out _) hb); have BKH5 := Aside0.mk (blk_below (blk_below BKH.out (below_alloc (Below.refl _ _) _)) hb); clear hb)
                        go_ret2
                        exact ⟨rfl, HB5.out⟩
                      | false =>
                        have HD2 := Aside0.mk (show trace_asks1.f k a0 x (l3.drop (m + 1)) = some y from HA3)
                        clear HA3
                        go_wp2_with ((with_reducible refine gate_callee (f := 13) rfl ?_); refine goesL_ (some 63) rfl rfl Try.func13 (by kernel_rfl) rfl #[.int .i64 a0, .agg #[.int .u64 s.f0, .int .u64 s.f1], .int .u64 x] rfl (by (try simp only [List.map_toArray, List.map_cons, List.map_nil]); first | done | rfl) ?_; (with_reducible refine (sub_Has.calls k a0 s.f0 s.f1 x false y2 _ HY.out).mono ?_); rintro e w5 ⟨rfl, hb⟩; refine ⟨_, rfl, ?_⟩; have HB5 := Aside0.mk (below_step (below_alloc HB.out _) hb); have BKH5 := Aside0.mk (blk_below (blk_below BKH.out (below_alloc (Below.refl _ _) _)) hb); clear hb)
                        go_roundw
                        case rel => exact ⟨m + 1, by go_num, ⟨by omega⟩, HD2, BKH5, HB5⟩
                        case measure => simp [intOf]; omega
                    · rw [if_neg d1] at HA3
                      have d1b : (y2 == 0) = false := beq_eq_false_iff_ne.mpr d1
                      clear d1
                      have HD2 := Aside0.mk HA3
                      clear HA3
                      go_wp2_with ((with_reducible refine gate_callee (f := 13) rfl ?_); refine goesL_ (some 63) rfl rfl Try.func13 (by kernel_rfl) rfl #[.int .i64 a0, .agg #[.int .u64 s.f0, .int .u64 s.f1], .int .u64 x] rfl (by (try simp only [List.map_toArray, List.map_cons, List.map_nil]); first | done | rfl) ?_; (with_reducible refine (sub_Has.calls k a0 s.f0 s.f1 x y1 y2 _ HY.out).mono ?_); rintro e w5 ⟨rfl, hb⟩; refine ⟨_, rfl, ?_⟩; have HB5 := Aside0.mk (below_step (below_alloc HB.out _) hb); have BKH5 := Aside0.mk (blk_below (blk_below BKH.out (below_alloc (Below.refl _ _) _)) hb); clear hb)
                      go_roundw
                      case rel => exact ⟨m + 1, by go_num, ⟨by omega⟩, HD2, BKH5, HB5⟩
                      case measure => simp [intOf]; omega
                  · have hml : m = l3.length := by have := HM.out; omega
                    subst hml
                    have hmd : decide ((l3.length : Int) < (l3.length : Int)) = false := decide_eq_false (by omega)
                    have h9 := HA.out
                    rw [List.drop_length, trace_asks1.f] at h9
                    obtain rfl := Option.some.inj h9
                    have HD2 := Aside0.mk (show trace_asks.f k a0 l3 (l1_1.drop (j + 1)) = some b from HD.out)
                    go_wp2
                    go_roundw
                    case rel => exact ⟨j + 1, by go_num, ⟨by omega⟩, HD2, BKH, HB⟩
                    case measure => simp [intOf]; omega
              · have hjl : j = l1_1.length := by have := HJ.out; omega
                subst hjl
                have hjd : decide ((l1_1.length : Int) < (l1_1.length : Int)) = false := decide_eq_false (by omega)
                have h9 := HA.out
                rw [List.drop_length, trace_asks.f] at h9
                obtain rfl := Option.some.inj h9
                go_wp2
                go_ret2
                exact ⟨rfl, HB.out⟩
      · rw [if_neg c3] at H; cases H
  · rw [if_neg c1] at H
    have c1b : (t != 0) = true := bne_iff_ne.mpr c1
    clear c1
    simp only [Option.some.injEq, Prod.mk.injEq] at H
    obtain ⟨rfl, rfl⟩ := H
    go_wp2_with ((with_reducible refine gate_callee (f := 27) rfl ?_); refine goesL_ (some 21) rfl rfl Try.func27 (by kernel_rfl) rfl #[.int .i64 a0, .slice A1_1 l1_1.length c1_1] rfl (by (try simp only [List.map_toArray, List.map_cons, List.map_nil]); first | done | rfl) ?_; (with_reducible refine (leaf_Check.calls k a0 _ _ l1_1 t _ (Kd.C_below HR1.out HB.out) HC1.out A5.out).mono ?_); rintro e w5 ⟨rfl, ⟨nd, rfl⟩⟩; refine ⟨_, rfl, ?_⟩)
    go_ret2
    exact ⟨rfl, pw_below_drewN HB.out nd⟩
structure TrBut (g : Nat) (w w' : World) : Prop where
  os : w'.os = w.os
  tape : w'.tape = w.tape
  output : w'.output = w.output
  size : w.heap.size ≤ w'.heap.size
  block : ∀ k, k < w.heap.size → k ≠ g → w'.heap[k]? = w.heap[k]?
theorem TrBut.refl (g : Nat) (w : World) : TrBut g w w := ⟨rfl, rfl, rfl, Nat.le_refl _, fun _ _ _ => rfl⟩
theorem TrBut.trans {g : Nat} {a b c : World} (h : TrBut g a b) (k : TrBut g b c) : TrBut g a c :=
  ⟨k.os.trans h.os, k.tape.trans h.tape, k.output.trans h.output, Nat.le_trans h.size k.size, fun i hi hn => (k.block i (Nat.lt_of_lt_of_le hi h.size) hn).trans (h.block i hi hn)⟩
theorem TrBut.of {g : Nat} {a b : World} (h : Below a.heap.size a b) : TrBut g a b := ⟨h.os, h.tape, h.output, h.size, fun k hk _ => h.block k hk⟩
theorem TrBut.set (g i : Nat) (w : World) (u : Value) : TrBut g w (w.setCell ⟨g, i, none⟩ u) :=
  ⟨rfl, rfl, rfl, by simp [World.setCell], fun k _ hn => Below.heap_setCell w _ u k hn⟩
theorem TrBut.below {g B : Nat} {a b : World} (h : TrBut g a b) (hg : B ≤ g) (hB : B ≤ a.heap.size) : Below B a b :=
  ⟨h.os, h.tape, h.output, h.size, fun k hk => h.block k (Nat.lt_of_lt_of_le hk hB) (by omega)⟩
theorem TrBut.cell {g : Nat} {a b : World} (h : TrBut g a b) {p : Addr} {v : Value} (hc : a.cell? p = some v) (hp : p.block ≠ g) : b.cell? p = some v :=
  (World.cell?_of_block (w := a) (h.block p.block (World.block_lt_of_cell? a p hc) hp)).trans hc
theorem TrBut.heap {g k : Nat} {a b : World} {o : Obj} (h : TrBut g a b) (hk : a.heap[k]? = some o) (hp : k ≠ g) : b.heap[k]? = some o := (h.block k (blk_lt hk) hp).trans hk
def trace_yes.f (k : Nat) (a0 : Int) (pl : Bool) (T : List Int) (S : List Bool) (n : Int) (l : List S24) : Option Bool := (trace_Ask.f k a0 pl T S n l).bind fun p => if p.2 = 0 then some p.1 else some false
theorem trace_yes.mono (a0 : Int) (pl : Bool) (T : List Int) (S : List Bool) (n : Int) (l : List S24) (k : Nat) : LeO (trace_yes.f k a0 pl T S n l) (trace_yes.f (k + 1) a0 pl T S n l) := LeO.bind (trace_Ask.mono _ _ _ _ _ _ _) (fun _ => LeO.refl _)
set_option maxHeartbeats 4000000 in
set_option maxRecDepth 100000 in
theorem trace_yes.calls (k : Nat) (a0 : Int) (pl : Bool) (A1 : Option Addr) (c1 : Nat) (T : List Int) (A2 : Option Addr) (c2 : Nat) (S : List Bool) (n : Int) (A3 : Option Addr) (c3 : Nat) (l : List S24) (r : Bool) (g : Nat) (w : World) (hr1 : Kd.C (Kd.int .u64) w A1 T.length T) (hc1 : T.length ≤ c1) (hr2 : Kd.C Kd.bool w A2 S.length S) (hc2 : S.length ≤ c2) (hr3 : Kd.C k24 w A3 l.length l) (hc3 : l.length ≤ c3)
    (hg : w.heap[g]? = some (.cells #[.int .i64 a0, .bool pl, .slice A1 T.length c1, .slice A2 S.length c2, .int .i64 n] 84 (0, 0))) (h : trace_yes.f k a0 pl T S n l = some r) :
    Calls Try.prog 48 #[.pointer (some ⟨g, 0, none⟩), .slice A3 l.length c3] w fun e w' => e = .returned (.bool r) ∧ w'.heap[g]? = some (.cells #[.int .i64 a0, .bool pl, .slice A1 T.length c1, .slice A2 S.length c2, .int .i64 (wrap64 (n + 1))] 84 (0, 0)) ∧ TrBut g w w' := by
  have hu84 := Try.underlying84
  have hu42 := Try.underlying42
  obtain ⟨⟨b, e1⟩, A3_, H⟩ := Option.bind_eq_some_iff.mp h
  replace H : (if e1 = 0 then some b else some false) = some r := H
  have AK := Aside0.mk (fun (W : World) (hW : Below w.heap.size w W) => trace_Ask.calls k a0 pl A1 c1 T A2 c2 S n A3 c3 l b e1 W (Kd.C_below hr1 hW) hc1 (Kd.C_below hr2 hW) hc2 (Kd.C_below hr3 hW) hc3 A3_)
  have HG := Aside0.mk hg
  have y0 : w.cell? ⟨g, 0, none⟩ = some (.int .i64 a0) := (blk_cell hg 0).trans rfl
  have y1 : w.cell? ⟨g, 1, none⟩ = some (.bool pl) := (blk_cell hg 1).trans rfl
  have y2 : w.cell? ⟨g, 2, none⟩ = some (.slice A1 T.length c1) := (blk_cell hg 2).trans rfl
  have y3 : w.cell? ⟨g, 3, none⟩ = some (.slice A2 S.length c2) := (blk_cell hg 3).trans rfl
  have y4 : w.cell? ⟨g, 4, none⟩ = some (.int .i64 n) := (blk_cell hg 4).trans rfl
  have H' := Aside0.mk H
  clear hr1 hc1 hr2 hc2 hr3 hc3 hg h A3_ H
  go_enter Try.func48, Try.ntmps48
  go_wp2
  go_region_held3 (fun w' => w'.cell? ⟨g, 0, none⟩ = some (.int .i64 a0) ∧ w'.cell? ⟨g, 1, none⟩ = some (.bool pl) ∧ w'.cell? ⟨g, 2, none⟩ = some (.slice A1 T.length c1) ∧ w'.cell? ⟨g, 3, none⟩ = some (.slice A2 S.length c2) ∧ w'.cell? ⟨g, 4, none⟩ = some (.int .i64 n)) (first | exact ⟨y0, y1, y2, y3, y4⟩ | exact ⟨z0, z1, z2, z3, z4⟩)
    (first | (go_at_call 16; refine (AK.out _ ?s1).mono ?_; (case s1 => first | exact (Below.refl w.heap.size w).drew | exact Below.refl w.heap.size w | exact pw_below_drewN (Below.refl w.heap.size w) _); rintro e w5 ⟨rfl, hb⟩; have hb : Below w.heap.size w w5 := ⟨hb.os, hb.tape, hb.output, hb.size, hb.block⟩; have HB5 := Aside0.mk hb; have BK5 := Aside0.mk (blk_below HG.out hb); have z0 := (hb.cell (p := ⟨g, 0, none⟩) (blk_lt HG.out)).trans y0; have z1 := (hb.cell (p := ⟨g, 1, none⟩) (blk_lt HG.out)).trans y1; have z2 := (hb.cell (p := ⟨g, 2, none⟩) (blk_lt HG.out)).trans y2; have z3 := (hb.cell (p := ⟨g, 3, none⟩) (blk_lt HG.out)).trans y3; have z4 := (hb.cell (p := ⟨g, 4, none⟩) (blk_lt HG.out)).trans y4; clear hb))
  all_goals
    have hf4 := blk_frozen BK5.out 4
    have H := H'.out
    clear H' AK
    by_cases c : e1 = 0
    · rw [if_pos c] at H
      have cb : (e1 == 0) = true := beq_iff_eq.mpr c
      clear c
      obtain rfl := Option.some.inj H
      go_wp2
      go_ret
      exact ⟨rfl, blk_put BK5.out 4 _ rfl, (TrBut.of HB5.out).trans (TrBut.set _ _ _ _)⟩
    · rw [if_neg c] at H
      have cb : (e1 == 0) = false := beq_eq_false_iff_ne.mpr c
      clear c
      obtain rfl := Option.some.inj H
      go_wp2
      go_ret
      exact ⟨rfl, blk_put BK5.out 4 _ rfl, (TrBut.of HB5.out).trans (TrBut.set _ _ _ _)⟩
def trace_gap.g (k : Nat) (a0 : Int) (pl : Bool) (T : List Int) (S : List Bool) (l : List S24) : Nat → Int → Nat → Nat → Option (Nat × Int)
  | 0, _, _, _ => none
  | m + 1, n, lo, hi => if 1 < hi - lo then (trace_yes.f k a0 pl T S n (l.drop ((lo + hi) / 2))).bind fun b => if b = true then trace_gap.g k a0 pl T S l m (wrap64 (n + 1)) ((lo + hi) / 2) hi else trace_gap.g k a0 pl T S l m (wrap64 (n + 1)) lo ((lo + hi) / 2) else some (lo, n)
set_option maxHeartbeats 4000000 in
set_option maxRecDepth 100000 in
theorem trace_gap.calls (k : Nat) (a0 : Int) (pl : Bool) (A1 : Option Addr) (c1 : Nat) (T : List Int) (A2 : Option Addr) (c2 : Nat) (S : List Bool) (n : Int) (A3 : Option Addr) (c3 : Nat) (l : List S24) (m r : Nat) (n' : Int) (g : Nat) (w : World) (hr1 : Kd.C (Kd.int .u64) w A1 T.length T) (hc1 : T.length ≤ c1) (hr2 : Kd.C Kd.bool w A2 S.length S) (hc2 : S.length ≤ c2) (hr3 : Kd.C k24 w A3 l.length l) (hc3 : l.length ≤ c3) (hlen : l.length ≤ 1000000)
    (hg : w.heap[g]? = some (.cells #[.int .i64 a0, .bool pl, .slice A1 T.length c1, .slice A2 S.length c2, .int .i64 n] 84 (0, 0)))
    (hk : ∀ W, TrBut g w W → Kd.C (Kd.int .u64) W A1 T.length T ∧ Kd.C Kd.bool W A2 S.length S ∧ Kd.C k24 W A3 l.length l)
    (h : trace_gap.g k a0 pl T S l m n 0 l.length = some (r, n')) :
    Calls Try.prog 49 #[.pointer (some ⟨g, 0, none⟩), .slice A3 l.length c3] w fun e w' => e = .returned (.int .i64 r) ∧ w'.heap[g]? = some (.cells #[.int .i64 a0, .bool pl, .slice A1 T.length c1, .slice A2 S.length c2, .int .i64 n'] 84 (0, 0)) ∧ TrBut g w w' := by
  have HK := Aside0.mk hk
  have HG := Aside0.mk hg
  have HC1 := Aside0.mk hc1
  have HC2 := Aside0.mk hc2
  have HC3 := Aside0.mk hc3
  have H0 := Aside0.mk h
  clear hr1 hc1 hr2 hc2 hr3 hg hk h
  go_enter Try.func49, Try.ntmps49
  go_wp2
  go_loopw [5, 6] (fun x y wr => ∃ (lo hi m : Nat) (n : Int), x = .int .i64 lo ∧ y = .int .i64 hi ∧ Aside0 (lo ≤ hi ∧ hi ≤ l.length) ∧ Aside0 (trace_gap.g k a0 pl T S l m n lo hi = some (r, n')) ∧ Aside0 (wr.heap[g]? = some (.cells #[.int .i64 a0, .bool pl, .slice A1 T.length c1, .slice A2 S.length c2, .int .i64 n] 84 (0, 0))) ∧ Aside0 (TrBut g w wr)) (fun x y _ => (intOf y).toNat - (intOf x).toNat)
  case atStart => exact ⟨0, l.length, m, n, rfl, rfl, ⟨Nat.zero_le _, Nat.le_refl _⟩, H0, HG, ⟨TrBut.refl _ _⟩⟩
  case round =>
    clear H0 HG
    obtain ⟨lo, hi, m, n, rfl, rfl, HL, HA, HG, HB⟩ := hrel
    cases m with
    | zero => exact absurd HA.out (by simp [trace_gap.g])
    | succ m =>
      have hA := HA.out
      rw [trace_gap.g] at hA
      clear HA
      by_cases cc : 1 < hi - lo
      · rw [if_pos cc] at hA
        obtain ⟨b, hb, hA⟩ := Option.bind_eq_some_iff.mp hA
        obtain ⟨md, hmd⟩ : ∃ md, md = (lo + hi) / 2 := ⟨_, rfl⟩
        rw [← hmd] at hb hA
        have HMD := Aside0.mk hmd
        have hw1 : wrap64 ((hi : Int) - (lo : Int)) = (hi : Int) - lo := by have := HL.out; unfold wrap64; omega
        have hd1 : decide ((hi : Int) - lo > 1) = true := decide_eq_true (by omega)
        have hw2 : wrap64 ((lo : Int) + (hi : Int)) / 2 = (md : Int) := by have := HL.out; unfold wrap64; omega
        have p21 : (0 ≤ (md : Int)) = True := eq_true (by omega)
        have q21 : ((md : Int) ≤ (l.length : Int)) = True := eq_true (by have := HL.out; omega)
        have HQ := Aside0.mk (show md ≤ l.length by have := HL.out; omega)
        have KY := Aside0.mk (trace_yes.calls k a0 pl A1 c1 T A2 c2 S n (if c3 = md then A3 else A3.map (·.add (md * 2))) (c3 - md) (l.drop md) b g wr (HK.out wr HB.out).1 HC1.out (HK.out wr HB.out).2.1 HC2.out (Kd.C_drop (HK.out wr HB.out).2.2 HQ.out HC3.out) (by rw [List.length_drop]; have := HC3.out; omega) HG.out hb)
        have HD := Aside0.mk hA
        have HLT := Aside0.mk cc
        clear hb hA cc hmd
        cases b with
        | true =>
          go_wp2_with ((with_reducible refine gate_callee (f := 48) rfl ?_); refine goesL_ (some 22) rfl rfl Try.func48 (by kernel_rfl) rfl #[.pointer (some ⟨g, 0, none⟩), .slice (if c3 = md then A3 else A3.map (·.add (md * 2))) (l.drop md).length (c3 - md)] rfl (by (try simp only [List.map_toArray, List.map_cons, List.map_nil]); first | done | rfl | (simp only [List.length_drop, List.length_take]; rfl)) ?_; refine KY.out.mono ?_; rintro e w5 ⟨rfl, hg5, hb5⟩; refine ⟨_, rfl, ?_⟩; have HG5 := Aside0.mk hg5; have HB5 := Aside0.mk (HB.out.trans hb5); clear hg5 hb5)
          exact ⟨⟨md, hi, m, _, rfl, rfl, ⟨by have := HL.out; have := HMD.out; omega⟩, ⟨HD.out⟩, HG5, HB5⟩, by have := HL.out; have := HMD.out; have := HLT.out; simp [intOf]; omega⟩
        | false =>
          go_wp2_with ((with_reducible refine gate_callee (f := 48) rfl ?_); refine goesL_ (some 22) rfl rfl Try.func48 (by kernel_rfl) rfl #[.pointer (some ⟨g, 0, none⟩), .slice (if c3 = md then A3 else A3.map (·.add (md * 2))) (l.drop md).length (c3 - md)] rfl (by (try simp only [List.map_toArray, List.map_cons, List.map_nil]); first | done | rfl | (simp only [List.length_drop, List.length_take]; rfl)) ?_; refine KY.out.mono ?_; rintro e w5 ⟨rfl, hg5, hb5⟩; refine ⟨_, rfl, ?_⟩; have HG5 := Aside0.mk hg5; have HB5 := Aside0.mk (HB.out.trans hb5); clear hg5 hb5)
          exact ⟨⟨lo, md, m, _, rfl, rfl, ⟨by have := HL.out; have := HMD.out; omega⟩, ⟨HD.out⟩, HG5, HB5⟩, by have := HL.out; have := HMD.out; have := HLT.out; simp [intOf]; omega⟩
      · rw [if_neg cc] at hA
        have hw1 : wrap64 ((hi : Int) - (lo : Int)) = (hi : Int) - lo := by have := HL.out; unfold wrap64; omega
        have hd1 : decide ((hi : Int) - lo > 1) = false := decide_eq_false (by have := HL.out; omega)
        simp only [Option.some.injEq, Prod.mk.injEq] at hA
        obtain ⟨rfl, rfl⟩ := hA
        clear cc
        go_wp2
        go_ret
        exact ⟨rfl, HG.out, HB.out⟩
theorem trace_gap.mono_g (k : Nat) (a0 : Int) (pl : Bool) (T : List Int) (S : List Bool) (l : List S24) : ∀ (m : Nat) (n : Int) (lo hi : Nat), LeO (trace_gap.g k a0 pl T S l m n lo hi) (trace_gap.g (k + 1) a0 pl T S l (m + 1) n lo hi)
  | 0, _, _, _ => LeO.none _
  | m + 1, n, lo, hi => LeO.ite (LeO.bind (trace_yes.mono _ _ _ _ _ _ _) (fun _ => LeO.ite (trace_gap.mono_g k a0 pl T S l m _ _ _) (trace_gap.mono_g k a0 pl T S l m _ _ _))) (LeO.refl _)
def trace_Trace.d (k : Nat) (a0 a1 : Int) (pl : Bool) (T : List Int) (S : List Bool) : Nat → Int → Int → Int → Option (Bool × Int × Int × Int)
  | 0, _, _, _ => none
  | m + 1, n, s0, s1 => (trace_Halves.f k a0 a1 s0 s1).bind fun p => if p.2 = 0 then (if p.1.length = 2 then ((trace_yes.f k a0 pl T S n [rd_T24 p.1 0]).bind fun b => if b = true then trace_Trace.d k a0 a1 pl T S m (wrap64 (n + 1)) (rd_T24 p.1 0).f0 (rd_T24 p.1 0).f1 else trace_Trace.d k a0 a1 pl T S m (wrap64 (n + 1)) (rd_T24 p.1 1).f0 (rd_T24 p.1 1).f1) else none) else ((trace_only.f k a0 s0 s1).bind fun o => some (true, o.1, n, 0))
def trace_Trace.f (k : Nat) (a0 : Int) (a1 : Int) (l2 : List S24) (a3_0 : Bool) (l3_1 : List Int) (l3_2 : List Bool) : Option (Bool × Int × Int × Int) :=
  (leaf_Check.f k a0 l3_1).bind fun t => if t = 0 then (if (l2.length : Int) < 1 then some (false, 0, 0, 1) else (if (l2.length : Int) > 32768 then some (false, 0, 0, 1) else
    ((trace_any.f (fun s => (trace_fits.f k a0 a1 s.f0 s.f1).bind fun r => some (!r)) l2).bind fun o => if o = true then some (false, 0, 0, 1) else
      ((trace_yes.f k a0 a3_0 l3_1 l3_2 0 l2).bind fun y => if y = true then ((trace_yes.f k a0 a3_0 l3_1 l3_2 1 []).bind fun z => if z = true then some (false, 0, 2, 0) else
        ((trace_gap.g k a0 a3_0 l3_1 l3_2 l2 k 2 0 l2.length).bind fun g => if g.1 < l2.length then trace_Trace.d k a0 a1 a3_0 l3_1 l3_2 k g.2 (rd_T24 l2 g.1).f0 (rd_T24 l2 g.1).f1 else none)) else some (false, 0, 1, 0))))) else some (false, 0, 0, 1)
theorem trace_Trace.mono_d (k : Nat) (a0 a1 : Int) (pl : Bool) (T : List Int) (S : List Bool) : ∀ (m : Nat) (n s0 s1 : Int), LeO (trace_Trace.d k a0 a1 pl T S m n s0 s1) (trace_Trace.d (k + 1) a0 a1 pl T S (m + 1) n s0 s1)
  | 0, _, _, _ => LeO.none _
  | m + 1, n, s0, s1 => LeO.bind (trace_Halves.mono _ _ _ _ _) (fun _ => LeO.ite (LeO.ite (LeO.bind (trace_yes.mono _ _ _ _ _ _ _) (fun _ => LeO.ite (trace_Trace.mono_d k a0 a1 pl T S m _ _ _) (trace_Trace.mono_d k a0 a1 pl T S m _ _ _))) (LeO.refl _)) (LeO.bind (trace_only.mono _ _ _ _) (fun _ => LeO.refl _)))
theorem trace_Trace.mono : ∀ a0 a1 l2 a3_0 l3_1 l3_2 k, LeO (trace_Trace.f k a0 a1 l2 a3_0 l3_1 l3_2) (trace_Trace.f (k + 1) a0 a1 l2 a3_0 l3_1 l3_2) := by
  intro a0 a1 l2 a3_0 l3_1 l3_2 k
  refine LeO.bind (leaf_Check.mono _ _ _) (fun _ => LeO.ite (LeO.ite (LeO.refl _) (LeO.ite (LeO.refl _) ?_)) (LeO.refl _))
  refine LeO.bind (trace_any.mono (fun _ => LeO.bind (trace_fits.mono _ _ _ _ _) (fun _ => LeO.refl _)) _) (fun _ => LeO.ite (LeO.refl _) ?_)
  refine LeO.bind (trace_yes.mono _ _ _ _ _ _ _) (fun _ => LeO.ite ?_ (LeO.refl _))
  refine LeO.bind (trace_yes.mono _ _ _ _ _ _ _) (fun _ => LeO.ite (LeO.refl _) ?_)
  exact LeO.bind (trace_gap.mono_g _ _ _ _ _ _ _ _ _ _) (fun _ => LeO.ite (trace_Trace.mono_d _ _ _ _ _ _ _ _ _ _) (LeO.refl _))
theorem tr_least {p : Nat → Prop} (h : ∃ n, p n) : ∃ n, p n ∧ ∀ m, p m → n ≤ m := by
  obtain ⟨n, hn⟩ := h
  induction n using Nat.strongRecOn with
  | _ n ih =>
    by_cases c : ∃ m, m < n ∧ p m
    · obtain ⟨m, hm, hp⟩ := c; exact ih m hm hp
    · exact ⟨n, hn, fun m hm => by
        rcases Nat.lt_or_ge m n with h | h
        · exact absurd ⟨m, h, hm⟩ c
        · exact h⟩
theorem jump_mono {P : Program} {c : Code} {l : Nat} {J J' : Act → World → Prop} {Q : Exit → Act → World → Prop} {a : Act} {w : World} (h : c.wp P (Exit.jump l J Q) a w) (hj : ∀ a w, J a w → J' a w) : c.wp P (Exit.jump l J' Q) a w := by
  refine wp_mono h ?_
  intro e a w h
  cases e <;> first | exact h | exact ⟨h.1, hj _ _ h.2⟩
theorem wp_scope_ghost {P : Program} {a : Act} {w : World} {Q : Exit → Act → World → Prop} {c rest : Code} (l : Nat) (J : Nat → Act → World → Prop) (hf : findLabel c l = some (Code.skip.seq rest))
    (pass : ∀ n a w, J n a w → rest.wp P (Exit.jump l (fun a' w' => ∃ m, m < n ∧ J m a' w') Q) a w)
    (first : (∀ n a w, J n a w → rest.wp P (Exit.jump l (fun a' w' => ∃ m, J m a' w') Q) a w) → c.wp P (Exit.jump l (fun a' w' => ∃ m, J m a' w') Q) a w) : (Code.scope c).wp P Q a w := by
  refine wp_scope_jumps l (fun a' w' => ∃ m, J m a' w') (fun a' w' => open Classical in if h : ∃ m, J m a' w' then Classical.choose (tr_least h) else 0) hf (first (fun n a w h => jump_mono (pass n a w h) (fun _ _ ⟨m, _, h⟩ => ⟨m, h⟩))) ?_
  intro a w h
  have hs := Classical.choose_spec (tr_least h)
  refine wp_seq (wp_skip ?_)
  refine jump_mono (pass _ a w hs.1) ?_
  rintro a' w' ⟨m, hm, hj⟩
  have h' : ∃ m, J m a' w' := ⟨m, hj⟩
  refine ⟨h', ?_⟩
  rw [dif_pos h', dif_pos h]
  exact Nat.lt_of_le_of_lt ((Classical.choose_spec (tr_least h')).2 m hj) hm
theorem tr_one {W : World} {g : Nat} {p : S24} (h : W.heap[g]? = some (.cells #[.int .u64 p.f0, .int .u64 p.f1] 24 (0, 0))) : Kd.C k24 W (some ⟨g, 0, none⟩) 1 [p] := by
  refine ⟨rfl, by decide, fun _ => ⟨_, rfl, fun j q hj => ?_⟩⟩
  match j, hj with
  | 0, hj =>
    obtain rfl : p = q := by simpa using hj
    refine ⟨[.int .u64 p.f0, .int .u64 p.f1], rfl, k24_mk _ _, fun i u hu => ?_⟩
    have e := blk_cell h
    match i, hu with
    | 0, hu => simp at hu; subst hu; exact (e 0).trans rfl
    | 1, hu => simp at hu; subst hu; exact (e 1).trans rfl
    | i + 2, hu => simp at hu
  | j + 1, hj => simp at hj
theorem tr_half {w' : World} {base : Nat} {ok : Nat → Prop} {v : Value} {x y : S24} (h : Kd.R k24 24 w' base ok v [x, y]) : ∃ gr cp, v = .slice (some ⟨gr, 0, none⟩) 2 cp ∧ base ≤ gr ∧ w'.cell? ⟨gr, 0, none⟩ = some (.int .u64 x.f0) ∧ w'.cell? ⟨gr, 1, none⟩ = some (.int .u64 x.f1) ∧ w'.cell? ⟨gr, 2, none⟩ = some (.int .u64 y.f0) ∧ w'.cell? ⟨gr, 3, none⟩ = some (.int .u64 y.f1) := by
  obtain ⟨gr, cp, rfl, hb, _, _⟩ := Kd.R_form h (by simp)
  have hC := (Kd.R_reads' h).2.2
  obtain ⟨ad, e, h0, h1⟩ := at_T24 hC 0 (by omega) (by simp)
  obtain ⟨ad', e', h2, h3⟩ := at_T24 hC 1 (by omega) (by simp)
  cases e
  cases e'
  exact ⟨gr, cp, rfl, hb, by simpa [rd_T24, Addr.add] using h0, by simpa [rd_T24, Addr.add] using h1, by simpa [rd_T24, Addr.add] using h2, by simpa [rd_T24, Addr.add] using h3⟩
theorem tr_far {W : World} {g gb : Nat} {o : Obj} {x y : Value} (h : W.heap[g]? = some o) (hn : g ≠ gb) : ((W.setCell ⟨gb, 0, none⟩ x).setCell ⟨gb, 1, none⟩ y).heap[g]? = some o :=
  (Below.heap_setCell _ ⟨gb, 1, none⟩ y g hn).trans ((Below.heap_setCell _ ⟨gb, 0, none⟩ x g hn).trans h)
theorem tr_farc {W : World} {gb : Nat} {p : Addr} {v x y : Value} (h : W.cell? p = some v) (hn : p.block ≠ gb) : ((W.setCell ⟨gb, 0, none⟩ x).setCell ⟨gb, 1, none⟩ y).cell? p = some v :=
  (World.cell?_of_block (w := W) ((Below.heap_setCell _ ⟨gb, 1, none⟩ y p.block hn).trans (Below.heap_setCell _ ⟨gb, 0, none⟩ x p.block hn))).trans h
theorem tr_put {W : World} {g : Nat} {a b x y : Value} {t : TypeId} (h : W.heap[g]? = some (.cells #[a, b] t (0, 0))) : ((W.setCell ⟨g, 0, none⟩ x).setCell ⟨g, 1, none⟩ y).heap[g]? = some (.cells #[x, y] t (0, 0)) := blk_put (blk_put h 0 x rfl) 1 y rfl
theorem slice_event {P : Program} {ops : Array Oper} {Q : Exit → Act → World → Prop} {rest : List Oper} {o : Oper} {a : Act} {W : World} (hgd : o.guard = none) {N : Tmp} (_hd : o.dst = some N) {cs : Array Value} {t : TypeId} {n c : Nat}
    (hrun : (execOp a.eval o).run P W = .ok (.value (.slice (some ⟨W.heap.size, 0, none⟩) n c)) (W.alloc (.cells cs t (0, 0))))
    (h : ∀ g, g = W.heap.size → ∀ w1, w1.heap[g]? = some (.cells cs t (0, 0)) → Below W.heap.size W w1 → wpList P ops Q rest (a.put o.dst (.slice (some ⟨g, 0, none⟩) n c)) w1) : wpList P ops Q (o :: rest) a W :=
  Kd.event_run hgd hrun (h _ rfl _ (blk_new W _) (below_alloc (Below.refl _ _) _))
theorem tr_list (tm : Array Value) (n : Nat) (h : tm.size = n) : tm = ((List.range n).map fun i => tm.getD i undef).toArray := by
  apply Array.ext
  · simp [h]
  · intro i h1 h2
    simp [h1]
theorem tr_frame (tm : Array Value) (h : tm.size = 95) : ∃ u : Nat → Value, tm = #[u 0, u 1, u 2, u 3, u 4, u 5, u 6, u 7, u 8, u 9, u 10, u 11, u 12, u 13, u 14, u 15, u 16, u 17, u 18, u 19, u 20, u 21, u 22, u 23, u 24, u 25, u 26, u 27, u 28, u 29, u 30, u 31, u 32, u 33, u 34, u 35, u 36, u 37, u 38, u 39, u 40, u 41, u 42, u 43, u 44, u 45, u 46, u 47, u 48, u 49, u 50, u 51, u 52, u 53, u 54, u 55, u 56, u 57, u 58, u 59, u 60, u 61, u 62, u 63, u 64, u 65, u 66, u 67, u 68, u 69, u 70, u 71, u 72, u 73, u 74, u 75, u 76, u 77, u 78, u 79, u 80, u 81, u 82, u 83, u 84, u 85, u 86, u 87, u 88, u 89, u 90, u 91, u 92, u 93, u 94] := ⟨fun i => tm.getD i undef, (tr_list tm 95 h).trans rfl⟩
def TrJ (k : Nat) (a0 : Int) (a1 : Int) (A2 : Option Addr) (c2 : Nat) (l2 : List S24) (a3_0 : Bool) (A3_1 : Option Addr) (c3_1 : Nat) (l3_1 : List Int) (A3_2 : Option Addr) (c3_2 : Nat) (l3_2 : List Bool) (r1 : Bool) (r2 : Int) (r3 : Int) (r4 : Int) (w : World) (m : Nat) (a : Act) (W : World) : Prop := ∃ (tm : Array Value) (gh gs gv gt gb : Nat) (n s0 s1 : Int), a = { tmps := tm, defers := [] } ∧ tm.size = 95 ∧ (tm.getD 4 undef = .pointer (some ⟨gh, 0, none⟩) ∧ tm.getD 5 undef = .pointer (some ⟨gs, 0, none⟩) ∧ tm.getD 8 undef = .pointer (some ⟨gv, 0, none⟩) ∧ tm.getD 11 undef = .pointer (some ⟨gt, 0, none⟩) ∧ tm.getD 12 undef = .pointer (some ⟨gb, 0, none⟩)) ∧ trace_Trace.d k a0 a1 a3_0 l3_1 l3_2 m n s0 s1 = some (r1, r2, r3, r4) ∧
  W.heap[gh]? = some (.cells #[.int .i64 a0] 3 (0, 0)) ∧ W.heap[gs]? = some (.cells #[.int .i64 a1] 3 (0, 0)) ∧ W.heap[gv]? = some (.cells #[.bool false, .int .u64 0, .int .i64 0] 48 (0, 0)) ∧
  W.heap[gt]? = some (.cells #[.int .i64 a0, .bool a3_0, .slice A3_1 l3_1.length c3_1, .slice A3_2 l3_2.length c3_2, .int .i64 n] 84 (0, 0)) ∧ W.heap[gb]? = some (.cells #[.int .u64 s0, .int .u64 s1] 24 (0, 0)) ∧ (gh ≠ gt ∧ gs ≠ gt ∧ gv ≠ gt ∧ gb ≠ gt ∧ gh ≠ gb ∧ gs ≠ gb ∧ gv ≠ gb) ∧ (w.heap.size ≤ gv ∧ w.heap.size ≤ gt ∧ w.heap.size ≤ gb) ∧ Below w.heap.size w W
set_option maxHeartbeats 4000000 in
set_option maxRecDepth 100000 in
theorem trace_Trace1.calls (k : Nat) (a0 a1 : Int) (bh bs : Nat) (x : S24) (b : Bool) (w : World) (hc : w.cell? ⟨bh, 0, none⟩ = some (.int .i64 a0)) (hd : w.cell? ⟨bs, 0, none⟩ = some (.int .i64 a1)) (h : ((trace_fits.f k a0 a1 x.f0 x.f1).bind fun r => some (!r)) = some b) :
    Calls Try.prog 47 (#[.agg #[.int .u64 x.f0, .int .u64 x.f1]] ++ #[.pointer (some ⟨bh, 0, none⟩), .pointer (some ⟨bs, 0, none⟩)]) w fun e w' => e = .returned (.bool b) ∧ Below w.heap.size w w' := by
  have hu24 := Try.underlying24
  obtain ⟨r, A3_, H⟩ := Option.bind_eq_some_iff.mp h
  have A3 := Aside0.mk A3_
  obtain rfl := Option.some.inj H
  clear A3_ h H
  have HB := Aside0.mk (Below.refl w.heap.size w)
  have hc2 : (w.alloc (.cells #[.int .u64 x.f0, .int .u64 x.f1] 24)).cell? ⟨bh, 0, none⟩ = some (.int .i64 a0) := tr_al hc
  have hd2 : (w.alloc (.cells #[.int .u64 x.f0, .int .u64 x.f1] 24)).cell? ⟨bs, 0, none⟩ = some (.int .i64 a1) := tr_al hd
  go_enter Try.func47, Try.ntmps47
  go_wp2_with ((with_reducible refine gate_callee (f := 28) rfl ?_); refine goesL_ (some 8) rfl rfl Try.func28 (by kernel_rfl) rfl #[.int .i64 a0, .int .i64 a1, .agg #[.int .u64 x.f0, .int .u64 x.f1]] rfl (by (try simp only [List.map_toArray, List.map_cons, List.map_nil]); first | done | rfl) ?_; (with_reducible refine (trace_fits.calls k a0 a1 x.f0 x.f1 r _ A3.out).mono ?_); rintro e w5 ⟨rfl, hb⟩; refine ⟨_, rfl, ?_⟩; have HB5 := Aside0.mk (below_step (below_alloc (Below.refl _ _) _) hb); clear hb)
  go_ret
  exact ⟨rfl, HB5.out⟩
set_option maxHeartbeats 8000000 in
set_option maxRecDepth 100000 in
theorem trace_Trace.calls (k : Nat) (a0 : Int) (a1 : Int) (A2 : Option Addr) (c2 : Nat) (l2 : List S24) (a3_0 : Bool) (A3_1 : Option Addr) (c3_1 : Nat) (l3_1 : List Int) (A3_2 : Option Addr) (c3_2 : Nat) (l3_2 : List Bool) (r1 : Bool) (r2 : Int) (r3 : Int) (r4 : Int) (w : World) (hr2 : Kd.C k24 w A2 l2.length l2) (hc2 : l2.length ≤ c2) (hr3_1 : Kd.C (Kd.int .u64) w A3_1 l3_1.length l3_1) (hc3_1 : l3_1.length ≤ c3_1) (hr3_2 : Kd.C Kd.bool w A3_2 l3_2.length l3_2) (hc3_2 : l3_2.length ≤ c3_2) (h : trace_Trace.f k a0 a1 l2 a3_0 l3_1 l3_2 = some (r1, r2, r3, r4)) :
    Calls Try.prog 20 #[.int .i64 a0, .int .i64 a1, .slice A2 l2.length c2, .agg #[.bool a3_0, .slice A3_1 l3_1.length c3_1, .slice A3_2 l3_2.length c3_2]] w fun e w' => e = .returned (.tuple #[.agg #[.bool r1, .int .u64 r2, .int .i64 r3], .int .i64 r4]) ∧ Below w.heap.size w w' := by
  have hu42 := Try.underlying42
  have hu48 := Try.underlying48
  have hu24 := Try.underlying24
  have hu84 := Try.underlying84
  have hmf : ∀ (fn : Fn) (first cap : Array Value) (w : World), (Instr.makeFunc fn first cap).run Try.prog w = .ok (.func fn first cap) w := fun _ _ _ _ => rfl
  have HR2 := Aside0.mk hr2
  have HC2 := Aside0.mk hc2
  have HR1 := Aside0.mk hr3_1
  have HC1 := Aside0.mk hc3_1
  have HR3 := Aside0.mk hr3_2
  have HC3 := Aside0.mk hc3_2
  have HB := Aside0.mk (Below.refl w.heap.size w)
  have H0 := Aside0.mk h
  clear hr2 hc2 hr3_1 hc3_1 hr3_2 hc3_2 h
  go_enter Try.func20, Try.ntmps20
  go_wp2_with (first
    | ((with_reducible refine gate_dst (N := 4) rfl ?_); refine box_event ?hg (N := 4) ?hd (cs := #[.int .i64 a0]) (t := 3) ?hr ?_; (case hd => rfl); (case hg => rfl); (case hr => first | (go_simp; done) | (go_simp; rfl)); intro gh hg w1 hbox hb; have mb_ := Aside0.mk (below_step HB.out hb); have GE_gh := Aside0.mk (show w.heap.size ≤ gh by rw [hg]; exact below_size HB.out); clear HB ; have HB := mb_; have B_gh := Aside0.mk hbox; clear mb_ hb hbox hg)
    | ((with_reducible refine gate_dst (N := 5) rfl ?_); refine box_event ?hg (N := 5) ?hd (cs := #[.int .i64 a1]) (t := 3) ?hr ?_; (case hd => rfl); (case hg => rfl); (case hr => first | (go_simp; done) | (go_simp; rfl)); intro gs hg w2 hbox hb; have m0_ := Aside0.mk (blk_below B_gh.out hb); have e0_ := Aside0.mk (show gh ≠ gs from by rw [hg]; exact Nat.ne_of_lt (blk_lt B_gh.out)); have mb_ := Aside0.mk (below_step HB.out hb); have GE_gs := Aside0.mk (show w.heap.size ≤ gs by rw [hg]; exact below_size HB.out); clear HB B_gh; have HB := mb_; have B_gh := m0_; have N_gh_gs := e0_; clear m0_ e0_; have B_gs := Aside0.mk hbox; clear mb_ hb hbox hg)
    | ((with_reducible refine gate_dst (N := 7) rfl ?_); refine box_event ?hg (N := 7) ?hd (cs := #[.bool a3_0, .slice A3_1 l3_1.length c3_1, .slice A3_2 l3_2.length c3_2]) (t := 42) ?hr ?_; (case hd => rfl); (case hg => rfl); (case hr => first | (go_simp; done) | (go_simp; rfl)); intro gp hg w3 hbox hb; have m0_ := Aside0.mk (blk_below B_gh.out hb); have m1_ := Aside0.mk (blk_below B_gs.out hb); have e0_ := Aside0.mk (show gh ≠ gp from by rw [hg]; exact Nat.ne_of_lt (blk_lt B_gh.out)); have e1_ := Aside0.mk (show gs ≠ gp from by rw [hg]; exact Nat.ne_of_lt (blk_lt B_gs.out)); have mb_ := Aside0.mk (below_step HB.out hb); have GE_gp := Aside0.mk (show w.heap.size ≤ gp by rw [hg]; exact below_size HB.out); clear HB B_gh B_gs; have HB := mb_; have B_gh := m0_; have N_gh_gp := e0_; clear m0_ e0_; have B_gs := m1_; have N_gs_gp := e1_; clear m1_ e1_; have B_gp := Aside0.mk hbox; clear mb_ hb hbox hg)
    | ((with_reducible refine gate_dst (N := 8) rfl ?_); refine box_event ?hg (N := 8) ?hd (cs := #[.bool false, .int .u64 0, .int .i64 0]) (t := 48) ?hr ?_; (case hd => rfl); (case hg => rfl); (case hr => first | (go_simp; done) | (go_simp; rfl)); intro gv hg w4 hbox hb; have m0_ := Aside0.mk (blk_below B_gh.out hb); have m1_ := Aside0.mk (blk_below B_gs.out hb); have m2_ := Aside0.mk (blk_below B_gp.out hb); have e0_ := Aside0.mk (show gh ≠ gv from by rw [hg]; exact Nat.ne_of_lt (blk_lt B_gh.out)); have e1_ := Aside0.mk (show gs ≠ gv from by rw [hg]; exact Nat.ne_of_lt (blk_lt B_gs.out)); have e2_ := Aside0.mk (show gp ≠ gv from by rw [hg]; exact Nat.ne_of_lt (blk_lt B_gp.out)); have mb_ := Aside0.mk (below_step HB.out hb); have GE_gv := Aside0.mk (show w.heap.size ≤ gv by rw [hg]; exact below_size HB.out); clear HB B_gh B_gs B_gp; have HB := mb_; have B_gh := m0_; have N_gh_gv := e0_; clear m0_ e0_; have B_gs := m1_; have N_gs_gv := e1_; clear m1_ e1_; have B_gp := m2_; have N_gp_gv := e2_; clear m2_ e2_; have B_gv := Aside0.mk hbox; clear mb_ hb hbox hg))
  (try simp only [Act.put, List.setIfInBounds_toArray, List.set_cons_zero, List.set_cons_succ])
  refine wp_scope_ghost 0 (TrJ k a0 a1 A2 c2 l2 a3_0 A3_1 c3_1 l3_1 A3_2 c3_2 l3_2 r1 r2 r3 r4 w) rfl ?pass ?first
  case pass =>
    clear H0
    rintro m a W ⟨tm, gh, gs, gv, gt, gb, n, s0, s1, rfl, hsz, ⟨t4, t5, t8, t11, t12⟩, hd, bh, bs, bv, bt, bb, ⟨n1, n2, n3, n4, n5, n6, n7⟩, ⟨g1, g2, g3⟩, hbl⟩
    obtain ⟨u, rfl⟩ := tr_frame tm hsz
    have e4 : u 4 = .pointer (some ⟨gh, 0, none⟩) := t4
    have e5 : u 5 = .pointer (some ⟨gs, 0, none⟩) := t5
    have e8 : u 8 = .pointer (some ⟨gv, 0, none⟩) := t8
    have e11 : u 11 = .pointer (some ⟨gt, 0, none⟩) := t11
    have e12 : u 12 = .pointer (some ⟨gb, 0, none⟩) := t12
    rw [e4, e5, e8, e11, e12]
    clear t4 t5 t8 t11 t12 e4 e5 e8 e11 e12 hsz
    cases m with
    | zero => exact absurd hd (by simp [trace_Trace.d])
    | succ m =>
      rw [trace_Trace.d] at hd
      obtain ⟨⟨p1, p2⟩, hh, hd⟩ := Option.bind_eq_some_iff.mp hd
      replace hd : (if p2 = 0 then (if p1.length = 2 then ((trace_yes.f k a0 a3_0 l3_1 l3_2 n [rd_T24 p1 0]).bind fun b => if b = true then trace_Trace.d k a0 a1 a3_0 l3_1 l3_2 m (wrap64 (n + 1)) (rd_T24 p1 0).f0 (rd_T24 p1 0).f1 else trace_Trace.d k a0 a1 a3_0 l3_1 l3_2 m (wrap64 (n + 1)) (rd_T24 p1 1).f0 (rd_T24 p1 1).f1) else none) else ((trace_only.f k a0 s0 s1).bind fun o => some (true, o.1, n, 0))) = some (r1, r2, r3, r4) := hd
      have HH := Aside0.mk hh
      have BB := Aside0.mk hbl
      have B_gh := Aside0.mk bh
      have B_gs := Aside0.mk bs
      have B_gv := Aside0.mk bv
      have B_gt := Aside0.mk bt
      have B_gb := Aside0.mk bb
      have NN := Aside0.mk (And.intro n1 (And.intro n2 (And.intro n3 (And.intro n4 (And.intro n5 (And.intro n6 n7))))))
      have yh0 : W.cell? ⟨gh, 0, none⟩ = some (.int .i64 a0) := (blk_cell bh 0).trans rfl
      have ys0 : W.cell? ⟨gs, 0, none⟩ = some (.int .i64 a1) := (blk_cell bs 0).trans rfl
      have yb0 : W.cell? ⟨gb, 0, none⟩ = some (.int .u64 s0) := (blk_cell bb 0).trans rfl
      have yb1 : W.cell? ⟨gb, 1, none⟩ = some (.int .u64 s1) := (blk_cell bb 1).trans rfl
      clear hh hbl bh bs bv bt bb n1 n2 n3 n4 n5 n6 n7
      by_cases c : p2 = 0
      · rw [if_pos c] at hd
        have cb : (p2 == 0) = true := beq_iff_eq.mpr c
        clear c
        by_cases c2 : p1.length = 2
        · rw [if_pos c2] at hd
          obtain ⟨x, y, rfl⟩ : ∃ x y, p1 = [x, y] := by
            match p1, c2 with
            | [x, y], _ => exact ⟨x, y, rfl⟩
          replace hd : ((trace_yes.f k a0 a3_0 l3_1 l3_2 n [x]).bind fun b => if b = true then trace_Trace.d k a0 a1 a3_0 l3_1 l3_2 m (wrap64 (n + 1)) x.f0 x.f1 else trace_Trace.d k a0 a1 a3_0 l3_1 l3_2 m (wrap64 (n + 1)) y.f0 y.f1) = some (r1, r2, r3, r4) := hd
          obtain ⟨b, hy, hd⟩ := Option.bind_eq_some_iff.mp hd
          have HY := Aside0.mk hy
          have HD := Aside0.mk hd
          clear hy hd c2
          cases b with
          | true =>
            go_wp2_with (first | (go_at_call 10; with_reducible refine (trace_Halves.calls k a0 a1 s0 s1 [x, y] p2 W HH.out).mono ?_; rintro e w5 ⟨v0, rfl, ho, hb⟩; have BB5 := Aside0.mk (below_step BB.out hb); have C_gh := Aside0.mk (blk_below B_gh.out hb); have C_gs := Aside0.mk (blk_below B_gs.out hb); have C_gv := Aside0.mk (blk_below B_gv.out hb); have C_gt := Aside0.mk (blk_below B_gt.out hb); have C_gb := Aside0.mk (blk_below B_gb.out hb); obtain ⟨gr, cp, rfl, hgr, x0, x1, x2, x3⟩ := tr_half ho; have D_rb := Aside0.mk (show gr ≠ gb from Nat.ne_of_gt (Nat.lt_of_lt_of_le (blk_lt B_gb.out) hgr)); have D_rt := Aside0.mk (show gr ≠ gt from Nat.ne_of_gt (Nat.lt_of_lt_of_le (blk_lt B_gt.out) hgr)); have X0 := Aside0.mk x0; have X1 := Aside0.mk x1; have f0 := tr_farc (gb := gb) (x := .int .u64 y.f0) (y := .int .u64 y.f1) x0 D_rb.out; have f1 := tr_farc (gb := gb) (x := .int .u64 y.f0) (y := .int .u64 y.f1) x1 D_rb.out; have zb0 := blk_frozen C_gb.out 0; have zb1 := blk_frozen C_gb.out 1; have vb0 : w5.cell? ⟨gb, 0, none⟩ = some (.int .u64 s0) := (blk_cell C_gb.out 0).trans rfl; have vb1 : w5.cell? ⟨gb, 1, none⟩ = some (.int .u64 s1) := (blk_cell C_gb.out 1).trans rfl; clear hgr x0 x1; clear hb ho) | ((with_reducible refine gate_dst (N := 78) rfl ?_); refine slice_event ?hg (N := 78) ?hd (cs := #[.int .u64 x.f0, .int .u64 x.f1]) (t := 24) (n := 1) (c := 1) ?hr ?_; (case hd => rfl); (case hg => rfl); (case hr => first | (go_simp; done) | (go_simp; rfl)); intro gq hg w8 hbox hb; have Q_gq := Aside0.mk hbox; have BB8 := Aside0.mk (below_step (below_set (below_set BB5.out g3) g3) hb); have D_gh := Aside0.mk (blk_below (tr_far C_gh.out NN.out.2.2.2.2.1) hb); have D_gs := Aside0.mk (blk_below (tr_far C_gs.out NN.out.2.2.2.2.2.1) hb); have D_gv := Aside0.mk (blk_below (tr_far C_gv.out NN.out.2.2.2.2.2.2) hb); have D_gt := Aside0.mk (blk_below (tr_far C_gt.out (fun e => NN.out.2.2.2.1 e.symm)) hb); have D_gb := Aside0.mk (blk_below (tr_put (x := .int .u64 y.f0) (y := .int .u64 y.f1) C_gb.out) hb); have X08 := Aside0.mk ((hb.cell (World.block_lt_of_cell? _ _ f0)).trans f0); have X18 := Aside0.mk ((hb.cell (World.block_lt_of_cell? _ _ f1)).trans f1); clear hg hbox hb) | (go_at_call 48; have k_ : Calls Try.prog 48 #[.pointer (some ⟨gt, 0, none⟩), .slice (some ⟨gq, 0, none⟩) 1 1] w8 _ := trace_yes.calls k a0 a3_0 A3_1 c3_1 l3_1 A3_2 c3_2 l3_2 n (some ⟨gq, 0, none⟩) 1 [x] true gt w8 (Kd.C_below HR1.out BB8.out) HC1.out (Kd.C_below HR3.out BB8.out) HC3.out (tr_one Q_gq.out) (Nat.le_refl 1) D_gt.out HY.out; with_reducible refine k_.mono ?_; rintro e w9 ⟨rfl, hg_, hb_⟩; have E_gt := Aside0.mk hg_; have BB9 := Aside0.mk (Below.trans BB8.out (hb_.below g2 (below_size BB8.out))); have E_gh := Aside0.mk (hb_.heap D_gh.out NN.out.1); have E_gs := Aside0.mk (hb_.heap D_gs.out NN.out.2.1); have E_gv := Aside0.mk (hb_.heap D_gv.out NN.out.2.2.1); have E_gb := Aside0.mk (hb_.heap D_gb.out NN.out.2.2.2.1); have u0 := hb_.cell X08.out D_rt.out; have u1 := hb_.cell X18.out D_rt.out; have zc0 := blk_frozen E_gb.out 0; have zc1 := blk_frozen E_gb.out 1; have vc0 : w9.cell? ⟨gb, 0, none⟩ = some (.int .u64 y.f0) := (blk_cell E_gb.out 0).trans rfl; have vc1 : w9.cell? ⟨gb, 1, none⟩ = some (.int .u64 y.f1) := (blk_cell E_gb.out 1).trans rfl; clear hg_ hb_ k_))
            go_step3
            refine ⟨rfl, m, Nat.lt_succ_self m, _, gh, gs, gv, gt, gb, wrap64 (n + 1), x.f0, x.f1, rfl, rfl, ⟨rfl, rfl, rfl, rfl, rfl⟩, HD.out, tr_far E_gh.out NN.out.2.2.2.2.1, tr_far E_gs.out NN.out.2.2.2.2.2.1, tr_far E_gv.out NN.out.2.2.2.2.2.2, tr_far E_gt.out (fun e => NN.out.2.2.2.1 e.symm), tr_put E_gb.out, NN.out, ⟨g1, g2, g3⟩, below_set (below_set BB9.out g3) g3⟩
          | false =>
            go_wp2_with (first | (go_at_call 10; with_reducible refine (trace_Halves.calls k a0 a1 s0 s1 [x, y] p2 W HH.out).mono ?_; rintro e w5 ⟨v0, rfl, ho, hb⟩; have BB5 := Aside0.mk (below_step BB.out hb); have C_gh := Aside0.mk (blk_below B_gh.out hb); have C_gs := Aside0.mk (blk_below B_gs.out hb); have C_gv := Aside0.mk (blk_below B_gv.out hb); have C_gt := Aside0.mk (blk_below B_gt.out hb); have C_gb := Aside0.mk (blk_below B_gb.out hb); obtain ⟨gr, cp, rfl, hgr, x0, x1, x2, x3⟩ := tr_half ho; have D_rb := Aside0.mk (show gr ≠ gb from Nat.ne_of_gt (Nat.lt_of_lt_of_le (blk_lt B_gb.out) hgr)); have D_rt := Aside0.mk (show gr ≠ gt from Nat.ne_of_gt (Nat.lt_of_lt_of_le (blk_lt B_gt.out) hgr)); have X0 := Aside0.mk x0; have X1 := Aside0.mk x1; have f0 := tr_farc (gb := gb) (x := .int .u64 y.f0) (y := .int .u64 y.f1) x0 D_rb.out; have f1 := tr_farc (gb := gb) (x := .int .u64 y.f0) (y := .int .u64 y.f1) x1 D_rb.out; have zb0 := blk_frozen C_gb.out 0; have zb1 := blk_frozen C_gb.out 1; have vb0 : w5.cell? ⟨gb, 0, none⟩ = some (.int .u64 s0) := (blk_cell C_gb.out 0).trans rfl; have vb1 : w5.cell? ⟨gb, 1, none⟩ = some (.int .u64 s1) := (blk_cell C_gb.out 1).trans rfl; clear hgr x0 x1; clear hb ho) | ((with_reducible refine gate_dst (N := 78) rfl ?_); refine slice_event ?hg (N := 78) ?hd (cs := #[.int .u64 x.f0, .int .u64 x.f1]) (t := 24) (n := 1) (c := 1) ?hr ?_; (case hd => rfl); (case hg => rfl); (case hr => first | (go_simp; done) | (go_simp; rfl)); intro gq hg w8 hbox hb; have Q_gq := Aside0.mk hbox; have BB8 := Aside0.mk (below_step (below_set (below_set BB5.out g3) g3) hb); have D_gh := Aside0.mk (blk_below (tr_far C_gh.out NN.out.2.2.2.2.1) hb); have D_gs := Aside0.mk (blk_below (tr_far C_gs.out NN.out.2.2.2.2.2.1) hb); have D_gv := Aside0.mk (blk_below (tr_far C_gv.out NN.out.2.2.2.2.2.2) hb); have D_gt := Aside0.mk (blk_below (tr_far C_gt.out (fun e => NN.out.2.2.2.1 e.symm)) hb); have D_gb := Aside0.mk (blk_below (tr_put (x := .int .u64 y.f0) (y := .int .u64 y.f1) C_gb.out) hb); have X08 := Aside0.mk ((hb.cell (World.block_lt_of_cell? _ _ f0)).trans f0); have X18 := Aside0.mk ((hb.cell (World.block_lt_of_cell? _ _ f1)).trans f1); clear hg hbox hb) | (go_at_call 48; have k_ : Calls Try.prog 48 #[.pointer (some ⟨gt, 0, none⟩), .slice (some ⟨gq, 0, none⟩) 1 1] w8 _ := trace_yes.calls k a0 a3_0 A3_1 c3_1 l3_1 A3_2 c3_2 l3_2 n (some ⟨gq, 0, none⟩) 1 [x] false gt w8 (Kd.C_below HR1.out BB8.out) HC1.out (Kd.C_below HR3.out BB8.out) HC3.out (tr_one Q_gq.out) (Nat.le_refl 1) D_gt.out HY.out; with_reducible refine k_.mono ?_; rintro e w9 ⟨rfl, hg_, hb_⟩; have E_gt := Aside0.mk hg_; have BB9 := Aside0.mk (Below.trans BB8.out (hb_.below g2 (below_size BB8.out))); have E_gh := Aside0.mk (hb_.heap D_gh.out NN.out.1); have E_gs := Aside0.mk (hb_.heap D_gs.out NN.out.2.1); have E_gv := Aside0.mk (hb_.heap D_gv.out NN.out.2.2.1); have E_gb := Aside0.mk (hb_.heap D_gb.out NN.out.2.2.2.1); have u0 := hb_.cell X08.out D_rt.out; have u1 := hb_.cell X18.out D_rt.out; have zc0 := blk_frozen E_gb.out 0; have zc1 := blk_frozen E_gb.out 1; have vc0 : w9.cell? ⟨gb, 0, none⟩ = some (.int .u64 y.f0) := (blk_cell E_gb.out 0).trans rfl; have vc1 : w9.cell? ⟨gb, 1, none⟩ = some (.int .u64 y.f1) := (blk_cell E_gb.out 1).trans rfl; clear hg_ hb_ k_))
            go_step3
            exact ⟨rfl, m, Nat.lt_succ_self m, _, gh, gs, gv, gt, gb, wrap64 (n + 1), y.f0, y.f1, rfl, rfl, ⟨rfl, rfl, rfl, rfl, rfl⟩, HD.out, E_gh.out, E_gs.out, E_gv.out, E_gt.out, E_gb.out, NN.out, ⟨g1, g2, g3⟩, BB9.out⟩
        · rw [if_neg c2] at hd; cases hd
      · rw [if_neg c] at hd
        have cb : (p2 == 0) = false := beq_eq_false_iff_ne.mpr c
        clear c
        obtain ⟨⟨o1, o2⟩, ho1, hd⟩ := Option.bind_eq_some_iff.mp hd
        simp only [Option.some.injEq, Prod.mk.injEq] at hd
        obtain ⟨rfl, rfl, rfl, rfl⟩ := hd
        have HO1 := Aside0.mk ho1
        clear ho1
        go_wp2_with (first | (go_at_call 10; with_reducible refine (trace_Halves.calls k a0 a1 s0 s1 p1 p2 W HH.out).mono ?_; rintro e w5 ⟨v0, rfl, ho, hb⟩; have BB5 := Aside0.mk (below_step BB.out hb); have C_gh := Aside0.mk (blk_below B_gh.out hb); have C_gs := Aside0.mk (blk_below B_gs.out hb); have C_gv := Aside0.mk (blk_below B_gv.out hb); have C_gt := Aside0.mk (blk_below B_gt.out hb); have C_gb := Aside0.mk (blk_below B_gb.out hb); have kh0 : w5.cell? ⟨gh, 0, none⟩ = some (.int .i64 a0) := (blk_cell C_gh.out 0).trans rfl; have kb0 : w5.cell? ⟨gb, 0, none⟩ = some (.int .u64 s0) := (blk_cell C_gb.out 0).trans rfl; have kb1 : w5.cell? ⟨gb, 1, none⟩ = some (.int .u64 s1) := (blk_cell C_gb.out 1).trans rfl; obtain ⟨Ah, ch, rfl⟩ := Kd.R_slice ho; clear hb ho) | (go_at_call 29; with_reducible refine (trace_only.calls k a0 s0 s1 o1 o2 w5 HO1.out).mono ?_; rintro e w6 ⟨rfl, hb⟩; have BB6 := Aside0.mk (below_step BB5.out hb); have D_gv := Aside0.mk (blk_below C_gv.out hb); have D_gt := Aside0.mk (blk_below C_gt.out hb); have m4 : w6.cell? ⟨gt, 4, none⟩ = some (.int .i64 n) := (blk_cell D_gt.out 4).trans rfl; have zv0 := blk_frozen D_gv.out 0; have zv1 := blk_frozen D_gv.out 1; have zv2 := blk_frozen D_gv.out 2; have vv0 : w6.cell? ⟨gv, 0, none⟩ = some (.bool false) := (blk_cell D_gv.out 0).trans rfl; have vv1 : w6.cell? ⟨gv, 1, none⟩ = some (.int .u64 0) := (blk_cell D_gv.out 1).trans rfl; have vv2 : w6.cell? ⟨gv, 2, none⟩ = some (.int .i64 0) := (blk_cell D_gv.out 2).trans rfl; clear hb))
        simp only [Exit.jump]; refine bodyPost_ret (results_ct rfl _ _ gv 48 #[.bool true, .int .u64 o1, .int .i64 n] (0, 0) _ rfl (by refine blk_put (cs := #[.bool true, .int .u64 o1, .int .i64 0]) ?_ 2 _ rfl; refine blk_put (cs := #[.bool true, .int .u64 0, .int .i64 0]) ?_ 1 _ rfl; refine blk_put (cs := #[.bool false, .int .u64 0, .int .i64 0]) ?_ 0 _ rfl; exact D_gv.out) Try.underlying48 rfl (by kernel_rfl)) rfl ?_
        exact ⟨rfl, by repeat (first | exact BB6.out | refine below_set ?_ g1)⟩
  case first =>
    intro hpass
    have HP := Aside0.mk hpass
    clear hpass
    have H := H0.out
    unfold trace_Trace.f at H
    obtain ⟨t, A3_, H⟩ := Option.bind_eq_some_iff.mp H
    have A5 := Aside0.mk A3_
    clear A3_ H0
    have hcgh0 : w4.cell? ⟨gh, 0, none⟩ = some (.int .i64 a0) := (blk_cell B_gh.out 0).trans rfl
    have hcgs0 : w4.cell? ⟨gs, 0, none⟩ = some (.int .i64 a1) := (blk_cell B_gs.out 0).trans rfl
    have hcgp0 : w4.cell? ⟨gp, 0, none⟩ = some (.bool a3_0) := (blk_cell B_gp.out 0).trans rfl
    have hcgp1 : w4.cell? ⟨gp, 1, none⟩ = some (.slice A3_1 l3_1.length c3_1) := (blk_cell B_gp.out 1).trans rfl
    have hcgp2 : w4.cell? ⟨gp, 2, none⟩ = some (.slice A3_2 l3_2.length c3_2) := (blk_cell B_gp.out 2).trans rfl
    have hcgv0 : w4.cell? ⟨gv, 0, none⟩ = some (.bool false) := (blk_cell B_gv.out 0).trans rfl
    have hcgv1 : w4.cell? ⟨gv, 1, none⟩ = some (.int .u64 0) := (blk_cell B_gv.out 1).trans rfl
    have hcgv2 : w4.cell? ⟨gv, 2, none⟩ = some (.int .i64 0) := (blk_cell B_gv.out 2).trans rfl
    have hzgv0 := blk_frozen B_gv.out 0
    have hzgv1 := blk_frozen B_gv.out 1
    have hzgv2 := blk_frozen B_gv.out 2
    by_cases c1 : t = 0
    · rw [if_pos c1] at H
      have c1b : (t != 0) = false := bne_eq_false_iff_eq.mpr c1
      clear c1
      by_cases c2 : (l2.length : Int) < 1
      · rw [if_pos c2] at H
        have c2b : decide ((l2.length : Int) < 1) = true := decide_eq_true c2
        have c2d : decide (l2.length < 1) = true := decide_eq_true (by omega)
        clear c2
        simp only [Option.some.injEq, Prod.mk.injEq] at H
        obtain ⟨rfl, rfl, rfl, rfl⟩ := H
        go_wp2_with (first | ((with_reducible refine gate_callee (f := 27) rfl ?_); refine goesL_ (some 21) rfl rfl Try.func27 (by kernel_rfl) rfl #[.int .i64 a0, .slice A3_1 l3_1.length c3_1] rfl (by (try simp only [List.map_toArray, List.map_cons, List.map_nil]); first | done | rfl) ?_; (with_reducible refine (leaf_Check.calls k a0 _ _ l3_1 t _ (Kd.C_below HR1.out HB.out) HC1.out A5.out).mono ?_); rintro e w5 ⟨rfl, ⟨nd, rfl⟩⟩; refine ⟨_, rfl, ?_⟩))
        simp only [Exit.jump]; refine bodyPost_ret (results_ct rfl _ _ gv 48 #[.bool false, .int .u64 0, .int .i64 0] (0, 0) _ rfl (by refine blk_put (cs := #[.bool false, .int .u64 0, .int .i64 0]) ?_ 2 _ rfl; refine blk_put (cs := #[.bool false, .int .u64 0, .int .i64 0]) ?_ 1 _ rfl; refine blk_put (cs := #[.bool false, .int .u64 0, .int .i64 0]) ?_ 0 _ rfl; exact B_gv.out) Try.underlying48 rfl (by kernel_rfl)) rfl ?_
        exact ⟨rfl, by repeat (first | exact pw_below_drewN HB.out nd | refine below_set ?_ GE_gv.out)⟩
      · rw [if_neg c2] at H
        have c2b : decide ((l2.length : Int) < 1) = false := decide_eq_false c2
        have c2d : decide (l2.length < 1) = false := decide_eq_false (by omega)
        clear c2
        by_cases c3 : (l2.length : Int) > 32768
        · rw [if_pos c3] at H
          have c3b : decide ((l2.length : Int) > 32768) = true := decide_eq_true c3
          have c3d : decide (l2.length > 32768) = true := decide_eq_true (by omega)
          clear c3
          simp only [Option.some.injEq, Prod.mk.injEq] at H
          obtain ⟨rfl, rfl, rfl, rfl⟩ := H
          go_wp2_with (first | ((with_reducible refine gate_callee (f := 27) rfl ?_); refine goesL_ (some 21) rfl rfl Try.func27 (by kernel_rfl) rfl #[.int .i64 a0, .slice A3_1 l3_1.length c3_1] rfl (by (try simp only [List.map_toArray, List.map_cons, List.map_nil]); first | done | rfl) ?_; (with_reducible refine (leaf_Check.calls k a0 _ _ l3_1 t _ (Kd.C_below HR1.out HB.out) HC1.out A5.out).mono ?_); rintro e w5 ⟨rfl, ⟨nd, rfl⟩⟩; refine ⟨_, rfl, ?_⟩))
          simp only [Exit.jump]; refine bodyPost_ret (results_ct rfl _ _ gv 48 #[.bool false, .int .u64 0, .int .i64 0] (0, 0) _ rfl (by refine blk_put (cs := #[.bool false, .int .u64 0, .int .i64 0]) ?_ 2 _ rfl; refine blk_put (cs := #[.bool false, .int .u64 0, .int .i64 0]) ?_ 1 _ rfl; refine blk_put (cs := #[.bool false, .int .u64 0, .int .i64 0]) ?_ 0 _ rfl; exact B_gv.out) Try.underlying48 rfl (by kernel_rfl)) rfl ?_
          exact ⟨rfl, by repeat (first | exact pw_below_drewN HB.out nd | refine below_set ?_ GE_gv.out)⟩
        · rw [if_neg c3] at H
          have c3b : decide ((l2.length : Int) > 32768) = false := decide_eq_false c3
          have c3d : decide (l2.length > 32768) = false := decide_eq_false (by omega)
          have HL := Aside0.mk (show l2.length ≤ 32768 by omega)
          clear c3
          obtain ⟨o, ho, H⟩ := Option.bind_eq_some_iff.mp H
          have HO := Aside0.mk ho
          clear ho
          have key : ∀ nd, Calls Try.prog 41 #[.slice A2 l2.length c2, .func (.func 47) #[] #[.pointer (some ⟨gh, 0, none⟩), .pointer (some ⟨gs, 0, none⟩)]] (w4.drewN nd) fun e w' => e = .returned (.bool o) ∧ Below w4.heap.size (w4.drewN nd) w' := fun nd =>
            trace_contains.calls _ 47 Try.f47 _ Try.func47 (by kernel_rfl) rfl A2 c2 l2 o (w4.drewN nd) (Kd.C_drewN (Kd.C_below HR2.out HB.out) _) (Nat.le_trans HL.out (by decide)) (fun x b W hB hq => trace_Trace1.calls k a0 a1 gh gs x b W ((hB.cell (p := ⟨gh, 0, none⟩) (by show gh < w4.heap.size; exact blk_lt B_gh.out)).trans hcgh0) ((hB.cell (p := ⟨gs, 0, none⟩) (by show gs < w4.heap.size; exact blk_lt B_gs.out)).trans hcgs0) hq) HO.out
          have KEY := Aside0.mk key
          clear key HO
          cases o with
          | true =>
            replace H : some (false, (0 : Int), (0 : Int), (1 : Int)) = some (r1, r2, r3, r4) := H
            simp only [Option.some.injEq, Prod.mk.injEq] at H
            obtain ⟨rfl, rfl, rfl, rfl⟩ := H
            go_wp2_with (first | ((with_reducible refine gate_callee (f := 27) rfl ?_); refine goesL_ (some 21) rfl rfl Try.func27 (by kernel_rfl) rfl #[.int .i64 a0, .slice A3_1 l3_1.length c3_1] rfl (by (try simp only [List.map_toArray, List.map_cons, List.map_nil]); first | done | rfl) ?_; (with_reducible refine (leaf_Check.calls k a0 _ _ l3_1 t _ (Kd.C_below HR1.out HB.out) HC1.out A5.out).mono ?_); rintro e w5 ⟨rfl, ⟨nd, rfl⟩⟩; refine ⟨_, rfl, ?_⟩) | (go_at_call 41; refine (KEY.out _).mono ?_; rintro e w6 ⟨rfl, hb⟩; have HB6 := Aside0.mk (Below.trans (pw_below_drewN HB.out nd) (hb.mono HB.out.size)); have C_gh := Aside0.mk ((hb.block gh (blk_lt B_gh.out)).trans B_gh.out); have C_gs := Aside0.mk ((hb.block gs (blk_lt B_gs.out)).trans B_gs.out); have C_gp := Aside0.mk ((hb.block gp (blk_lt B_gp.out)).trans B_gp.out); have C_gv := Aside0.mk ((hb.block gv (blk_lt B_gv.out)).trans B_gv.out); clear hb; have kcgh0 : w6.cell? ⟨gh, 0, none⟩ = some (.int .i64 a0) := (blk_cell C_gh.out 0).trans rfl; have kcgp0 : w6.cell? ⟨gp, 0, none⟩ = some (.bool a3_0) := (blk_cell C_gp.out 0).trans rfl; have kcgp1 : w6.cell? ⟨gp, 1, none⟩ = some (.slice A3_1 l3_1.length c3_1) := (blk_cell C_gp.out 1).trans rfl; have kcgp2 : w6.cell? ⟨gp, 2, none⟩ = some (.slice A3_2 l3_2.length c3_2) := (blk_cell C_gp.out 2).trans rfl; have kcgv0 : w6.cell? ⟨gv, 0, none⟩ = some (.bool false) := (blk_cell C_gv.out 0).trans rfl; have kcgv1 : w6.cell? ⟨gv, 1, none⟩ = some (.int .u64 0) := (blk_cell C_gv.out 1).trans rfl; have kcgv2 : w6.cell? ⟨gv, 2, none⟩ = some (.int .i64 0) := (blk_cell C_gv.out 2).trans rfl; have kzgv0 := blk_frozen C_gv.out 0; have kzgv1 := blk_frozen C_gv.out 1; have kzgv2 := blk_frozen C_gv.out 2))
            simp only [Exit.jump]; refine bodyPost_ret (results_ct rfl _ _ gv 48 #[.bool false, .int .u64 0, .int .i64 0] (0, 0) _ rfl (by refine blk_put (cs := #[.bool false, .int .u64 0, .int .i64 0]) ?_ 2 _ rfl; refine blk_put (cs := #[.bool false, .int .u64 0, .int .i64 0]) ?_ 1 _ rfl; refine blk_put (cs := #[.bool false, .int .u64 0, .int .i64 0]) ?_ 0 _ rfl; exact C_gv.out) Try.underlying48 rfl (by kernel_rfl)) rfl ?_
            exact ⟨rfl, by repeat (first | exact HB6.out | refine below_set ?_ GE_gv.out)⟩
          | false =>
            replace H : ((trace_yes.f k a0 a3_0 l3_1 l3_2 0 l2).bind fun y => if y = true then ((trace_yes.f k a0 a3_0 l3_1 l3_2 1 []).bind fun z => if z = true then some (false, 0, 2, 0) else ((trace_gap.g k a0 a3_0 l3_1 l3_2 l2 k 2 0 l2.length).bind fun g => if g.1 < l2.length then trace_Trace.d k a0 a1 a3_0 l3_1 l3_2 k g.2 (rd_T24 l2 g.1).f0 (rd_T24 l2 g.1).f1 else none)) else some (false, 0, 1, 0)) = some (r1, r2, r3, r4) := H
            have H' := Aside0.mk H
            clear H
            go_upto_region 5 with (first | ((with_reducible refine gate_callee (f := 27) rfl ?_); refine goesL_ (some 21) rfl rfl Try.func27 (by kernel_rfl) rfl #[.int .i64 a0, .slice A3_1 l3_1.length c3_1] rfl (by (try simp only [List.map_toArray, List.map_cons, List.map_nil]); first | done | rfl) ?_; (with_reducible refine (leaf_Check.calls k a0 _ _ l3_1 t _ (Kd.C_below HR1.out HB.out) HC1.out A5.out).mono ?_); rintro e w5 ⟨rfl, ⟨nd, rfl⟩⟩; refine ⟨_, rfl, ?_⟩) | (go_at_call 41; refine (KEY.out _).mono ?_; rintro e w6 ⟨rfl, hb⟩; have HB6 := Aside0.mk (Below.trans (pw_below_drewN HB.out nd) (hb.mono HB.out.size)); have C_gh := Aside0.mk ((hb.block gh (blk_lt B_gh.out)).trans B_gh.out); have C_gs := Aside0.mk ((hb.block gs (blk_lt B_gs.out)).trans B_gs.out); have C_gp := Aside0.mk ((hb.block gp (blk_lt B_gp.out)).trans B_gp.out); have C_gv := Aside0.mk ((hb.block gv (blk_lt B_gv.out)).trans B_gv.out); clear hb; have kcgh0 : w6.cell? ⟨gh, 0, none⟩ = some (.int .i64 a0) := (blk_cell C_gh.out 0).trans rfl; have kcgp0 : w6.cell? ⟨gp, 0, none⟩ = some (.bool a3_0) := (blk_cell C_gp.out 0).trans rfl; have kcgp1 : w6.cell? ⟨gp, 1, none⟩ = some (.slice A3_1 l3_1.length c3_1) := (blk_cell C_gp.out 1).trans rfl; have kcgp2 : w6.cell? ⟨gp, 2, none⟩ = some (.slice A3_2 l3_2.length c3_2) := (blk_cell C_gp.out 2).trans rfl) | ((with_reducible refine gate_dst (N := 42) rfl ?_); refine box_event ?hg (N := 42) ?hd (cs := #[.int .i64 a0, .bool a3_0, .slice A3_1 l3_1.length c3_1, .slice A3_2 l3_2.length c3_2, .int .i64 0]) (t := 84) ?hr ?_; (case hd => rfl); (case hg => rfl); (case hr => first | (go_simp; done) | (go_simp; rfl)); intro gt hg w7 hbox hb; have m0_ := Aside0.mk (blk_below C_gh.out hb); have m1_ := Aside0.mk (blk_below C_gs.out hb); have m2_ := Aside0.mk (blk_below C_gv.out hb); have e0_ := Aside0.mk (show gh ≠ gt from by rw [hg]; exact Nat.ne_of_lt (blk_lt C_gh.out)); have e1_ := Aside0.mk (show gs ≠ gt from by rw [hg]; exact Nat.ne_of_lt (blk_lt C_gs.out)); have e2_ := Aside0.mk (show gv ≠ gt from by rw [hg]; exact Nat.ne_of_lt (blk_lt C_gv.out)); have mb_ := Aside0.mk (below_step HB6.out hb); have GE_gt := Aside0.mk (show w.heap.size ≤ gt by rw [hg]; exact below_size HB6.out); clear HB6 C_gh C_gs C_gv; have HB6 := mb_; have C_gh := m0_; have N_gh_gt := e0_; clear m0_ e0_; have C_gs := m1_; have N_gs_gt := e1_; clear m1_ e1_; have C_gv := m2_; have N_gv_gt := e2_; clear m2_ e2_; have B_gt := Aside0.mk hbox; clear mb_ hb hbox hg))
            (try simp only [Act.put, List.setIfInBounds_toArray, List.set_cons_zero, List.set_cons_succ])
            have w01 : wrap64 (0 + 1) = 1 := by unfold wrap64; omega
            have w02 : wrap64 (1 + 1) = 2 := by unfold wrap64; omega
            obtain ⟨y, hy, H⟩ := Option.bind_eq_some_iff.mp H'.out
            clear H'
            have KY1 := Aside0.mk (trace_yes.calls k a0 a3_0 A3_1 c3_1 l3_1 A3_2 c3_2 l3_2 0 A2 c2 l2 y gt w7 (Kd.C_below HR1.out HB6.out) HC1.out (Kd.C_below HR3.out HB6.out) HC3.out (Kd.C_below HR2.out HB6.out) HC2.out B_gt.out hy)
            clear hy
            cases y with
            | false =>
              replace H : some (false, (0 : Int), (1 : Int), (0 : Int)) = some (r1, r2, r3, r4) := H
              simp only [Option.some.injEq, Prod.mk.injEq] at H
              obtain ⟨rfl, rfl, rfl, rfl⟩ := H
              go_wp2_with (first | (go_at_call 48; with_reducible refine (KY1.out).mono ?_; rintro e w8 ⟨rfl, hg_, hb_⟩; rw [w01] at hg_; have D_gt := Aside0.mk hg_; have HB8 := Aside0.mk (Below.trans HB6.out (hb_.below GE_gt.out (below_size HB6.out))); have D_gh := Aside0.mk (hb_.heap C_gh.out N_gh_gt.out); have D_gs := Aside0.mk (hb_.heap C_gs.out N_gs_gt.out); have D_gv := Aside0.mk (hb_.heap C_gv.out N_gv_gt.out); have n4_w8 : w8.cell? ⟨gt, 4, none⟩ = some (.int .i64 1) := (blk_cell D_gt.out 4).trans rfl; have z0_w8 := blk_frozen D_gv.out 0; have z1_w8 := blk_frozen D_gv.out 1; have z2_w8 := blk_frozen D_gv.out 2; have v0_w8 : w8.cell? ⟨gv, 0, none⟩ = some (.bool false) := (blk_cell D_gv.out 0).trans rfl; have v1_w8 : w8.cell? ⟨gv, 1, none⟩ = some (.int .u64 0) := (blk_cell D_gv.out 1).trans rfl; have v2_w8 : w8.cell? ⟨gv, 2, none⟩ = some (.int .i64 0) := (blk_cell D_gv.out 2).trans rfl; clear hg_ hb_))
              simp only [Exit.jump]; refine bodyPost_ret (results_ct rfl _ _ gv 48 #[.bool false, .int .u64 0, .int .i64 1] (0, 0) _ rfl (by refine blk_put (cs := #[.bool false, .int .u64 0, .int .i64 0]) ?_ 2 _ rfl; refine blk_put (cs := #[.bool false, .int .u64 0, .int .i64 0]) ?_ 1 _ rfl; refine blk_put (cs := #[.bool false, .int .u64 0, .int .i64 0]) ?_ 0 _ rfl; exact D_gv.out) Try.underlying48 rfl (by kernel_rfl)) rfl ?_
              exact ⟨rfl, by repeat (first | exact HB8.out | refine below_set ?_ GE_gv.out)⟩
            | true =>
              replace H : ((trace_yes.f k a0 a3_0 l3_1 l3_2 1 []).bind fun z => if z = true then some (false, 0, 2, 0) else ((trace_gap.g k a0 a3_0 l3_1 l3_2 l2 k 2 0 l2.length).bind fun g => if g.1 < l2.length then trace_Trace.d k a0 a1 a3_0 l3_1 l3_2 k g.2 (rd_T24 l2 g.1).f0 (rd_T24 l2 g.1).f1 else none)) = some (r1, r2, r3, r4) := H
              obtain ⟨z, hz, H⟩ := Option.bind_eq_some_iff.mp H
              have HZ := Aside0.mk hz
              have H' := Aside0.mk H
              clear hz H
              cases z with
              | true =>
                have H : some (false, (0 : Int), (2 : Int), (0 : Int)) = some (r1, r2, r3, r4) := H'.out
                simp only [Option.some.injEq, Prod.mk.injEq] at H
                obtain ⟨rfl, rfl, rfl, rfl⟩ := H
                go_wp2_with (first | (go_at_call 48; with_reducible refine (KY1.out).mono ?_; rintro e w8 ⟨rfl, hg_, hb_⟩; rw [w01] at hg_; have D_gt := Aside0.mk hg_; have HB8 := Aside0.mk (Below.trans HB6.out (hb_.below GE_gt.out (below_size HB6.out))); have D_gh := Aside0.mk (hb_.heap C_gh.out N_gh_gt.out); have D_gs := Aside0.mk (hb_.heap C_gs.out N_gs_gt.out); have D_gv := Aside0.mk (hb_.heap C_gv.out N_gv_gt.out); have n4_w8 : w8.cell? ⟨gt, 4, none⟩ = some (.int .i64 1) := (blk_cell D_gt.out 4).trans rfl; have z0_w8 := blk_frozen D_gv.out 0; have z1_w8 := blk_frozen D_gv.out 1; have z2_w8 := blk_frozen D_gv.out 2; have v0_w8 : w8.cell? ⟨gv, 0, none⟩ = some (.bool false) := (blk_cell D_gv.out 0).trans rfl; have v1_w8 : w8.cell? ⟨gv, 1, none⟩ = some (.int .u64 0) := (blk_cell D_gv.out 1).trans rfl; have v2_w8 : w8.cell? ⟨gv, 2, none⟩ = some (.int .i64 0) := (blk_cell D_gv.out 2).trans rfl; clear hg_ hb_) | (go_at_call 48; have k2_ : Calls Try.prog 48 #[.pointer (some ⟨gt, 0, none⟩), .slice none 0 0] w8 _ := trace_yes.calls k a0 a3_0 A3_1 c3_1 l3_1 A3_2 c3_2 l3_2 1 none 0 [] true gt w8 (Kd.C_below HR1.out HB8.out) HC1.out (Kd.C_below HR3.out HB8.out) HC3.out (Kd.C_nil k24 w8) (Nat.le_refl 0) D_gt.out HZ.out; with_reducible refine (k2_).mono ?_; rintro e w9 ⟨rfl, hg_, hb_⟩; rw [w02] at hg_; have E_gt := Aside0.mk hg_; have HB9 := Aside0.mk (Below.trans HB8.out (hb_.below GE_gt.out (below_size HB8.out))); have E_gh := Aside0.mk (hb_.heap D_gh.out N_gh_gt.out); have E_gs := Aside0.mk (hb_.heap D_gs.out N_gs_gt.out); have E_gv := Aside0.mk (hb_.heap D_gv.out N_gv_gt.out); have n4_w9 : w9.cell? ⟨gt, 4, none⟩ = some (.int .i64 2) := (blk_cell E_gt.out 4).trans rfl; have z0_w9 := blk_frozen E_gv.out 0; have z1_w9 := blk_frozen E_gv.out 1; have z2_w9 := blk_frozen E_gv.out 2; have v0_w9 : w9.cell? ⟨gv, 0, none⟩ = some (.bool false) := (blk_cell E_gv.out 0).trans rfl; have v1_w9 : w9.cell? ⟨gv, 1, none⟩ = some (.int .u64 0) := (blk_cell E_gv.out 1).trans rfl; have v2_w9 : w9.cell? ⟨gv, 2, none⟩ = some (.int .i64 0) := (blk_cell E_gv.out 2).trans rfl; clear hg_ hb_ k2_))
                simp only [Exit.jump]; refine bodyPost_ret (results_ct rfl _ _ gv 48 #[.bool false, .int .u64 0, .int .i64 2] (0, 0) _ rfl (by refine blk_put (cs := #[.bool false, .int .u64 0, .int .i64 0]) ?_ 2 _ rfl; refine blk_put (cs := #[.bool false, .int .u64 0, .int .i64 0]) ?_ 1 _ rfl; refine blk_put (cs := #[.bool false, .int .u64 0, .int .i64 0]) ?_ 0 _ rfl; exact E_gv.out) Try.underlying48 rfl (by kernel_rfl)) rfl ?_
                exact ⟨rfl, by repeat (first | exact HB9.out | refine below_set ?_ GE_gv.out)⟩
              | false =>
                have H : ((trace_gap.g k a0 a3_0 l3_1 l3_2 l2 k 2 0 l2.length).bind fun g => if g.1 < l2.length then trace_Trace.d k a0 a1 a3_0 l3_1 l3_2 k g.2 (rd_T24 l2 g.1).f0 (rd_T24 l2 g.1).f1 else none) = some (r1, r2, r3, r4) := H'.out
                clear H'
                obtain ⟨⟨gp_, gn⟩, hgp, H⟩ := Option.bind_eq_some_iff.mp H
                replace H : (if gp_ < l2.length then trace_Trace.d k a0 a1 a3_0 l3_1 l3_2 k gn (rd_T24 l2 gp_).f0 (rd_T24 l2 gp_).f1 else none) = some (r1, r2, r3, r4) := H
                by_cases cg : gp_ < l2.length
                · rw [if_pos cg] at H
                  have HD := Aside0.mk H
                  have HGP := Aside0.mk hgp
                  clear H hgp
                  have p60 : (0 ≤ (gp_ : Int)) = True := eq_true (by omega)
                  have q60 : ((gp_ : Int) < (l2.length : Int)) = True := eq_true (by omega)
                  have qn60 : (gp_ < l2.length) = True := eq_true cg
                  obtain ⟨ad, ead, hx0, hx1⟩ := at_T24 HR2.out (gp_ : Int) (by omega) (by omega)
                  subst ead
                  rw [Int.toNat_natCast] at hx0 hx1
                  have HX0 := Aside0.mk hx0
                  have HX1 := Aside0.mk hx1
                  clear hx0 hx1
                  generalize rd_T24 l2 (gp_ : Int) = s at HX0 HX1 HD
                  go_wp2_with (first | (go_at_call 48; with_reducible refine (KY1.out).mono ?_; rintro e w8 ⟨rfl, hg_, hb_⟩; rw [w01] at hg_; have D_gt := Aside0.mk hg_; have HB8 := Aside0.mk (Below.trans HB6.out (hb_.below GE_gt.out (below_size HB6.out))); have D_gh := Aside0.mk (hb_.heap C_gh.out N_gh_gt.out); have D_gs := Aside0.mk (hb_.heap C_gs.out N_gs_gt.out); have D_gv := Aside0.mk (hb_.heap C_gv.out N_gv_gt.out); have n4_w8 : w8.cell? ⟨gt, 4, none⟩ = some (.int .i64 1) := (blk_cell D_gt.out 4).trans rfl; have z0_w8 := blk_frozen D_gv.out 0; have z1_w8 := blk_frozen D_gv.out 1; have z2_w8 := blk_frozen D_gv.out 2; have v0_w8 : w8.cell? ⟨gv, 0, none⟩ = some (.bool false) := (blk_cell D_gv.out 0).trans rfl; have v1_w8 : w8.cell? ⟨gv, 1, none⟩ = some (.int .u64 0) := (blk_cell D_gv.out 1).trans rfl; have v2_w8 : w8.cell? ⟨gv, 2, none⟩ = some (.int .i64 0) := (blk_cell D_gv.out 2).trans rfl; clear hg_ hb_) | (go_at_call 48; have k2_ : Calls Try.prog 48 #[.pointer (some ⟨gt, 0, none⟩), .slice none 0 0] w8 _ := trace_yes.calls k a0 a3_0 A3_1 c3_1 l3_1 A3_2 c3_2 l3_2 1 none 0 [] false gt w8 (Kd.C_below HR1.out HB8.out) HC1.out (Kd.C_below HR3.out HB8.out) HC3.out (Kd.C_nil k24 w8) (Nat.le_refl 0) D_gt.out HZ.out; with_reducible refine (k2_).mono ?_; rintro e w9 ⟨rfl, hg_, hb_⟩; rw [w02] at hg_; have E_gt := Aside0.mk hg_; have HB9 := Aside0.mk (Below.trans HB8.out (hb_.below GE_gt.out (below_size HB8.out))); have E_gh := Aside0.mk (hb_.heap D_gh.out N_gh_gt.out); have E_gs := Aside0.mk (hb_.heap D_gs.out N_gs_gt.out); have E_gv := Aside0.mk (hb_.heap D_gv.out N_gv_gt.out); have n4_w9 : w9.cell? ⟨gt, 4, none⟩ = some (.int .i64 2) := (blk_cell E_gt.out 4).trans rfl; have z0_w9 := blk_frozen E_gv.out 0; have z1_w9 := blk_frozen E_gv.out 1; have z2_w9 := blk_frozen E_gv.out 2; have v0_w9 : w9.cell? ⟨gv, 0, none⟩ = some (.bool false) := (blk_cell E_gv.out 0).trans rfl; have v1_w9 : w9.cell? ⟨gv, 1, none⟩ = some (.int .u64 0) := (blk_cell E_gv.out 1).trans rfl; have v2_w9 : w9.cell? ⟨gv, 2, none⟩ = some (.int .i64 0) := (blk_cell E_gv.out 2).trans rfl; clear hg_ hb_ k2_) | (go_at_call 49; with_reducible refine (trace_gap.calls k a0 a3_0 A3_1 c3_1 l3_1 A3_2 c3_2 l3_2 2 (some ad) c2 l2 k gp_ gn gt w9 (Kd.C_below HR1.out HB9.out) HC1.out (Kd.C_below HR3.out HB9.out) HC3.out (Kd.C_below HR2.out HB9.out) HC2.out (Nat.le_trans HL.out (by decide)) E_gt.out (fun W hW => (have hW' := Below.trans HB9.out (hW.below GE_gt.out (below_size HB9.out)); ⟨Kd.C_below HR1.out hW', Kd.C_below HR3.out hW', Kd.C_below HR2.out hW'⟩)) HGP.out).mono ?_; rintro e w10 ⟨rfl, hg_, hb_⟩; have G_gt := Aside0.mk hg_; have HB10 := Aside0.mk (Below.trans HB9.out (hb_.below GE_gt.out (below_size HB9.out))); have G_gh := Aside0.mk (hb_.heap E_gh.out N_gh_gt.out); have G_gs := Aside0.mk (hb_.heap E_gs.out N_gs_gt.out); have G_gv := Aside0.mk (hb_.heap E_gv.out N_gv_gt.out); have hx0 := (HB10.out.cell (World.block_lt_of_cell? w _ HX0.out)).trans HX0.out; have hx1 := (HB10.out.cell (World.block_lt_of_cell? w _ HX1.out)).trans HX1.out; clear hg_ hb_) | ((with_reducible refine gate_dst (N := 12) rfl ?_); refine box_event ?hg (N := 12) ?hd (cs := #[.int .u64 0, .int .u64 0]) (t := 24) ?hr ?_; (case hd => rfl); (case hg => rfl); (case hr => first | (go_simp; done) | (go_simp; rfl)); intro gb hg w11 hbox hb; have m0_ := Aside0.mk (blk_below G_gh.out hb); have m1_ := Aside0.mk (blk_below G_gs.out hb); have m2_ := Aside0.mk (blk_below G_gv.out hb); have m3_ := Aside0.mk (blk_below G_gt.out hb); have e0_ := Aside0.mk (show gh ≠ gb from by rw [hg]; exact Nat.ne_of_lt (blk_lt G_gh.out)); have e1_ := Aside0.mk (show gs ≠ gb from by rw [hg]; exact Nat.ne_of_lt (blk_lt G_gs.out)); have e2_ := Aside0.mk (show gv ≠ gb from by rw [hg]; exact Nat.ne_of_lt (blk_lt G_gv.out)); have e3_ := Aside0.mk (show gt ≠ gb from by rw [hg]; exact Nat.ne_of_lt (blk_lt G_gt.out)); have mb_ := Aside0.mk (below_step HB10.out hb); have GE_gb := Aside0.mk (show w.heap.size ≤ gb by rw [hg]; exact below_size HB10.out); clear HB10 G_gh G_gs G_gv G_gt; have HB10 := mb_; have G_gh := m0_; have N_gh_gb := e0_; clear m0_ e0_; have G_gs := m1_; have N_gs_gb := e1_; clear m1_ e1_; have G_gv := m2_; have N_gv_gb := e2_; clear m2_ e2_; have G_gt := m3_; have N_gt_gb := e3_; clear m3_ e3_; have B_gb := Aside0.mk hbox; replace hx0 := (hb.cell (World.block_lt_of_cell? _ _ hx0)).trans hx0; replace hx1 := (hb.cell (World.block_lt_of_cell? _ _ hx1)).trans hx1; have zb0 := blk_frozen B_gb.out 0; have zb1 := blk_frozen B_gb.out 1; have yb0 : w11.cell? ⟨gb, 0, none⟩ = some (.int .u64 0) := (blk_cell B_gb.out 0).trans rfl; have yb1 : w11.cell? ⟨gb, 1, none⟩ = some (.int .u64 0) := (blk_cell B_gb.out 1).trans rfl; clear mb_ hb hbox hg))
                  go_step3
                  go_step
                  go_step
                  refine HP.out k _ _ ⟨_, gh, gs, gv, gt, gb, gn, s.f0, s.f1, rfl, rfl, ⟨rfl, rfl, rfl, rfl, rfl⟩, HD.out, ?_, ?_, ?_, ?_, ?_, ⟨N_gh_gt.out, N_gs_gt.out, N_gv_gt.out, fun e => N_gt_gb.out e.symm, N_gh_gb.out, N_gs_gb.out, N_gv_gb.out⟩, ⟨GE_gv.out, GE_gt.out, GE_gb.out⟩, ?_⟩
                  · exact tr_far G_gh.out N_gh_gb.out
                  · exact tr_far G_gs.out N_gs_gb.out
                  · exact tr_far G_gv.out N_gv_gb.out
                  · exact tr_far G_gt.out N_gt_gb.out
                  · exact tr_put B_gb.out
                  · exact below_set (below_set HB10.out GE_gb.out) GE_gb.out
                · rw [if_neg cg] at H; cases H
    · rw [if_neg c1] at H
      have c1b : (t != 0) = true := bne_iff_ne.mpr c1
      clear c1
      simp only [Option.some.injEq, Prod.mk.injEq] at H
      obtain ⟨rfl, rfl, rfl, rfl⟩ := H
      go_wp2_with (first | ((with_reducible refine gate_callee (f := 27) rfl ?_); refine goesL_ (some 21) rfl rfl Try.func27 (by kernel_rfl) rfl #[.int .i64 a0, .slice A3_1 l3_1.length c3_1] rfl (by (try simp only [List.map_toArray, List.map_cons, List.map_nil]); first | done | rfl) ?_; (with_reducible refine (leaf_Check.calls k a0 _ _ l3_1 t _ (Kd.C_below HR1.out HB.out) HC1.out A5.out).mono ?_); rintro e w5 ⟨rfl, ⟨nd, rfl⟩⟩; refine ⟨_, rfl, ?_⟩))
      simp only [Exit.jump]; refine bodyPost_ret (results_ct rfl _ _ gv 48 #[.bool false, .int .u64 0, .int .i64 0] (0, 0) _ rfl (by refine blk_put (cs := #[.bool false, .int .u64 0, .int .i64 0]) ?_ 2 _ rfl; refine blk_put (cs := #[.bool false, .int .u64 0, .int .i64 0]) ?_ 1 _ rfl; refine blk_put (cs := #[.bool false, .int .u64 0, .int .i64 0]) ?_ 0 _ rfl; exact B_gv.out) Try.underlying48 rfl (by kernel_rfl)) rfl ?_
      exact ⟨rfl, by repeat (first | exact pw_below_drewN HB.out nd | refine below_set ?_ GE_gv.out)⟩
def medlarlaw23_live.f (k : Nat)  : Option (Bool) := (trace_Trace.f k 2 2 (([(⟨1, 0⟩ : S24)] : List (S24))) false (([2] : List Int)) ([] : List Bool)).bind fun bt234 => (if bt234.2.2.2 = 0 then (if bt234.1 = true then (some (bt234.2.1 == 2)) else (some false)) else (some false))
theorem medlarlaw23_live.mono : ∀ k, LeO (medlarlaw23_live.f k ) (medlarlaw23_live.f (k + 1) ) := by
  intro  k
  unfold medlarlaw23_live.f
  repeat' first
      | (with_reducible exact trace_Trace.mono _ _ _ _ _ _ _)
      | (with_reducible exact LeO.refl _)
      | (with_reducible exact LeO.none _)
      | (with_reducible refine LeO.ite ?_ ?_)
      | (with_reducible refine LeO.bind ?_ (fun _ => ?_))
      | exact trace_Trace.mono _ _ _ _ _ _ _
      | exact LeO.none _
      | refine LeO.ite ?_ ?_
      | refine LeO.bind ?_ (fun _ => ?_)
set_option maxHeartbeats 8000000 in
set_option maxRecDepth 100000 in
theorem medlarlaw23_live.calls (k : Nat)  (r : Bool) (w : World) (h : medlarlaw23_live.f k  = some r) :
    Calls Try.prog 9 #[] w fun e w' => e = .returned (.bool r) ∧ Below w.heap.size w w' := by
  have hu24 := Try.underlying24
  have hu42 := Try.underlying42
  have hu48 := Try.underlying48
  have HB := Aside0.mk (Below.refl w.heap.size w)
  have H : ((trace_Trace.f k 2 2 (([(⟨1, 0⟩ : S24)] : List (S24))) false (([2] : List Int)) ([] : List Bool)).bind fun bt234 => (if bt234.2.2.2 = 0 then (if bt234.1 = true then (some (bt234.2.1 == 2)) else (some false)) else (some false))) = some r := h
  clear h
  obtain ⟨y228, hy228⟩ : ∃ y_ : List (S24), y_ = (([(⟨1, 0⟩ : S24)] : List (S24))) := ⟨_, rfl⟩
  replace H : ((trace_Trace.f k 2 2 y228 false (([2] : List Int)) ([] : List Bool)).bind fun bt234 => (if bt234.2.2.2 = 0 then (if bt234.1 = true then (some (bt234.2.1 == 2)) else (some false)) else (some false))) = some r := by first | (rw [hy228]; with_reducible exact H) | (have H2_ := (Option.bind_some _ _).symm.trans H; rw [hy228]; with_reducible exact H2_) | (have H2_ := (Option.bind_some _ _).symm.trans H; with_reducible exact H2_) | with_reducible exact H | (rw [hy228]; exact H) | exact H
  have Ny228 := Aside0.mk hy228
  clear hy228
  obtain ⟨y231, hy231⟩ : ∃ y_ : List Int, y_ = (([2] : List Int)) := ⟨_, rfl⟩
  replace H : ((trace_Trace.f k 2 2 y228 false y231 ([] : List Bool)).bind fun bt234 => (if bt234.2.2.2 = 0 then (if bt234.1 = true then (some (bt234.2.1 == 2)) else (some false)) else (some false))) = some r := by first | (rw [hy231]; with_reducible exact H) | (have H2_ := (Option.bind_some _ _).symm.trans H; rw [hy231]; with_reducible exact H2_) | (have H2_ := (Option.bind_some _ _).symm.trans H; with_reducible exact H2_) | with_reducible exact H | (rw [hy231]; exact H) | exact H
  have Ny231 := Aside0.mk hy231
  clear hy231
  replace H := Option.bind_eq_some_iff.mp H
  obtain ⟨⟨t234, t235, t236, t237⟩, A10, H⟩ := H
  replace H : (if t237 = 0 then (if t234 = true then (some (t235 == 2)) else (some false)) else (some false)) = some r := H
  have A1 := Aside0.mk A10
  clear A10
  by_cases c2 : t237 = 0
  · rw [if_pos c2] at H
    have c2b0 : (t237 == 0) = true := beq_iff_eq.mpr c2
    have c2b1 : (t237 != 0) = false := bne_eq_false_iff_eq.mpr c2
    clear c2
    by_cases c3 : t234 = true
    · subst c3
      have H1 : (some (t235 == 2)) = some r := by rw [if_pos rfl] at H; exact H
      clear H
      have H := H1
      clear H1
      obtain rfl := Option.some.inj H
      go_enter Try.func9, Try.ntmps9
      go_wp2_with (first | ((with_reducible refine gate_dst (N := 5) rfl ?_); refine Kd.R_lit k24 _ 24 ?hg (N := 5) ?hd (xs := ([(⟨1, 0⟩ : S24)] : List (S24))) (inner := [.int .u64 1, .int .u64 0]) (ok := fun _ => True) (okp := fun _ => True) ?hr ?hp (fun _ hk => hk) trivial (Below.refl _ _) (Nat.le_refl _) (by simp) ?_; (case hd => rfl); (case hg => rfl); (case hr => first | (go_simp; done) | (go_simp; rfl)); (case hp => exact (Reps.c2 (show Kd.M k24 _ _ _ (⟨1, 0⟩ : S24) [.int .u64 1, .int .u64 0] from (k24_mkM _ _ _ (⟨1, 0⟩ : S24) )) (Reps.none _ _))); intro v229 w4 ho5 hb hg_ hnew_; clear hg_ hnew_; (first | rw [← Ny228.out] at ho5 | (simp only [Int.reduceToNat] at ho5; rw [← Ny228.out] at ho5)); have n0_ := Aside0.mk (Kd.R_lower ho5 (below_size (by repeat (first | (with_reducible first | exact HB.out | apply below_alloc | apply pw_below_drewN | apply below_drew1) | exact HB.out)))); have n1_ := Aside0.mk (below_step (by repeat (first | (with_reducible first | exact HB.out | apply below_alloc | apply pw_below_drewN | apply below_drew1) | exact HB.out)) hb); clear HB; have HO230 := n0_; have HB := n1_; clear n0_ n1_; clear hb ho5) | ((with_reducible refine gate_dst (N := 6) rfl ?_); refine Kd.R_lit (Kd.int .u64) _ 22 ?hg (N := 6) ?hd (xs := ([2] : List Int)) (inner := [.int .u64 2]) (ok := fun _ => True) (okp := fun _ => True) ?hr ?hp (fun _ hk => hk) trivial (Below.refl _ _) (Nat.le_refl _) (by simp) ?_; (case hd => rfl); (case hg => rfl); (case hr => first | (go_simp; done) | (go_simp; rfl)); (case hp => exact (Reps.one (show Kd.M (Kd.int .u64) _ _ _ 2 [.int .u64 2] from rfl) (Reps.none _ _))); intro v232 w6 ho7 hb hg_ hnew_; clear hg_ hnew_; (first | rw [← Ny231.out] at ho7 | (simp only [Int.reduceToNat] at ho7; rw [← Ny231.out] at ho7)); have n0_ := Aside0.mk (Kd.R_below (by (with_reducible repeat (first | apply Kd.R_alloc | apply Kd.R_drewN | apply Kd.R_drew)); exact HO230.out) hb); have n1_ := Aside0.mk (Kd.R_lower ho7 (below_size (by repeat (first | (with_reducible first | exact HB.out | apply below_alloc | apply pw_below_drewN | apply below_drew1) | exact HB.out)))); have n2_ := Aside0.mk (below_step (by repeat (first | (with_reducible first | exact HB.out | apply below_alloc | apply pw_below_drewN | apply below_drew1) | exact HB.out)) hb); clear HO230; clear HB; have HO230 := n0_; have HO233 := n1_; have HB := n2_; clear n0_ n1_ n2_; clear hb ho7; obtain ⟨Ao8, co8, eo8⟩ := Kd.R_slice HO233.out; subst eo8; obtain ⟨Ao9, co9, eo9⟩ := Kd.R_slice HO230.out; subst eo9) | ((with_reducible refine gate_callee (f := 20) rfl ?_); refine goesL_ (some 8) rfl rfl Try.func20 (by kernel_rfl) rfl #[.int .i64 2, .int .i64 2, .slice Ao9 y228.length co9, .agg #[.bool false, .slice Ao8 y231.length co8, .slice none 0 0]] rfl (by (try simp only [List.map_toArray, List.map_cons, List.map_nil]); first | done | rfl | (simp only [List.length_drop, List.length_take]; rfl)) ?_; (refine (trace_Trace.calls k 2 2 _ _ y228 false _ _ y231 _ _ ([] : List Bool) true t235 t236 t237 _ ?side1 ?side2 ?side3 ?side4 ?side5 ?side6 A1.out).mono ?_); (case side1 => repeat (first | exact (Kd.R_reads' HO230.out).2.2 | (with_reducible refine Kd.C_alloc ?_ _) | (with_reducible refine Kd.C_drewN ?_ _) | (with_reducible refine Kd.C_drew ?_))); (case side2 => exact (Kd.R_reads' HO230.out).2.1); (case side3 => repeat (first | exact (Kd.R_reads' HO233.out).2.2 | (with_reducible refine Kd.C_alloc ?_ _) | (with_reducible refine Kd.C_drewN ?_ _) | (with_reducible refine Kd.C_drew ?_))); (case side4 => exact (Kd.R_reads' HO233.out).2.1); (case side5 => exact Kd.C_nil _ _); (case side6 => exact Nat.le_refl _); rintro e w10 ⟨rfl, hb⟩; refine ⟨_, rfl, ?_⟩; have n0_ := Aside0.mk (Kd.R_below (by (with_reducible repeat (first | apply Kd.R_alloc | apply Kd.R_drewN | apply Kd.R_drew)); exact HO230.out) hb); have n1_ := Aside0.mk (Kd.R_below (by (with_reducible repeat (first | apply Kd.R_alloc | apply Kd.R_drewN | apply Kd.R_drew)); exact HO233.out) hb); have n2_ := Aside0.mk (below_step (by repeat (first | (with_reducible first | exact HB.out | apply below_alloc | apply pw_below_drewN | apply below_drew1) | exact HB.out)) hb); clear HO230; clear HO233; clear HB; have HO230 := n0_; have HO233 := n1_; have HB := n2_; clear n0_ n1_ n2_; (try clear hb); (try clear hb2); (try clear hk); (try clear hi)) | ((with_reducible refine gate_dst (N := 1) rfl ?_); refine box_event ?hg (N := 1) ?hd (cs := #[.bool false, .int .u64 0, .int .i64 0]) (t := 48) ?hr ?_; (case hd => rfl); (case hg => rfl); (case hr => first | (go_simp; done) | (go_simp; rfl)); intro gb238 hg w11 hbox hb; have n0_ := Aside0.mk (Kd.R_below (by (with_reducible repeat (first | apply Kd.R_alloc | apply Kd.R_drewN | apply Kd.R_drew)); exact HO230.out) hb); have n1_ := Aside0.mk (Kd.R_below (by (with_reducible repeat (first | apply Kd.R_alloc | apply Kd.R_drewN | apply Kd.R_drew)); exact HO233.out) hb); have n2_ := Aside0.mk (below_step (by repeat (first | (with_reducible first | exact HB.out | apply below_alloc | apply pw_below_drewN | apply below_drew1) | exact HB.out)) hb); have n3_ := Aside0.mk (hbox); have n4_ := Aside0.mk ((by rw [hg]; exact (below_size (by repeat (first | (with_reducible first | exact HB.out | apply below_alloc | apply pw_below_drewN | apply below_drew1) | exact HB.out))) : w.heap.size ≤ gb238)); have n5_ := Aside0.mk ((by rw [hg]; exact (below_size (by repeat (first | (with_reducible first | exact HB.out | apply below_alloc | apply pw_below_drewN | apply below_drew1) | exact HB.out))) : w.heap.size ≤ gb238)); clear HO230; clear HO233; clear HB; have HO230 := n0_; have HO233 := n1_; have HB := n2_; have BK238 := n3_; have GW238 := n4_; have GE238 := n5_; clear n0_ n1_ n2_ n3_ n4_ n5_; clear hb hbox hg; have hcz12_0 : w11.cell? ⟨gb238, 0, none⟩ = some (.bool false) := (blk_cell BK238.out 0).trans rfl; have hcz12_1 : w11.cell? ⟨gb238, 1, none⟩ = some (.int .u64 0) := (blk_cell BK238.out 1).trans rfl; have hcz12_2 : w11.cell? ⟨gb238, 2, none⟩ = some (.int .i64 0) := (blk_cell BK238.out 2).trans rfl; have hfz12_0 := blk_frozen BK238.out 0; have hfz12_1 := blk_frozen BK238.out 1; have hfz12_2 := blk_frozen BK238.out 2))
      go_ret
      exact ⟨by first | rfl | (simp [errW_none, errW_some] <;> rfl) | (simp [*, errW_none, errW_some] <;> rfl), by repeat (first | (with_reducible first | exact HB.out | apply below_alloc | apply pw_below_drewN | apply below_drew1 | refine below_set ?_ GE238.out) | exact HB.out)⟩
    · replace c3 := Bool.eq_false_iff.mpr c3
      subst c3
      have H1 : (some false) = some r := by rw [if_neg (show ¬ (false = true) by decide)] at H; exact H
      clear H
      have H := H1
      clear H1
      obtain rfl := Option.some.inj H
      go_enter Try.func9, Try.ntmps9
      go_wp2_with (first | ((with_reducible refine gate_dst (N := 5) rfl ?_); refine Kd.R_lit k24 _ 24 ?hg (N := 5) ?hd (xs := ([(⟨1, 0⟩ : S24)] : List (S24))) (inner := [.int .u64 1, .int .u64 0]) (ok := fun _ => True) (okp := fun _ => True) ?hr ?hp (fun _ hk => hk) trivial (Below.refl _ _) (Nat.le_refl _) (by simp) ?_; (case hd => rfl); (case hg => rfl); (case hr => first | (go_simp; done) | (go_simp; rfl)); (case hp => exact (Reps.c2 (show Kd.M k24 _ _ _ (⟨1, 0⟩ : S24) [.int .u64 1, .int .u64 0] from (k24_mkM _ _ _ (⟨1, 0⟩ : S24) )) (Reps.none _ _))); intro v229 w13 ho14 hb hg_ hnew_; clear hg_ hnew_; (first | rw [← Ny228.out] at ho14 | (simp only [Int.reduceToNat] at ho14; rw [← Ny228.out] at ho14)); have n0_ := Aside0.mk (Kd.R_lower ho14 (below_size (by repeat (first | (with_reducible first | exact HB.out | apply below_alloc | apply pw_below_drewN | apply below_drew1) | exact HB.out)))); have n1_ := Aside0.mk (below_step (by repeat (first | (with_reducible first | exact HB.out | apply below_alloc | apply pw_below_drewN | apply below_drew1) | exact HB.out)) hb); clear HB; have HO230 := n0_; have HB := n1_; clear n0_ n1_; clear hb ho14) | ((with_reducible refine gate_dst (N := 6) rfl ?_); refine Kd.R_lit (Kd.int .u64) _ 22 ?hg (N := 6) ?hd (xs := ([2] : List Int)) (inner := [.int .u64 2]) (ok := fun _ => True) (okp := fun _ => True) ?hr ?hp (fun _ hk => hk) trivial (Below.refl _ _) (Nat.le_refl _) (by simp) ?_; (case hd => rfl); (case hg => rfl); (case hr => first | (go_simp; done) | (go_simp; rfl)); (case hp => exact (Reps.one (show Kd.M (Kd.int .u64) _ _ _ 2 [.int .u64 2] from rfl) (Reps.none _ _))); intro v232 w15 ho16 hb hg_ hnew_; clear hg_ hnew_; (first | rw [← Ny231.out] at ho16 | (simp only [Int.reduceToNat] at ho16; rw [← Ny231.out] at ho16)); have n0_ := Aside0.mk (Kd.R_below (by (with_reducible repeat (first | apply Kd.R_alloc | apply Kd.R_drewN | apply Kd.R_drew)); exact HO230.out) hb); have n1_ := Aside0.mk (Kd.R_lower ho16 (below_size (by repeat (first | (with_reducible first | exact HB.out | apply below_alloc | apply pw_below_drewN | apply below_drew1) | exact HB.out)))); have n2_ := Aside0.mk (below_step (by repeat (first | (with_reducible first | exact HB.out | apply below_alloc | apply pw_below_drewN | apply below_drew1) | exact HB.out)) hb); clear HO230; clear HB; have HO230 := n0_; have HO233 := n1_; have HB := n2_; clear n0_ n1_ n2_; clear hb ho16; obtain ⟨Ao17, co17, eo17⟩ := Kd.R_slice HO233.out; subst eo17; obtain ⟨Ao18, co18, eo18⟩ := Kd.R_slice HO230.out; subst eo18) | ((with_reducible refine gate_callee (f := 20) rfl ?_); refine goesL_ (some 8) rfl rfl Try.func20 (by kernel_rfl) rfl #[.int .i64 2, .int .i64 2, .slice Ao18 y228.length co18, .agg #[.bool false, .slice Ao17 y231.length co17, .slice none 0 0]] rfl (by (try simp only [List.map_toArray, List.map_cons, List.map_nil]); first | done | rfl | (simp only [List.length_drop, List.length_take]; rfl)) ?_; (refine (trace_Trace.calls k 2 2 _ _ y228 false _ _ y231 _ _ ([] : List Bool) false t235 t236 t237 _ ?side1 ?side2 ?side3 ?side4 ?side5 ?side6 A1.out).mono ?_); (case side1 => repeat (first | exact (Kd.R_reads' HO230.out).2.2 | (with_reducible refine Kd.C_alloc ?_ _) | (with_reducible refine Kd.C_drewN ?_ _) | (with_reducible refine Kd.C_drew ?_))); (case side2 => exact (Kd.R_reads' HO230.out).2.1); (case side3 => repeat (first | exact (Kd.R_reads' HO233.out).2.2 | (with_reducible refine Kd.C_alloc ?_ _) | (with_reducible refine Kd.C_drewN ?_ _) | (with_reducible refine Kd.C_drew ?_))); (case side4 => exact (Kd.R_reads' HO233.out).2.1); (case side5 => exact Kd.C_nil _ _); (case side6 => exact Nat.le_refl _); rintro e w19 ⟨rfl, hb⟩; refine ⟨_, rfl, ?_⟩; have n0_ := Aside0.mk (Kd.R_below (by (with_reducible repeat (first | apply Kd.R_alloc | apply Kd.R_drewN | apply Kd.R_drew)); exact HO230.out) hb); have n1_ := Aside0.mk (Kd.R_below (by (with_reducible repeat (first | apply Kd.R_alloc | apply Kd.R_drewN | apply Kd.R_drew)); exact HO233.out) hb); have n2_ := Aside0.mk (below_step (by repeat (first | (with_reducible first | exact HB.out | apply below_alloc | apply pw_below_drewN | apply below_drew1) | exact HB.out)) hb); clear HO230; clear HO233; clear HB; have HO230 := n0_; have HO233 := n1_; have HB := n2_; clear n0_ n1_ n2_; (try clear hb); (try clear hb2); (try clear hk); (try clear hi)) | ((with_reducible refine gate_dst (N := 1) rfl ?_); refine box_event ?hg (N := 1) ?hd (cs := #[.bool false, .int .u64 0, .int .i64 0]) (t := 48) ?hr ?_; (case hd => rfl); (case hg => rfl); (case hr => first | (go_simp; done) | (go_simp; rfl)); intro gb238 hg w20 hbox hb; have n0_ := Aside0.mk (Kd.R_below (by (with_reducible repeat (first | apply Kd.R_alloc | apply Kd.R_drewN | apply Kd.R_drew)); exact HO230.out) hb); have n1_ := Aside0.mk (Kd.R_below (by (with_reducible repeat (first | apply Kd.R_alloc | apply Kd.R_drewN | apply Kd.R_drew)); exact HO233.out) hb); have n2_ := Aside0.mk (below_step (by repeat (first | (with_reducible first | exact HB.out | apply below_alloc | apply pw_below_drewN | apply below_drew1) | exact HB.out)) hb); have n3_ := Aside0.mk (hbox); have n4_ := Aside0.mk ((by rw [hg]; exact (below_size (by repeat (first | (with_reducible first | exact HB.out | apply below_alloc | apply pw_below_drewN | apply below_drew1) | exact HB.out))) : w.heap.size ≤ gb238)); have n5_ := Aside0.mk ((by rw [hg]; exact (below_size (by repeat (first | (with_reducible first | exact HB.out | apply below_alloc | apply pw_below_drewN | apply below_drew1) | exact HB.out))) : w.heap.size ≤ gb238)); clear HO230; clear HO233; clear HB; have HO230 := n0_; have HO233 := n1_; have HB := n2_; have BK238 := n3_; have GW238 := n4_; have GE238 := n5_; clear n0_ n1_ n2_ n3_ n4_ n5_; clear hb hbox hg; have hcz21_0 : w20.cell? ⟨gb238, 0, none⟩ = some (.bool false) := (blk_cell BK238.out 0).trans rfl; have hcz21_1 : w20.cell? ⟨gb238, 1, none⟩ = some (.int .u64 0) := (blk_cell BK238.out 1).trans rfl; have hcz21_2 : w20.cell? ⟨gb238, 2, none⟩ = some (.int .i64 0) := (blk_cell BK238.out 2).trans rfl; have hfz21_0 := blk_frozen BK238.out 0; have hfz21_1 := blk_frozen BK238.out 1; have hfz21_2 := blk_frozen BK238.out 2))
      go_ret
      exact ⟨by first | rfl | (simp [errW_none, errW_some] <;> rfl) | (simp [*, errW_none, errW_some] <;> rfl), by repeat (first | (with_reducible first | exact HB.out | apply below_alloc | apply pw_below_drewN | apply below_drew1 | refine below_set ?_ GE238.out) | exact HB.out)⟩
  · rw [if_neg c2] at H
    have c2b0 : (t237 == 0) = false := beq_eq_false_iff_ne.mpr c2
    have c2b1 : (t237 != 0) = true := bne_iff_ne.mpr c2
    obtain rfl := Option.some.inj H
    go_enter Try.func9, Try.ntmps9
    go_wp2_with (first | ((with_reducible refine gate_dst (N := 5) rfl ?_); refine Kd.R_lit k24 _ 24 ?hg (N := 5) ?hd (xs := ([(⟨1, 0⟩ : S24)] : List (S24))) (inner := [.int .u64 1, .int .u64 0]) (ok := fun _ => True) (okp := fun _ => True) ?hr ?hp (fun _ hk => hk) trivial (Below.refl _ _) (Nat.le_refl _) (by simp) ?_; (case hd => rfl); (case hg => rfl); (case hr => first | (go_simp; done) | (go_simp; rfl)); (case hp => exact (Reps.c2 (show Kd.M k24 _ _ _ (⟨1, 0⟩ : S24) [.int .u64 1, .int .u64 0] from (k24_mkM _ _ _ (⟨1, 0⟩ : S24) )) (Reps.none _ _))); intro v229 w22 ho23 hb hg_ hnew_; clear hg_ hnew_; (first | rw [← Ny228.out] at ho23 | (simp only [Int.reduceToNat] at ho23; rw [← Ny228.out] at ho23)); have n0_ := Aside0.mk (Kd.R_lower ho23 (below_size (by repeat (first | (with_reducible first | exact HB.out | apply below_alloc | apply pw_below_drewN | apply below_drew1) | exact HB.out)))); have n1_ := Aside0.mk (below_step (by repeat (first | (with_reducible first | exact HB.out | apply below_alloc | apply pw_below_drewN | apply below_drew1) | exact HB.out)) hb); clear HB; have HO230 := n0_; have HB := n1_; clear n0_ n1_; clear hb ho23) | ((with_reducible refine gate_dst (N := 6) rfl ?_); refine Kd.R_lit (Kd.int .u64) _ 22 ?hg (N := 6) ?hd (xs := ([2] : List Int)) (inner := [.int .u64 2]) (ok := fun _ => True) (okp := fun _ => True) ?hr ?hp (fun _ hk => hk) trivial (Below.refl _ _) (Nat.le_refl _) (by simp) ?_; (case hd => rfl); (case hg => rfl); (case hr => first | (go_simp; done) | (go_simp; rfl)); (case hp => exact (Reps.one (show Kd.M (Kd.int .u64) _ _ _ 2 [.int .u64 2] from rfl) (Reps.none _ _))); intro v232 w24 ho25 hb hg_ hnew_; clear hg_ hnew_; (first | rw [← Ny231.out] at ho25 | (simp only [Int.reduceToNat] at ho25; rw [← Ny231.out] at ho25)); have n0_ := Aside0.mk (Kd.R_below (by (with_reducible repeat (first | apply Kd.R_alloc | apply Kd.R_drewN | apply Kd.R_drew)); exact HO230.out) hb); have n1_ := Aside0.mk (Kd.R_lower ho25 (below_size (by repeat (first | (with_reducible first | exact HB.out | apply below_alloc | apply pw_below_drewN | apply below_drew1) | exact HB.out)))); have n2_ := Aside0.mk (below_step (by repeat (first | (with_reducible first | exact HB.out | apply below_alloc | apply pw_below_drewN | apply below_drew1) | exact HB.out)) hb); clear HO230; clear HB; have HO230 := n0_; have HO233 := n1_; have HB := n2_; clear n0_ n1_ n2_; clear hb ho25; obtain ⟨Ao26, co26, eo26⟩ := Kd.R_slice HO233.out; subst eo26; obtain ⟨Ao27, co27, eo27⟩ := Kd.R_slice HO230.out; subst eo27) | ((with_reducible refine gate_callee (f := 20) rfl ?_); refine goesL_ (some 8) rfl rfl Try.func20 (by kernel_rfl) rfl #[.int .i64 2, .int .i64 2, .slice Ao27 y228.length co27, .agg #[.bool false, .slice Ao26 y231.length co26, .slice none 0 0]] rfl (by (try simp only [List.map_toArray, List.map_cons, List.map_nil]); first | done | rfl | (simp only [List.length_drop, List.length_take]; rfl)) ?_; (refine (trace_Trace.calls k 2 2 _ _ y228 false _ _ y231 _ _ ([] : List Bool) t234 t235 t236 t237 _ ?side1 ?side2 ?side3 ?side4 ?side5 ?side6 A1.out).mono ?_); (case side1 => repeat (first | exact (Kd.R_reads' HO230.out).2.2 | (with_reducible refine Kd.C_alloc ?_ _) | (with_reducible refine Kd.C_drewN ?_ _) | (with_reducible refine Kd.C_drew ?_))); (case side2 => exact (Kd.R_reads' HO230.out).2.1); (case side3 => repeat (first | exact (Kd.R_reads' HO233.out).2.2 | (with_reducible refine Kd.C_alloc ?_ _) | (with_reducible refine Kd.C_drewN ?_ _) | (with_reducible refine Kd.C_drew ?_))); (case side4 => exact (Kd.R_reads' HO233.out).2.1); (case side5 => exact Kd.C_nil _ _); (case side6 => exact Nat.le_refl _); rintro e w28 ⟨rfl, hb⟩; refine ⟨_, rfl, ?_⟩; have n0_ := Aside0.mk (Kd.R_below (by (with_reducible repeat (first | apply Kd.R_alloc | apply Kd.R_drewN | apply Kd.R_drew)); exact HO230.out) hb); have n1_ := Aside0.mk (Kd.R_below (by (with_reducible repeat (first | apply Kd.R_alloc | apply Kd.R_drewN | apply Kd.R_drew)); exact HO233.out) hb); have n2_ := Aside0.mk (below_step (by repeat (first | (with_reducible first | exact HB.out | apply below_alloc | apply pw_below_drewN | apply below_drew1) | exact HB.out)) hb); clear HO230; clear HO233; clear HB; have HO230 := n0_; have HO233 := n1_; have HB := n2_; clear n0_ n1_ n2_; (try clear hb); (try clear hb2); (try clear hk); (try clear hi)) | ((with_reducible refine gate_dst (N := 1) rfl ?_); refine box_event ?hg (N := 1) ?hd (cs := #[.bool false, .int .u64 0, .int .i64 0]) (t := 48) ?hr ?_; (case hd => rfl); (case hg => rfl); (case hr => first | (go_simp; done) | (go_simp; rfl)); intro gb238 hg w29 hbox hb; have n0_ := Aside0.mk (Kd.R_below (by (with_reducible repeat (first | apply Kd.R_alloc | apply Kd.R_drewN | apply Kd.R_drew)); exact HO230.out) hb); have n1_ := Aside0.mk (Kd.R_below (by (with_reducible repeat (first | apply Kd.R_alloc | apply Kd.R_drewN | apply Kd.R_drew)); exact HO233.out) hb); have n2_ := Aside0.mk (below_step (by repeat (first | (with_reducible first | exact HB.out | apply below_alloc | apply pw_below_drewN | apply below_drew1) | exact HB.out)) hb); have n3_ := Aside0.mk (hbox); have n4_ := Aside0.mk ((by rw [hg]; exact (below_size (by repeat (first | (with_reducible first | exact HB.out | apply below_alloc | apply pw_below_drewN | apply below_drew1) | exact HB.out))) : w.heap.size ≤ gb238)); have n5_ := Aside0.mk ((by rw [hg]; exact (below_size (by repeat (first | (with_reducible first | exact HB.out | apply below_alloc | apply pw_below_drewN | apply below_drew1) | exact HB.out))) : w.heap.size ≤ gb238)); clear HO230; clear HO233; clear HB; have HO230 := n0_; have HO233 := n1_; have HB := n2_; have BK238 := n3_; have GW238 := n4_; have GE238 := n5_; clear n0_ n1_ n2_ n3_ n4_ n5_; clear hb hbox hg; have hcz30_0 : w29.cell? ⟨gb238, 0, none⟩ = some (.bool false) := (blk_cell BK238.out 0).trans rfl; have hcz30_1 : w29.cell? ⟨gb238, 1, none⟩ = some (.int .u64 0) := (blk_cell BK238.out 1).trans rfl; have hcz30_2 : w29.cell? ⟨gb238, 2, none⟩ = some (.int .i64 0) := (blk_cell BK238.out 2).trans rfl; have hfz30_0 := blk_frozen BK238.out 0; have hfz30_1 := blk_frozen BK238.out 1; have hfz30_2 := blk_frozen BK238.out 2))
    go_ret
    exact ⟨by first | rfl | (simp [errW_none, errW_some] <;> rfl) | (simp [*, errW_none, errW_some] <;> rfl), by repeat (first | (with_reducible first | exact HB.out | apply below_alloc | apply pw_below_drewN | apply below_drew1 | refine below_set ?_ GE238.out) | exact HB.out)⟩
def medlarref02_In.l0 : Nat → Int → List Int → Int → Int → Option (Bool)
  | 0, _, _, _, _ => none
  | k + 1, x1, x7, x8, x9 => if x9 < x8 then (if 0 ≤ x9 then (if x9 < (x7.length : Int) then (if (rd x7 x9) = x1 then (some true) else (medlarref02_In.l0 k x1 x7 x8 (wrap64 (x9 + 1)))) else (none)) else (none)) else (some false)
def medlarref02_In.f (k : Nat) (l0 : List Int) (a1 : Int) : Option (Bool) := medlarref02_In.l0 k a1 l0 (l0.length : Int) 0
set_option maxHeartbeats 8000000 in
set_option maxRecDepth 100000 in
theorem medlarref02_In.calls (k : Nat) (A0 : Option Addr) (c0 : Nat) (l0 : List Int) (a1 : Int) (r : Bool) (w : World) (hr0 : Kd.C (Kd.int .u64) w A0 l0.length l0) (hc0 : l0.length ≤ c0) (h : medlarref02_In.f k l0 a1 = some r) :
    Calls Try.prog 24 #[.slice A0 l0.length c0, .int .u64 a1] w fun e w' => e = .returned (.bool r) ∧ Drawn0 w w' := by
  have HR0 := Aside0.mk hr0
  have HC0 := Aside0.mk hc0
  clear hr0 hc0
  have H : (medlarref02_In.l0 k a1 l0 (l0.length : Int) 0) = some r := h
  clear h
  have H' := Aside0.mk H
  clear H
  go_enter Try.func24, Try.ntmps24
  go_wp2
  go_loopg [9] k (fun kq v9 w' => ∃ (x9_1 : Int), v9 = .int .i64 x9_1 ∧ Aside0 (medlarref02_In.l0 kq a1 l0 (l0.length : Int) x9_1 = some r) ∧ Aside0 (kq ≤ k) ∧ Drawn0 w w')
  case atStart => exact ⟨(0), (by first | rfl | (simp; done) | (simp [*]; done)), H', ⟨Nat.le_refl _⟩, by repeat (first | exact Drawn0.refl _ | apply Drawn0.step)⟩
  case round =>
    clear H'
    try clear c2
    try clear p2
    obtain ⟨x9_1, rfl, HA, HK1, ⟨m1, rfl⟩⟩ := hrel
    cases gk with
    | zero => exact absurd HA.out (by simp [medlarref02_In.l0])
    | succ k1 =>
      have H := HA.out
      clear HA
      simp only [medlarref02_In.l0] at H
      by_cases c3 : x9_1 < (l0.length : Int)
      · rw [if_pos c3] at H
        have c3b0 : decide (x9_1 < (l0.length : Int)) = true := decide_eq_true c3
        clear c3
        by_cases c4 : 0 ≤ x9_1
        · rw [if_pos c4] at H
          have c4b0 : decide (0 ≤ x9_1) = true := decide_eq_true c4
          clear c4
          by_cases c5 : x9_1 < (l0.length : Int)
          · rw [if_pos c5] at H
            have c5b0 : decide (x9_1 < (l0.length : Int)) = true := decide_eq_true c5
            clear c5
            by_cases c6 : (rd l0 x9_1) = a1
            · rw [if_pos c6] at H
              have c6b0 : ((rd l0 x9_1) == a1) = true := beq_iff_eq.mpr c6
              have c6b1 : ((rd l0 x9_1) != a1) = false := bne_eq_false_iff_eq.mpr c6
              clear c6
              obtain rfl := Option.some.inj H
              have p239 : 0 ≤ (x9_1 : Int) := of_decide_eq_true (by first | (with_reducible assumption) | assumption)
              have q239 : x9_1 < (l0.length : Int) := of_decide_eq_true (by first | (with_reducible assumption) | assumption)
              obtain ⟨ad239, e239, hx239_0⟩ := Kd.at_int HR0.out x9_1 p239 q239
              cases e239
              replace p239 := eq_true p239
              replace q239 := eq_true q239
              go_wp2
              go_ret
              exact ⟨by first | rfl | (simp; done) | (simp [*]; done), by repeat (first | exact Drawn0.refl _ | apply Drawn0.step)⟩
            · rw [if_neg c6] at H
              have c6b0 : ((rd l0 x9_1) == a1) = false := beq_eq_false_iff_ne.mpr c6
              have c6b1 : ((rd l0 x9_1) != a1) = true := bne_iff_ne.mpr c6
              have H' := Aside0.mk H
              clear H
              have p239 : 0 ≤ (x9_1 : Int) := of_decide_eq_true (by first | (with_reducible assumption) | assumption)
              have q239 : x9_1 < (l0.length : Int) := of_decide_eq_true (by first | (with_reducible assumption) | assumption)
              obtain ⟨ad239, e239, hx239_0⟩ := Kd.at_int HR0.out x9_1 p239 q239
              cases e239
              replace p239 := eq_true p239
              replace q239 := eq_true q239
              go_wp2
              go_roundg k1
              case measure => have := HK1.out; omega
              case rel => exact ⟨(wrap64 (x9_1 + 1)), (by first | rfl | (simp; done) | (simp [*]; done)), H', ⟨by have := HK1.out; omega⟩, by repeat (first | exact Drawn0.refl _ | apply Drawn0.step)⟩
          · rw [if_neg c5] at H
            exact absurd H (by simp)
        · rw [if_neg c4] at H
          exact absurd H (by simp)
      · rw [if_neg c3] at H
        have c3b0 : decide (x9_1 < (l0.length : Int)) = false := decide_eq_false c3
        clear c3
        obtain rfl := Option.some.inj H
        go_wp2
        go_ret
        exact ⟨by first | rfl | (simp; done) | (simp [*]; done), by repeat (first | exact Drawn0.refl _ | apply Drawn0.step)⟩
def node_Child.j0 : Nat → Int → Int → Int → Bool → Option (Int × Int)
  | 0, _, _, _, _ => none
  | k + 1, x0, x1, x2, x8 => if x8 = true then (some (0, 1)) else ((node_depth.f k x1).bind fun t241 => (if t241 = x0 then (some (0, 4)) else (some (Go.bits .or .u64 (IntKind.u64.wrap (x1 * 2)) (IntKind.u64.wrap (x2)), 0))))
def node_Child.f (k : Nat) (a0 : Int) (a1 : Int) (a2 : Int) : Option (Int × Int) := (node_Check.f k a0 a1).bind fun t240 => (if t240 = 0 then (node_Child.j0 k a0 a1 a2 ((Go.bits .andNot .i64 a2 1) != 0)) else (node_Child.j0 k a0 a1 a2 true))
set_option maxHeartbeats 8000000 in
set_option maxRecDepth 100000 in
theorem node_Child.calls (k : Nat) (a0 : Int) (a1 : Int) (a2 : Int) (r1 : Int) (r2 : Int) (w : World) (h : node_Child.f k a0 a1 a2 = some (r1, r2)) :
    Calls Try.prog 105 #[.int .i64 a0, .int .u64 a1, .int .i64 a2] w fun e w' => e = .returned (.tuple #[.int .u64 r1, .int .i64 r2]) ∧ Drawn0 w w' := by
  have H : ((node_Check.f k a0 a1).bind fun t240 => (if t240 = 0 then (node_Child.j0 k a0 a1 a2 ((Go.bits .andNot .i64 a2 1) != 0)) else (node_Child.j0 k a0 a1 a2 true))) = some (r1, r2) := h
  clear h
  have HC4 := Aside0.mk H
  clear H
  go_enter Try.func105, Try.ntmps105
  go_upto_region 1 with (fail)
  go_cut [8] (fun v8 wc => ∃ (kq : Nat) (x8_3 : Bool), v8 = .bool x8_3 ∧ Aside0 (node_Child.j0 kq a0 a1 a2 x8_3 = some (r1, r2)) ∧ Aside0 (kq ≤ k) ∧ Drawn0 w wc)
  case first =>
    have H := HC4.out
    clear HC4
    replace H := Option.bind_eq_some_iff.mp H
    obtain ⟨t240, A50, H⟩ := H
    replace H : (if t240 = 0 then (node_Child.j0 k a0 a1 a2 ((Go.bits .andNot .i64 a2 1) != 0)) else (node_Child.j0 k a0 a1 a2 true)) = some (r1, r2) := H
    have A5 := Aside0.mk A50
    clear A50
    by_cases c6 : t240 = 0
    · rw [if_pos c6] at H
      have c6b0 : (t240 == 0) = true := beq_iff_eq.mpr c6
      have c6b1 : (t240 != 0) = false := bne_eq_false_iff_eq.mpr c6
      clear c6
      (first | rw [c6b0] | (simp only [i64_w, i32_w]; rw [c6b0]) | skip)
      have H' := Aside0.mk H
      clear H
      go_wp2_with (first | ((with_reducible refine gate_callee (f := 33) rfl ?_); refine goesL_ (some 11) rfl rfl Try.func33 (by kernel_rfl) rfl #[.int .i64 a0, .int .u64 a1] rfl (by (try simp only [List.map_toArray, List.map_cons, List.map_nil]); first | done | rfl | (simp only [List.length_drop, List.length_take]; rfl)) ?_; (with_reducible refine (node_Check.calls k a0 a1 t240 _ A5.out).mono ?_); rintro e w' ⟨rfl, ⟨nd, rfl⟩⟩; refine ⟨_, rfl, ?_⟩))
      go_meet
      case rel => exact ⟨_, (((Go.bits .andNot .i64 a2 1) != 0)), (by first | rfl | (simp; done) | (simp [*]; done)), H', ⟨by first | omega | exact Nat.le_refl _⟩, by repeat (first | exact Drawn0.refl _ | apply Drawn0.step)⟩
    · rw [if_neg c6] at H
      have c6b0 : (t240 == 0) = false := beq_eq_false_iff_ne.mpr c6
      have c6b1 : (t240 != 0) = true := bne_iff_ne.mpr c6
      (first | rw [c6b0] | (simp only [i64_w, i32_w]; rw [c6b0]) | skip)
      have H' := Aside0.mk H
      clear H
      go_wp2_with (first | ((with_reducible refine gate_callee (f := 33) rfl ?_); refine goesL_ (some 11) rfl rfl Try.func33 (by kernel_rfl) rfl #[.int .i64 a0, .int .u64 a1] rfl (by (try simp only [List.map_toArray, List.map_cons, List.map_nil]); first | done | rfl | (simp only [List.length_drop, List.length_take]; rfl)) ?_; (with_reducible refine (node_Check.calls k a0 a1 t240 _ A5.out).mono ?_); rintro e w' ⟨rfl, ⟨nd, rfl⟩⟩; refine ⟨_, rfl, ?_⟩))
      go_meet
      case rel => exact ⟨_, (true), (by first | rfl | (simp; done) | (simp [*]; done)), H', ⟨by first | omega | exact Nat.le_refl _⟩, by repeat (first | exact Drawn0.refl _ | apply Drawn0.step)⟩
  case rest =>
    clear HC4
    try clear c1
    try clear p2
    try clear c3
    try clear c6
    try clear c6b0
    try clear c6b1
    obtain ⟨kq, x8_3, rfl, HA, HJ3, ⟨mc3, rfl⟩⟩ := hcut
    cases kq with
    | zero => exact absurd HA.out (by simp [node_Child.j0])
    | succ kj3 =>
      have H := HA.out
      clear HA
      simp only [node_Child.j0] at H
      by_cases c7 : x8_3 = true
      · subst c7
        have H1 : (some (0, 1)) = some (r1, r2) := by rw [if_pos rfl] at H; exact H
        clear H
        have H := H1
        clear H1
        simp only [Option.some.injEq, Prod.mk.injEq] at H
        obtain ⟨rfl, rfl⟩ := H
        go_wp2
        go_ret2
        exact ⟨by first | rfl | (simp; done) | (simp [*]; done), by repeat (first | exact Drawn0.refl _ | apply Drawn0.step)⟩
      · replace c7 := Bool.eq_false_iff.mpr c7
        subst c7
        have H1 : ((node_depth.f kj3 a1).bind fun t241 => (if t241 = a0 then (some (0, 4)) else (some (Go.bits .or .u64 (IntKind.u64.wrap (a1 * 2)) (IntKind.u64.wrap (a2)), 0)))) = some (r1, r2) := by rw [if_neg (show ¬ (false = true) by decide)] at H; exact H
        clear H
        have H := H1
        clear H1
        replace H := Option.bind_eq_some_iff.mp H
        obtain ⟨t241, A80, H⟩ := H
        replace H : (if t241 = a0 then (some (0, 4)) else (some (Go.bits .or .u64 (IntKind.u64.wrap (a1 * 2)) (IntKind.u64.wrap (a2)), 0))) = some (r1, r2) := H
        have A8 := Aside0.mk A80
        clear A80
        by_cases c9 : t241 = a0
        · rw [if_pos c9] at H
          have c9b0 : (t241 == a0) = true := beq_iff_eq.mpr c9
          have c9b1 : (t241 != a0) = false := bne_eq_false_iff_eq.mpr c9
          clear c9
          simp only [Option.some.injEq, Prod.mk.injEq] at H
          obtain ⟨rfl, rfl⟩ := H
          go_wp2_with (first | ((with_reducible refine gate_callee (f := 61) rfl ?_); refine goesL_ (some 20) rfl rfl Try.func61 (by kernel_rfl) rfl #[.int .u64 a1] rfl (by (try simp only [List.map_toArray, List.map_cons, List.map_nil]); first | done | rfl | (simp only [List.length_drop, List.length_take]; rfl)) ?_; (with_reducible refine (node_depth.calls kj3 a1 t241 _ A8.out).mono ?_); rintro e w' ⟨rfl, ⟨nd, rfl⟩⟩; refine ⟨_, rfl, ?_⟩))
          go_ret2
          exact ⟨by first | rfl | (simp; done) | (simp [*]; done), by repeat (first | exact Drawn0.refl _ | apply Drawn0.step)⟩
        · rw [if_neg c9] at H
          have c9b0 : (t241 == a0) = false := beq_eq_false_iff_ne.mpr c9
          have c9b1 : (t241 != a0) = true := bne_iff_ne.mpr c9
          simp only [Option.some.injEq, Prod.mk.injEq] at H
          obtain ⟨rfl, rfl⟩ := H
          go_wp2_with (first | ((with_reducible refine gate_callee (f := 61) rfl ?_); refine goesL_ (some 20) rfl rfl Try.func61 (by kernel_rfl) rfl #[.int .u64 a1] rfl (by (try simp only [List.map_toArray, List.map_cons, List.map_nil]); first | done | rfl | (simp only [List.length_drop, List.length_take]; rfl)) ?_; (with_reducible refine (node_depth.calls kj3 a1 t241 _ A8.out).mono ?_); rintro e w' ⟨rfl, ⟨nd, rfl⟩⟩; refine ⟨_, rfl, ?_⟩))
          go_ret2
          exact ⟨by first | rfl | (simp; done) | (simp [*]; done), by repeat (first | exact Drawn0.refl _ | apply Drawn0.step)⟩
set_option maxHeartbeats 8000000 in
set_option maxRecDepth 100000 in
theorem slices_Grow_nil.calls (n : Int) (w : World) (h0 : 0 ≤ n) (hl : n.toNat ≤ 17592186044416) :
    Calls Try.prog 133 #[.slice none 0 0, .int .i64 n] w fun e w' => ∃ v : Value, e = .returned v ∧ Kd.R (Kd.int .u64) 22 w' w.heap.size (fun _ => True) v (List.replicate 0 0) ∧ Below w.heap.size w w' := by
  have e1 : wrap64 (n - 0) = n := by unfold wrap64; omega
  have e2 : wrap64 n = n := by unfold wrap64; omega
  by_cases c : n = 0
  · subst c
    go_enter Try.func133, Try.ntmps133
    go_wp2
    go_ret
    exact ⟨_, rfl, Kd.R_nil _ _ _ _ _, Below.refl _ _⟩
  · have c1 : decide (n < 0) = false := decide_eq_false (by omega)
    have c2 : decide (0 < n) = true := decide_eq_true (by omega)
    go_enter Try.func133, Try.ntmps133
    go_wp2_with (first | (at_builtin; refine Kd.R_append_zeros (Kd.int .u64) (w0 := w) w.heap.size rfl (.tmp 20) (.tmp 21) 39 3 22 (.int .u64 0) 8 rfl Try.underlying39 Try.underlying3 info22 rfl (by decide) (by omega) (.slice none 0 0) [] 0 n (fun _ => True) rfl rfl rfl (fun _ _ => trivial) (Kd.R_nil _ _ _ _ _) h0 (Below.refl _ _) (Nat.le_refl _) (by simp; omega) ?_; intro v1 w1 ho hb hg hat; clear hg hat; obtain ⟨Ax, cx, ex⟩ := Kd.R_slice ho; subst ex; have HO := Aside0.mk ho; have HB := Aside0.mk hb; clear ho hb; have hlen : (([] : List Int) ++ List.replicate n.toNat 0).length = n.toNat := by simp))
    go_ret
    exact ⟨_, rfl, by have h := Kd.R_take HO.out (Nat.zero_le _); simpa using h, HB.out⟩
mutual
def slices_Concat_uint64_uint64.l0 : Nat → List (List Int) → Int → List (List Int) → Int → Int → Option (List Int)
  | 0, _, _, _, _, _ => none
  | k + 1, x0, x3, x9, x10, x11 => if x11 < x10 then (if 0 ≤ x11 then (if x11 < (x9.length : Int) then (if (wrap64 (x3 + ((rd_L4 x9 x11).length : Int))) < 0 then (none) else (slices_Concat_uint64_uint64.l0 k x0 (wrap64 (x3 + ((rd_L4 x9 x11).length : Int))) x9 x10 (wrap64 (x11 + 1)))) else (none)) else (none)) else (if 0 ≤ x3 then (if (x3 : Int).toNat ≤ 17592186044416 then (slices_Concat_uint64_uint64.l1 k (List.replicate 0 0) x0 (x0.length : Int) 0) else (none)) else (none))
def slices_Concat_uint64_uint64.l1 : Nat → List Int → List (List Int) → Int → Int → Option (List Int)
  | 0, _, _, _, _ => none
  | k + 1, x6, x25, x26, x27 => if x27 < x26 then (if 0 ≤ x27 then (if x27 < (x25.length : Int) then (if x6.length + (rd_L4 x25 x27).length < 17592186044416 then (slices_Concat_uint64_uint64.l1 k (x6 ++ (rd_L4 x25 x27)) x25 x26 (wrap64 (x27 + 1))) else (none)) else (none)) else (none)) else (some x6)
end
def slices_Concat_uint64_uint64.f (k : Nat) (l0 : List (List Int)) : Option (List Int) := slices_Concat_uint64_uint64.l0 k l0 0 l0 (l0.length : Int) 0
set_option maxHeartbeats 8000000 in
set_option maxRecDepth 100000 in
theorem slices_Concat_uint64_uint64.calls (k : Nat) (A0 : Option Addr) (c0 : Nat) (l0 : List (List Int)) (r : List Int) (w : World) (hr0 : Kd.C (Kd.slice 22 (Kd.int .u64)) w A0 l0.length l0) (hc0 : l0.length ≤ c0) (h : slices_Concat_uint64_uint64.f k l0 = some r) :
    Calls Try.prog 126 #[.slice A0 l0.length c0] w fun e w' => ∃ v0_ : Value, e = .returned (v0_) ∧ Kd.R (Kd.int .u64) 22 w' w.heap.size (fun _ => True) v0_ r ∧ Below w.heap.size w w' := by
  have HR0 := Aside0.mk hr0
  have HC0 := Aside0.mk hc0
  clear hr0 hc0
  have HB := Aside0.mk (Below.refl w.heap.size w)
  have H : (slices_Concat_uint64_uint64.l0 k l0 0 l0 (l0.length : Int) 0) = some r := h
  clear h
  have H' := Aside0.mk H
  clear H
  go_enter Try.func126, Try.ntmps126
  go_wp2
  go_loopg [3, 11] k (fun kq v3 v11 w' => ∃ (x3_1 : Int) (x11_1 : Int), v3 = .int .i64 x3_1 ∧ v11 = .int .i64 x11_1 ∧ Aside0 (slices_Concat_uint64_uint64.l0 kq l0 x3_1 l0 (l0.length : Int) x11_1 = some r) ∧ Aside0 (kq ≤ k) ∧ Aside0 (Below w.heap.size w w'))
  case atStart => exact ⟨(0), (0), (by first | rfl | (simp; done) | (simp [*]; done)), (by first | rfl | (simp; done) | (simp [*]; done)), H', ⟨Nat.le_refl _⟩, ⟨by repeat (first | (with_reducible first | exact HB.out | apply below_alloc | apply pw_below_drewN | apply below_drew1) | exact HB.out)⟩⟩
  case round =>
    clear H'
    try clear c1
    obtain ⟨x3_1, x11_1, rfl, rfl, HA, HK1, HB⟩ := hrel
    cases gk with
    | zero => exact absurd HA.out (by simp [slices_Concat_uint64_uint64.l0])
    | succ k1 =>
      have H := HA.out
      clear HA
      simp only [slices_Concat_uint64_uint64.l0] at H
      by_cases c2 : x11_1 < (l0.length : Int)
      · rw [if_pos c2] at H
        have c2b0 : decide (x11_1 < (l0.length : Int)) = true := decide_eq_true c2
        clear c2
        by_cases c3 : 0 ≤ x11_1
        · rw [if_pos c3] at H
          have c3b0 : decide (0 ≤ x11_1) = true := decide_eq_true c3
          clear c3
          by_cases c4 : x11_1 < (l0.length : Int)
          · rw [if_pos c4] at H
            have c4b0 : decide (x11_1 < (l0.length : Int)) = true := decide_eq_true c4
            clear c4
            by_cases c5 : (wrap64 (x3_1 + ((rd_L4 l0 x11_1).length : Int))) < 0
            · rw [if_pos c5] at H
              exact absurd H (by simp)
            · rw [if_neg c5] at H
              have c5b0 : decide ((wrap64 (x3_1 + ((rd_L4 l0 x11_1).length : Int))) < 0) = false := decide_eq_false c5
              clear c5
              have H' := Aside0.mk H
              clear H
              have p242 : 0 ≤ (x11_1 : Int) := of_decide_eq_true (by first | (with_reducible assumption) | assumption)
              have q242 : x11_1 < (l0.length : Int) := of_decide_eq_true (by first | (with_reducible assumption) | assumption)
              obtain ⟨ad242, A242_0, c242_0, e242, hx242_0, hl242_0, hi242_0⟩ := at_L4 HR0.out x11_1 p242 q242
              cases e242
              replace hx242_0 := (HB.out.cell (World.block_lt_of_cell? w _ hx242_0)).trans hx242_0
              have HR242_0 := Aside0.mk hi242_0
              have HC242_0 := Aside0.mk hl242_0
              clear hi242_0 hl242_0
              replace p242 := eq_true p242
              replace q242 := eq_true q242
              go_wp2
              go_roundg k1
              case measure => have := HK1.out; omega
              case rel => exact ⟨(wrap64 (x3_1 + ((rd_L4 l0 x11_1).length : Int))), (wrap64 (x11_1 + 1)), (by first | rfl | (simp; done) | (simp [*]; done)), (by first | rfl | (simp; done) | (simp [*]; done)), H', ⟨by have := HK1.out; omega⟩, ⟨by repeat (first | (with_reducible first | exact HB.out | apply below_alloc | apply pw_below_drewN | apply below_drew1) | exact HB.out)⟩⟩
          · rw [if_neg c4] at H
            exact absurd H (by simp)
        · rw [if_neg c3] at H
          exact absurd H (by simp)
      · rw [if_neg c2] at H
        have c2b0 : decide (x11_1 < (l0.length : Int)) = false := decide_eq_false c2
        clear c2
        by_cases c6 : 0 ≤ x3_1
        · rw [if_pos c6] at H
          have c6b0 := eq_true c6
          have c6b1 : decide (0 ≤ x3_1) = true := decide_eq_true c6
          clear c6
          by_cases c7 : (x3_1 : Int).toNat ≤ 17592186044416
          · rw [if_pos c7] at H
            have c7b0 := eq_true c7
            have c7b1 : decide ((x3_1 : Int).toNat ≤ 17592186044416) = true := decide_eq_true c7
            clear c7
            obtain ⟨y243, hy243⟩ : ∃ y_ : List Int, y_ = (List.replicate 0 0) := ⟨_, rfl⟩
            replace H : (slices_Concat_uint64_uint64.l1 k1 y243 l0 (l0.length : Int) 0) = some r := by first | (rw [hy243]; with_reducible exact H) | (have H2_ := (Option.bind_some _ _).symm.trans H; rw [hy243]; with_reducible exact H2_) | (have H2_ := (Option.bind_some _ _).symm.trans H; with_reducible exact H2_) | with_reducible exact H | (rw [hy243]; exact H) | exact H
            have Ny243 := Aside0.mk hy243
            clear hy243
            have H' := Aside0.mk H
            clear H
            go_wp2_with (first | ((with_reducible refine gate_callee (f := 133) rfl ?_); refine goesL_ (some 24) rfl rfl Try.func133 (by kernel_rfl) rfl #[.slice none 0 0, .int .i64 x3_1] rfl (by (try simp only [List.map_toArray, List.map_cons, List.map_nil]); first | done | rfl) ?_; (with_reducible refine (slices_Grow_nil.calls x3_1 _ (of_decide_eq_true (by first | (with_reducible assumption) | assumption)) (of_decide_eq_true (by first | (with_reducible assumption) | assumption))).mono ?_); rintro e w8 ⟨v244, rfl, ho9, hb⟩; refine ⟨_, rfl, ?_⟩; (first | rw [← Ny243.out] at ho9 | (simp only [Int.reduceToNat] at ho9; rw [← Ny243.out] at ho9)); have n0_ := Aside0.mk (Kd.R_lower ho9 (below_size (by repeat (first | (with_reducible first | exact HB.out | apply below_alloc | apply pw_below_drewN | apply below_drew1) | exact HB.out)))); have n1_ := Aside0.mk (below_step (by repeat (first | (with_reducible first | exact HB.out | apply below_alloc | apply pw_below_drewN | apply below_drew1) | exact HB.out)) hb); clear HB; have HO245 := n0_; have HB := n1_; clear n0_ n1_; clear hb ho9))
            go_loopg [6, 27] k1 (fun kq v6 v27 w' => ∃ (x6_2 : List Int) (x27_2 : Int), v27 = .int .i64 x27_2 ∧ Aside0 (slices_Concat_uint64_uint64.l1 kq x6_2 l0 (l0.length : Int) x27_2 = some r) ∧ Aside0 (kq ≤ k1) ∧ Aside0 (Kd.R (Kd.int .u64) 22 w' w.heap.size (fun _ => True) v6 x6_2) ∧ Aside0 (Below w.heap.size w w'))
            case atStart => exact ⟨(y243), (0), (by first | rfl | (simp; done) | (simp [*]; done)), H', ⟨Nat.le_refl _⟩, ⟨by (with_reducible repeat (first | apply Kd.R_alloc | apply Kd.R_drewN | apply Kd.R_drew)); exact HO245.out⟩, ⟨by repeat (first | (with_reducible first | exact HB.out | apply below_alloc | apply pw_below_drewN | apply below_drew1) | exact HB.out)⟩⟩
            case round =>
              clear H'
              try clear c1
              try clear c2
              try clear c2b0
              try clear p2
              try clear q2
              try clear hx2
              try clear c3
              try clear c3b0
              try clear c4
              try clear c4b0
              try clear c5
              try clear c5b0
              try clear c6
              try clear c6b0
              try clear c6b1
              try clear p6
              try clear c7
              try clear c7b0
              try clear c7b1
              try clear hx242_0
              try clear p242
              try clear q242
              obtain ⟨x6_2, x27_2, rfl, HA, HK2, HO_6, HB⟩ := hrel
              cases gk with
              | zero => exact absurd HA.out (by simp [slices_Concat_uint64_uint64.l1])
              | succ k2 =>
                have H := HA.out
                clear HA
                simp only [slices_Concat_uint64_uint64.l1] at H
                by_cases c10 : x27_2 < (l0.length : Int)
                · rw [if_pos c10] at H
                  have c10b0 : decide (x27_2 < (l0.length : Int)) = true := decide_eq_true c10
                  clear c10
                  by_cases c11 : 0 ≤ x27_2
                  · rw [if_pos c11] at H
                    have c11b0 : decide (0 ≤ x27_2) = true := decide_eq_true c11
                    clear c11
                    by_cases c12 : x27_2 < (l0.length : Int)
                    · rw [if_pos c12] at H
                      have c12b0 : decide (x27_2 < (l0.length : Int)) = true := decide_eq_true c12
                      clear c12
                      by_cases c13 : x6_2.length + (rd_L4 l0 x27_2).length < 17592186044416
                      · rw [if_pos c13] at H
                        have LMc13 := Aside0.mk c13
                        clear c13
                        obtain ⟨y247, hy247⟩ : ∃ y_ : List Int, y_ = (x6_2 ++ (rd_L4 l0 x27_2)) := ⟨_, rfl⟩
                        replace H : (slices_Concat_uint64_uint64.l1 k2 y247 l0 (l0.length : Int) (wrap64 (x27_2 + 1))) = some r := by first | (rw [hy247]; with_reducible exact H) | (have H2_ := (Option.bind_some _ _).symm.trans H; rw [hy247]; with_reducible exact H2_) | (have H2_ := (Option.bind_some _ _).symm.trans H; with_reducible exact H2_) | with_reducible exact H | (rw [hy247]; exact H) | exact H
                        have Ny247 := Aside0.mk hy247
                        clear hy247
                        have H' := Aside0.mk H
                        clear H
                        have p246 : 0 ≤ (x27_2 : Int) := of_decide_eq_true (by first | (with_reducible assumption) | assumption)
                        have q246 : x27_2 < (l0.length : Int) := of_decide_eq_true (by first | (with_reducible assumption) | assumption)
                        obtain ⟨ad246, A246_0, c246_0, e246, hx246_0, hl246_0, hi246_0⟩ := at_L4 HR0.out x27_2 p246 q246
                        cases e246
                        replace hx246_0 := (HB.out.cell (World.block_lt_of_cell? w _ hx246_0)).trans hx246_0
                        have HR246_0 := Aside0.mk hi246_0
                        have HC246_0 := Aside0.mk hl246_0
                        clear hi246_0 hl246_0
                        replace p246 := eq_true p246
                        replace q246 := eq_true q246
                        go_wp2_with (first | ((with_reducible refine gate_builtin (b := .append) (xs := #[.tmp 31, .tmp 32]) rfl ?_); at_builtin; refine Kd.R_append_rows (Kd.int .u64) (w0 := w) w.heap.size rfl (.tmp 31) (.tmp 32) 39 22 (.int .u64 0) 8 rfl Try.underlying39 info22 rfl (by decide) (by omega) u6 x6_2 (rd_L4 l0 x27_2) _ _ _ (fun _ => True) (fun _ => False) rfl rfl ?aO ?aR (fun _ _ h => h) (fun _ h => h.elim) ?aF ?aB ?aS ?aL ?_; (case aR => repeat (first | exact (Kd.C_below HR246_0.out HB.out) | (with_reducible refine Kd.C_alloc ?_ _) | (with_reducible refine Kd.C_drewN ?_ _) | (with_reducible refine Kd.C_drew ?_))); (case aB => exact (by repeat (first | (with_reducible first | exact HB.out | apply below_alloc | apply pw_below_drewN | apply below_drew1) | exact HB.out))); (case aF => exact (fun _ _ => trivial)); (case aO => exact (by (with_reducible repeat (first | apply Kd.R_alloc | apply Kd.R_drewN | apply Kd.R_drew)); exact HO_6.out)); (case aS => exact (below_size (by repeat (first | (with_reducible first | exact HB.out | apply below_alloc | apply pw_below_drewN | apply below_drew1) | exact HB.out)))); (case aL => have := LMc13.out; omega); intro v248 w14 ho hb hg hat; rw [← Ny247.out] at ho; have n0_ := Aside0.mk (hb); have n1_ := Aside0.mk (ho); clear HB; clear HO_6; have HB := n0_; have HO249 := n1_; clear n0_ n1_; clear ho hb hg hat))
                        go_roundg k2
                        case measure => have := HK1.out; have := HK2.out; omega
                        case rel => exact ⟨(y247), (wrap64 (x27_2 + 1)), (by first | rfl | (simp; done) | (simp [*]; done)), H', ⟨by have := HK1.out; have := HK2.out; omega⟩, ⟨by (with_reducible repeat (first | apply Kd.R_alloc | apply Kd.R_drewN | apply Kd.R_drew)); exact HO249.out⟩, ⟨by repeat (first | (with_reducible first | exact HB.out | apply below_alloc | apply pw_below_drewN | apply below_drew1) | exact HB.out)⟩⟩
                      · rw [if_neg c13] at H
                        exact absurd H (by simp)
                    · rw [if_neg c12] at H
                      exact absurd H (by simp)
                  · rw [if_neg c11] at H
                    exact absurd H (by simp)
                · rw [if_neg c10] at H
                  have c10b0 : decide (x27_2 < (l0.length : Int)) = false := decide_eq_false c10
                  clear c10
                  obtain rfl := Option.some.inj H
                  go_wp2
                  go_ret
                  exact ⟨_, by first | rfl | (simp [errW_none, errW_some] <;> rfl) | (simp [*, errW_none, errW_some] <;> rfl), by (with_reducible repeat (first | apply Kd.R_alloc | apply Kd.R_drewN | apply Kd.R_drew)); exact HO_6.out, by repeat (first | (with_reducible first | exact HB.out | apply below_alloc | apply pw_below_drewN | apply below_drew1) | exact HB.out)⟩
          · rw [if_neg c7] at H
            exact absurd H (by simp)
        · rw [if_neg c6] at H
          exact absurd H (by simp)
open Go.Shelf Go.Lib in
shelf_lay_g SlLaysE.n43 Slgn 43 at Try 127 as Try.layCompact
def slices_Compact_uint64_uint64.f (_k : Nat) (l0 : List Int) : Option (List Int) := some (Go.Lib.compactUpTo l0.toArray l0.length)
theorem holds_of_R {e base g cap : Nat} {ok : Nat → Prop} {w : World} {xs : List Int} (h : Kd.R (Kd.int .u64) e w base ok (.slice (some ⟨g, 0, none⟩) xs.length cap) xs) : Go.Sort.Holds (Value.int .u64) w g 0 xs.toArray := by
  intro j hj
  have hj' : j < xs.length := by simpa using hj
  have h2 := Kd.R_cell (enc := Value.int .u64) (h1 := fun _ => rfl) (0 : Int) h (j : Int) (by omega) (by omega)
  have e1 : xs.toArray[j]! = rdOf (0 : Int) xs (j : Int) := by
    rw [getElem!_pos _ j hj]
    simp [rdOf, hj', List.getElem?_eq_getElem]
  rw [Nat.zero_add, e1]
  simpa using h2
theorem R_of_put {e base g cap : Nat} {ok : Nat → Prop} {w : World} {xs ys : List Int} (h : Kd.R (Kd.int .u64) e w base ok (.slice (some ⟨g, 0, none⟩) xs.length cap) xs) (hy : ys.length = xs.length) (q : Nat) : Kd.R (Kd.int .u64) e (Go.Sort.putRow (Value.int .u64) (Go.Sort.ahead w q) g 0 ys.toArray) base ok (.slice (some ⟨g, 0, none⟩) ys.length cap) ys := by
  obtain ⟨h0, inner, ho, hr⟩ := h
  obtain ⟨h1, h2⟩ := ho
  rcases h2 with ⟨h2, _⟩ | ⟨g', cap', cur, he, hb, hh, hn, hc, hs, ht⟩
  · cases h2
  · simp only [Value.slice.injEq, Option.some.injEq, Addr.mk.injEq] at he
    obtain ⟨⟨rfl, _⟩, _, rfl⟩ := he
    have hcell : (Go.Sort.putRow (Value.int .u64) (Go.Sort.ahead w q) g 0 ys.toArray).heap[g]? = some (.cells (Go.Sort.putCells (Value.int .u64) 0 ys.toArray cur) e (0, 0)) := by
      simp [Go.Sort.putRow, Go.Sort.mapBlock, Go.Sort.ahead, Array.getElem?_modify, hh, Go.Sort.onCells]
    have htk : (Go.Sort.putCells (Value.int .u64) 0 ys.toArray cur).toList.take ys.length = encs (Value.int .u64) ys := by
      apply List.ext_getElem
      · simp [Go.Sort.putCells, encs]; simp only [Kd.int, Kd.scalar] at hs; omega
      · intro i hi1 hi2
        have hi : i < ys.length := by simp [encs] at hi2; exact hi2
        simp [Go.Sort.putCells, encs, hi]
    refine Kd.R_of_own (enc := Value.int .u64) (h1 := fun _ => rfl) ⟨by simp [encs], .inr ⟨g, cap, _, rfl, hb, hcell, by omega, hc, ?_, ?_⟩⟩ (fun k hk => h0 k (by simpa [Value.ownBlock] using hk))
    · simp only [Kd.int, Kd.scalar] at hs
      simp [Go.Sort.putCells, hs]
    · simpa using htk
theorem grown_put {w : World} {q g : Nat} (d : Array Int) : w.grownBy (Go.Sort.putRow (Value.int .u64) (Go.Sort.ahead w q) g 0 d) (some g) := by
  refine ⟨rfl, rfl, rfl, by simp, fun k hk hne => ?_⟩
  have : g ≠ k := fun e => hne (by rw [e])
  simp [Go.Sort.putRow, Go.Sort.mapBlock, Go.Sort.ahead, Array.getElem?_modify, this]
theorem compactUpTo_length (d : Array Int) (m : Nat) : (Go.Lib.compactUpTo d m).length ≤ m := by
  unfold Go.Lib.compactUpTo
  rw [List.length_map]
  exact Nat.le_trans (List.length_filter_le _ _) (by simp)
set_option maxHeartbeats 8000000 in
set_option maxRecDepth 100000 in
theorem slices_Compact_uint64_uint64.calls (k : Nat) (P0_ : Nat → Prop) (u9000_ : Value) (l0 : List Int) (r : List Int) (w0 w : World) (hB : Below w0.heap.size w0 w) (ho0 : Kd.R (Kd.int .u64) 22 w w0.heap.size P0_ u9000_ l0) (h : slices_Compact_uint64_uint64.f k l0 = some r) :
    Calls Try.prog 127 #[u9000_] w fun e w' => ∃ v0_ : Value, e = .returned (v0_) ∧ Kd.R (Kd.int .u64) 22 w' w0.heap.size (fun k_ => (P0_ k_ ∨ w.heap.size ≤ k_)) v0_ r ∧ Below w0.heap.size w0 w' ∧ Kept w w' (fun k_ => P0_ k_) := by
  obtain rfl : Go.Lib.compactUpTo l0.toArray l0.length = r := Option.some.inj h
  have hown := ho0
  obtain ⟨h0, inner, ⟨h1, h2⟩, hr⟩ := hown
  rcases h2 with ⟨rfl, h2⟩ | ⟨g, cap, cur, rfl, hb, hh, hn, hc, hs, ht⟩
  · obtain rfl : l0 = [] := List.length_eq_zero_iff.1 h2
    clear hr h0 h1 h
    go_enter Try.func127, Try.ntmps127
    go_wp2
    go_ret
    exact ⟨_, rfl, Kd.R_nil _ _ _ _ _, hB, Kept.refl _ _⟩
  · have hmax : cap ≤ 9223372036854775807 := by simp only [maxLen] at hc; omega
    have hc2 := Go.Proofs.AnyE.slices_Compact (α := Int) Try.layCompact (Value.int .u64) (fun _ => rfl) (EqlAt.intD _ _ .u64) (NeqAt.intD _ _ .u64) (0 : Int) (fun _ => rfl) g 0 cap l0.toArray w (holds_of_R ho0) (by simp; omega) (by simpa using hn)
    have hsz : l0.toArray.size = l0.length := by simp
    rw [hsz] at hc2
    refine Calls.mono (show Calls Try.prog 127 #[.slice (some ⟨g, 0, none⟩) l0.length cap] w _ from hc2) ?_
    rintro e w' ⟨rfl, q, rfl⟩
    have hle := compactUpTo_length l0.toArray l0.length
    have hR := R_of_put (ys := Go.Lib.compactUpTo l0.toArray l0.length ++ List.replicate (l0.length - (Go.Lib.compactUpTo l0.toArray l0.length).length) 0) ho0 (by simp; omega) q
    have hT := Kd.R_take (m := (Go.Lib.compactUpTo l0.toArray l0.length).length) hR (by simp)
    rw [List.take_left'] at hT
    · have hg := grown_put (w := w) (q := q) (g := g) (Go.Lib.compactUpTo l0.toArray l0.length ++ List.replicate (l0.length - (Go.Lib.compactUpTo l0.toArray l0.length).length) (0 : Int)).toArray
      exact ⟨_, rfl, Kd.R_mono hT (fun k_ hk => .inl hk), hB.grown hg hB.size (fun j hj => by obtain rfl := Option.some.inj hj; exact hb), Kept.of_grown hg (Kept.refl _ _) (fun k_ hk => by obtain rfl := Option.some.inj hk; exact .inl (h0 _ (by simp [Value.ownBlock])))⟩
    · rfl
theorem concat_two (x y : List Int) (h : x.length + y.length < 17592186044416) : slices_Concat_uint64_uint64.f 7 [x, y] = some (x ++ y) := by
  have w1 : wrap64 1 = 1 := by unfold wrap64; omega
  have w2 : wrap64 2 = 2 := by unfold wrap64; omega
  have w3 : wrap64 (x.length : Int) = (x.length : Int) := by unfold wrap64; omega
  have w4 : wrap64 ((x.length : Int) + (y.length : Int)) = (x.length : Int) + (y.length : Int) := by unfold wrap64; omega
  have r0 : rd_L4 [x, y] 0 = x := rfl
  have r1 : rd_L4 [x, y] 1 = y := rfl
  unfold slices_Concat_uint64_uint64.f
  simp only [slices_Concat_uint64_uint64.l0, slices_Concat_uint64_uint64.l1, List.length_cons, List.length_nil]
  simp only [show (((0 + 1 + 1 : Nat)) : Int) = 2 from rfl, r0, r1, Int.zero_add, w1, w2, w3, w4, show (1 : Int) + 1 = 2 from rfl, show (0 : Int) + 1 = 1 from rfl]
  have a1 : ¬ ((x.length : Int) < 0) := by omega
  have a2 : ¬ ((x.length : Int) + (y.length : Int) < 0) := by omega
  have a3 : (0 : Int) ≤ (x.length : Int) + (y.length : Int) := by omega
  have a4 : ((x.length : Int) + (y.length : Int)).toNat ≤ 17592186044416 := by omega
  have a5 : x.length < 17592186044416 := by omega
  simp [a1, a2, a3, a4, a5, h]
mutual
def steiner_tree.l0 : Nat → Int → List Int → List Int → Int → Int → Option (List Int × Int)
  | 0, _, _, _, _, _ => none
  | k + 1, x0, x7, x23, x24, x25 => if x25 < x24 then (if 0 ≤ x25 then (if x25 < (x23.length : Int) then ((node_Leaf.f x0 (rd x23 x25)).bind fun bt272 => (if bt272.2 = 0 then (if x25 < (x7.length : Int) then (steiner_tree.l0 k x0 (x7.set (x25 : Int).toNat bt272.1) x23 x24 (wrap64 (x25 + 1))) else (none)) else (some (([] : List Int), bt272.2)))) else (none)) else (none)) else (steiner_tree.l1 k x7 ([] : List Int) (wrap64 (x0 + 1)) 0)
def steiner_tree.l1 : Nat → List Int → List Int → Int → Int → Option (List Int × Int)
  | 0, _, _, _, _ => none
  | k + 1, x7, x12, x45, x46 => if x46 < x45 then (if ([] : List Int).length + x7.length < 17592186044416 then ((some (([] : List Int) ++ x7 : List Int)).bind fun y275 => (if y275.length + x12.length < 17592186044416 then (steiner_tree.l2 k x7 (y275 ++ x12) x45 x46 (x7.length : Int) 0) else (none))) else (none)) else (some (x12, 0))
def steiner_tree.l2 : Nat → List Int → List Int → Int → Int → Int → Int → Option (List Int × Int)
  | 0, _, _, _, _, _, _ => none
  | k + 1, x7, x12, x45, x46, x53, x54 => if x54 < x53 then (if 0 ≤ x54 then (if x54 < (x7.length : Int) then (steiner_tree.l2 k (x7.set (x54 : Int).toNat ((rd x7 x54) / 2)) x12 x45 x46 x53 (wrap64 (x54 + 1))) else (none)) else (none)) else ((slices_Compact_uint64_uint64.f k x7).bind fun t283 => (steiner_tree.l1 k t283 x12 x45 (wrap64 (x46 + 1))))
end
def steiner_tree.f (k : Nat) (a0 : Int) (l1 : List Int) : Option (List Int × Int) := (leaf_Check.f k a0 l1).bind fun t267 => (if t267 = 0 then (if 0 ≤ (l1.length : Int) then (if ((l1.length : Int) : Int).toNat ≤ 35184372088832 then (steiner_tree.l0 k a0 (List.replicate ((l1.length : Int) : Int).toNat 0) l1 (l1.length : Int) 0) else (none)) else (none)) else (some (([] : List Int), t267)))
set_option maxHeartbeats 8000000 in
set_option maxRecDepth 100000 in
theorem steiner_tree.calls (k : Nat) (a0 : Int) (A1 : Option Addr) (c1 : Nat) (l1 : List Int) (r1 : List Int) (r2 : Int) (w : World) (hr1 : Kd.C (Kd.int .u64) w A1 l1.length l1) (hc1 : l1.length ≤ c1) (h : steiner_tree.f k a0 l1 = some (r1, r2)) :
    Calls Try.prog 114 #[.int .i64 a0, .slice A1 l1.length c1] w fun e w' => ∃ v0_ : Value, e = .returned (.tuple #[v0_, .int .i64 r2]) ∧ Kd.R (Kd.int .u64) 22 w' w.heap.size (fun _ => True) v0_ r1 ∧ Below w.heap.size w w' := by
  have HR1 := Aside0.mk hr1
  have HC1 := Aside0.mk hc1
  clear hr1 hc1
  have HB := Aside0.mk (Below.refl w.heap.size w)
  have H : ((leaf_Check.f k a0 l1).bind fun t267 => (if t267 = 0 then (if 0 ≤ (l1.length : Int) then (if ((l1.length : Int) : Int).toNat ≤ 35184372088832 then (steiner_tree.l0 k a0 (List.replicate ((l1.length : Int) : Int).toNat 0) l1 (l1.length : Int) 0) else (none)) else (none)) else (some (([] : List Int), t267)))) = some (r1, r2) := h
  clear h
  replace H := Option.bind_eq_some_iff.mp H
  obtain ⟨t267, A30, H⟩ := H
  replace H : (if t267 = 0 then (if 0 ≤ (l1.length : Int) then (if ((l1.length : Int) : Int).toNat ≤ 35184372088832 then (steiner_tree.l0 k a0 (List.replicate ((l1.length : Int) : Int).toNat 0) l1 (l1.length : Int) 0) else (none)) else (none)) else (some (([] : List Int), t267))) = some (r1, r2) := H
  have A3 := Aside0.mk A30
  clear A30
  by_cases c4 : t267 = 0
  · rw [if_pos c4] at H
    have c4b0 : (t267 == 0) = true := beq_iff_eq.mpr c4
    have c4b1 : (t267 != 0) = false := bne_eq_false_iff_eq.mpr c4
    clear c4
    by_cases c5 : 0 ≤ (l1.length : Int)
    · rw [if_pos c5] at H
      have c5b0 := eq_true c5
      have c5b1 : decide (0 ≤ (l1.length : Int)) = true := decide_eq_true c5
      clear c5
      by_cases c6 : ((l1.length : Int) : Int).toNat ≤ 35184372088832
      · rw [if_pos c6] at H
        have c6b0 := eq_true c6
        have c6b1 : decide (((l1.length : Int) : Int).toNat ≤ 35184372088832) = true := decide_eq_true c6
        clear c6
        obtain ⟨y268, hy268⟩ : ∃ y_ : List Int, y_ = (List.replicate ((l1.length : Int) : Int).toNat 0) := ⟨_, rfl⟩
        replace H : (steiner_tree.l0 k a0 y268 l1 (l1.length : Int) 0) = some (r1, r2) := by first | (rw [hy268]; with_reducible exact H) | (have H2_ := (Option.bind_some _ _).symm.trans H; rw [hy268]; with_reducible exact H2_) | (have H2_ := (Option.bind_some _ _).symm.trans H; with_reducible exact H2_) | with_reducible exact H | (rw [hy268]; exact H) | exact H
        have Ny268 := Aside0.mk hy268
        clear hy268
        have H' := Aside0.mk H
        clear H
        go_enter Try.func114, Try.ntmps114
        go_wp2_with (first | ((with_reducible refine gate_callee (f := 27) rfl ?_); refine goesL_ (some 16) rfl rfl Try.func27 (by kernel_rfl) rfl #[.int .i64 a0, .slice A1 l1.length c1] rfl (by (try simp only [List.map_toArray, List.map_cons, List.map_nil]); first | done | rfl | (simp only [List.length_drop, List.length_take]; rfl)) ?_; (with_reducible refine (leaf_Check.calls k a0 _ _ l1 t267 _ ?side1 ?side2 A3.out).mono ?_); (case side1 => repeat (first | exact HR1.out | (with_reducible refine Kd.C_alloc ?_ _) | (with_reducible refine Kd.C_drewN ?_ _) | (with_reducible refine Kd.C_drew ?_))); (case side2 => exact HC1.out); rintro e w' ⟨rfl, ⟨nd, rfl⟩⟩; refine ⟨_, rfl, ?_⟩) | ((with_reducible refine gate_dst (N := 22) rfl ?_); refine Kd.R_make (Kd.int .u64) _ 22 rfl (N := 22) rfl 39 _ _ rfl (l1.length : Int) rfl rfl Try.underlying39 (.int .u64 0) 8 info22 rfl (by decide) (by omega) 0 (ok := fun _ => True) (okp := fun _ => True) rfl (fun _ hk => hk) trivial (of_decide_eq_true (by first | (with_reducible assumption) | assumption)) (Nat.le_trans (Nat.mul_le_mul_right _ (of_decide_eq_true (by first | (with_reducible assumption) | assumption) : (l1.length : Int).toNat ≤ 35184372088832)) (by omega)) (Below.refl _ _) (Nat.le_refl _) ?_; intro v269 w7 ho8 hb hg_ hnew_; clear hg_ hnew_; (first | rw [← Ny268.out] at ho8 | (simp only [Int.reduceToNat] at ho8; rw [← Ny268.out] at ho8)); have n0_ := Aside0.mk (Kd.R_lower ho8 (below_size (by repeat (first | (with_reducible first | exact HB.out | apply below_alloc | apply pw_below_drewN | apply below_drew1) | exact HB.out)))); have n1_ := Aside0.mk (below_step (by repeat (first | (with_reducible first | exact HB.out | apply below_alloc | apply pw_below_drewN | apply below_drew1) | exact HB.out)) hb); clear HB; have HO270 := n0_; have HB := n1_; clear n0_ n1_; clear hb ho8))
        go_loopg [25] k (fun kq v25 w' => ∃ (x7_1 : List Int) (x25_1 : Int), v25 = .int .i64 x25_1 ∧ Aside0 (steiner_tree.l0 kq a0 x7_1 l1 (l1.length : Int) x25_1 = some (r1, r2)) ∧ Aside0 (kq ≤ k) ∧ Aside0 (Kd.R (Kd.int .u64) 22 w' w.heap.size (fun _ => True) v269 x7_1) ∧ Aside0 (Below w.heap.size w w'))
        case atStart => exact ⟨(y268), (0), (by first | rfl | (simp; done) | (simp [*]; done)), H', ⟨Nat.le_refl _⟩, ⟨by (with_reducible repeat (first | apply Kd.R_alloc | apply Kd.R_drewN | apply Kd.R_drew)); exact HO270.out⟩, ⟨by repeat (first | (with_reducible first | exact HB.out | apply below_alloc | apply pw_below_drewN | apply below_drew1) | exact HB.out)⟩⟩
        case round =>
          clear H'
          try clear c1
          try clear c2
          try clear p2
          try clear c4
          try clear c4b0
          try clear c4b1
          try clear c5
          try clear c5b0
          try clear c5b1
          try clear c6
          try clear c6b0
          try clear c6b1
          obtain ⟨x7_1, x25_1, rfl, HA, HK1, HO_7, HB⟩ := hrel
          cases gk with
          | zero => exact absurd HA.out (by simp [steiner_tree.l0])
          | succ k1 =>
            have H := HA.out
            clear HA
            simp only [steiner_tree.l0] at H
            by_cases c9 : x25_1 < (l1.length : Int)
            · rw [if_pos c9] at H
              have c9b0 : decide (x25_1 < (l1.length : Int)) = true := decide_eq_true c9
              clear c9
              by_cases c10 : 0 ≤ x25_1
              · rw [if_pos c10] at H
                have c10b0 : decide (0 ≤ x25_1) = true := decide_eq_true c10
                clear c10
                by_cases c11 : x25_1 < (l1.length : Int)
                · rw [if_pos c11] at H
                  have c11b0 : decide (x25_1 < (l1.length : Int)) = true := decide_eq_true c11
                  clear c11
                  replace H := Option.bind_eq_some_iff.mp H
                  obtain ⟨⟨t272, t273⟩, A120, H⟩ := H
                  replace H : (if t273 = 0 then (if x25_1 < (x7_1.length : Int) then (steiner_tree.l0 k1 a0 (x7_1.set (x25_1 : Int).toNat t272) l1 (l1.length : Int) (wrap64 (x25_1 + 1))) else (none)) else (some (([] : List Int), t273))) = some (r1, r2) := H
                  have A12 := Aside0.mk A120
                  clear A120
                  by_cases c13 : t273 = 0
                  · rw [if_pos c13] at H
                    have c13b0 : (t273 == 0) = true := beq_iff_eq.mpr c13
                    have c13b1 : (t273 != 0) = false := bne_eq_false_iff_eq.mpr c13
                    clear c13
                    by_cases c14 : x25_1 < (x7_1.length : Int)
                    · rw [if_pos c14] at H
                      have c14b0 : decide (x25_1 < (x7_1.length : Int)) = true := decide_eq_true c14
                      clear c14
                      obtain ⟨y274, hy274⟩ : ∃ y_ : List Int, y_ = (x7_1.set (x25_1 : Int).toNat t272) := ⟨_, rfl⟩
                      replace H : (steiner_tree.l0 k1 a0 y274 l1 (l1.length : Int) (wrap64 (x25_1 + 1))) = some (r1, r2) := by first | (rw [hy274]; with_reducible exact H) | (have H2_ := (Option.bind_some _ _).symm.trans H; rw [hy274]; with_reducible exact H2_) | (have H2_ := (Option.bind_some _ _).symm.trans H; with_reducible exact H2_) | with_reducible exact H | (rw [hy274]; exact H) | exact H
                      have Ny274 := Aside0.mk hy274
                      clear hy274
                      have H' := Aside0.mk H
                      clear H
                      have p271 : 0 ≤ (x25_1 : Int) := of_decide_eq_true (by first | (with_reducible assumption) | assumption)
                      have q271 : x25_1 < (l1.length : Int) := of_decide_eq_true (by first | (with_reducible assumption) | assumption)
                      obtain ⟨ad271, e271, hx271_0⟩ := Kd.at_int HR1.out x25_1 p271 q271
                      cases e271
                      replace hx271_0 := (HB.out.cell (World.block_lt_of_cell? w _ hx271_0)).trans hx271_0
                      replace p271 := eq_true p271
                      replace q271 := eq_true q271
                      go_wp2_with (first | ((with_reducible refine gate_callee (f := 64) rfl ?_); refine goesL_ (some 33) rfl rfl Try.func64 (by kernel_rfl) rfl #[.int .i64 a0, .int .u64 (rd l1 x25_1)] rfl (by (try simp only [List.map_toArray, List.map_cons, List.map_nil]); first | done | rfl | (simp only [List.length_drop, List.length_take]; rfl)) ?_; (with_reducible refine (node_Leaf.calls a0 (rd l1 x25_1) t272 t273 _ A12.out).mono ?_); rintro e w' ⟨rfl, ⟨nd, rfl⟩⟩; refine ⟨_, rfl, ?_⟩; (try (rw [drewN_self wr]; generalize hq_ : World.drewN wr _ = wr; have n0_ : Aside0 (Kd.R (Kd.int .u64) 22 wr w.heap.size (fun _ => True) v269 x7_1) := ⟨by rw [← hq_]; exact (by (with_reducible repeat (first | apply Kd.R_alloc | apply Kd.R_drewN | apply Kd.R_drew)); exact HO_7.out)⟩; have n1_ : Aside0 (Below w.heap.size w wr) := ⟨by rw [← hq_]; exact (by repeat (first | (with_reducible first | exact HB.out | apply below_alloc | apply pw_below_drewN | apply below_drew1) | exact HB.out))⟩; clear HO_7 HB hq_; have HO_7 := n0_; have HB := n1_; clear n0_ n1_)); have p15 : 0 ≤ (x25_1 : Int) := of_decide_eq_true (by first | (with_reducible assumption) | assumption); have q15 : (x25_1 : Int) < ((x7_1.length : Int) : Int) := of_decide_eq_true (by first | (with_reducible assumption) | assumption); obtain ⟨go15, co15, eo15, gb15, gl15, cl15, HG15⟩ := Kd.R_form HO_7.out (by omega); (first | cases eo15 | (injection eo15 with ea_ en_ ec_; (first | subst ea_ | (injection ea_ with ea_; subst ea_)); subst ec_; clear en_)); have GB15 := Aside0.mk gb15; have GG15 := Aside0.mk HG15; clear gb15 gl15 HG15; obtain ⟨hx15_0, hf15_0⟩ := Kd.R_celln 0 HO_7.out (x25_1 : Int) p15 q15; replace p15 := eq_true p15; replace q15 := eq_true q15; obtain ⟨hy16_, hz16_⟩ := Kd.R_celln 0 HO_7.out (x25_1 : Int) (of_decide_eq_true (by first | (with_reducible assumption) | assumption)) (of_decide_eq_true (by first | (with_reducible assumption) | assumption)); have HP16 := Kd.R_putg HO_7.out (x25_1 : Int) t272) | ((with_reducible refine gate_store (t := 22) (p := 42) rfl ?_); refine store_event (t := 22) (p := 42) (v := ?vo_w17) (w1 := (wr.setCell ⟨go15, (x25_1 : Int).toNat, none⟩ (.int .u64 t272))) ?hg ?ho ?hn ?hr ?_; (case ho => rfl); (case hg => rfl); (case hn => rfl); (case hr => first | (go_simp; done) | (go_simp; rfl)); intro w17 hw; have hg : wr.grownBy w17 (some go15) := (by rw [hw]; exact HP16.2); have hp_ : Kd.R (Kd.int .u64) 22 w17 w.heap.size (fun _ => True) (.slice (some ⟨go15, 0, none⟩) x7_1.length co15) y274 := (by rw [hw, Ny274.out]; exact HP16.1); clear HP16; have n0_ := Aside0.mk (hp_); have n1_ := Aside0.mk ((by rw [hw]; exact below_set (HB.out) GB15.out : Below w.heap.size w w17)); clear HO_7; clear HB; have HO_7 := n0_; have HB := n1_; clear n0_ n1_; clear hg hw hp_))
                      go_roundg k1
                      case measure => have := HK1.out; omega
                      case rel => exact ⟨(y274), (wrap64 (x25_1 + 1)), (by first | rfl | (simp; done) | (simp [*]; done)), H', ⟨by have := HK1.out; omega⟩, ⟨by (with_reducible repeat (first | apply Kd.R_alloc | apply Kd.R_drewN | apply Kd.R_drew)); exact HO_7.out⟩, ⟨by repeat (first | (with_reducible first | exact HB.out | apply below_alloc | apply pw_below_drewN | apply below_drew1) | exact HB.out)⟩⟩
                    · rw [if_neg c14] at H
                      exact absurd H (by simp)
                  · rw [if_neg c13] at H
                    have c13b0 : (t273 == 0) = false := beq_eq_false_iff_ne.mpr c13
                    have c13b1 : (t273 != 0) = true := bne_iff_ne.mpr c13
                    simp only [Option.some.injEq, Prod.mk.injEq] at H
                    obtain ⟨rfl, rfl⟩ := H
                    have p271 : 0 ≤ (x25_1 : Int) := of_decide_eq_true (by first | (with_reducible assumption) | assumption)
                    have q271 : x25_1 < (l1.length : Int) := of_decide_eq_true (by first | (with_reducible assumption) | assumption)
                    obtain ⟨ad271, e271, hx271_0⟩ := Kd.at_int HR1.out x25_1 p271 q271
                    cases e271
                    replace hx271_0 := (HB.out.cell (World.block_lt_of_cell? w _ hx271_0)).trans hx271_0
                    replace p271 := eq_true p271
                    replace q271 := eq_true q271
                    go_wp2_with (first | ((with_reducible refine gate_callee (f := 64) rfl ?_); refine goesL_ (some 33) rfl rfl Try.func64 (by kernel_rfl) rfl #[.int .i64 a0, .int .u64 (rd l1 x25_1)] rfl (by (try simp only [List.map_toArray, List.map_cons, List.map_nil]); first | done | rfl | (simp only [List.length_drop, List.length_take]; rfl)) ?_; (with_reducible refine (node_Leaf.calls a0 (rd l1 x25_1) t272 t273 _ A12.out).mono ?_); rintro e w' ⟨rfl, ⟨nd, rfl⟩⟩; refine ⟨_, rfl, ?_⟩))
                    go_ret2
                    exact ⟨_, by first | rfl | (simp [errW_none, errW_some] <;> rfl) | (simp [*, errW_none, errW_some] <;> rfl), by first | exact Kd.R_nil _ _ _ _ _ | exact Kd.N_nil _ _ _ _ _ | exact Kd.V_nil _ _ _ _ _ | exact Kd.Q_nil _ _ _ _ _ | exact Kd.S_nil _ _ _ _ _, by repeat (first | (with_reducible first | exact HB.out | apply below_alloc | apply pw_below_drewN | apply below_drew1) | exact HB.out)⟩
                · rw [if_neg c11] at H
                  exact absurd H (by simp)
              · rw [if_neg c10] at H
                exact absurd H (by simp)
            · rw [if_neg c9] at H
              have c9b0 : decide (x25_1 < (l1.length : Int)) = false := decide_eq_false c9
              clear c9
              have H' := Aside0.mk H
              clear H
              go_wp2
              go_loopg [7, 12, 46] k1 (fun kq v7 v12 v46 w' => ∃ (x7_2 : List Int) (x12_2 : List Int) (x46_2 : Int), v46 = .int .i64 x46_2 ∧ Aside0 (steiner_tree.l1 kq x7_2 x12_2 (wrap64 (a0 + 1)) x46_2 = some (r1, r2)) ∧ Aside0 (kq ≤ k1) ∧ Aside0 (Kd.R (Kd.int .u64) 22 w' w.heap.size (fun k_ => some k_ ≠ (v12 : Value).ownBlock) v7 x7_2) ∧ Aside0 (Kd.R (Kd.int .u64) 22 w' w.heap.size (fun k_ => some k_ ≠ (v7 : Value).ownBlock) v12 x12_2) ∧ Aside0 (Below w.heap.size w w'))
              case atStart => exact ⟨(x7_1), (([] : List Int)), (0), (by first | rfl | (simp; done) | (simp [*]; done)), H', ⟨Nat.le_refl _⟩, ⟨by (with_reducible repeat (first | apply Kd.R_alloc | apply Kd.R_drewN | apply Kd.R_drew)); exact Kd.R_mono HO_7.out (fun _ hk => (by simp [Value.ownBlock]))⟩, ⟨by first | exact Kd.R_nil _ _ _ _ _ | exact Kd.N_nil _ _ _ _ _ | exact Kd.V_nil _ _ _ _ _ | exact Kd.Q_nil _ _ _ _ _ | exact Kd.S_nil _ _ _ _ _⟩, ⟨by repeat (first | (with_reducible first | exact HB.out | apply below_alloc | apply pw_below_drewN | apply below_drew1) | exact HB.out)⟩⟩
              case round =>
                clear H'
                try clear c1
                try clear p1
                try clear q1
                try clear hx1
                try clear c2
                try clear p2
                try clear q2
                try clear hx2
                try clear c4
                try clear c4b0
                try clear c4b1
                try clear c5
                try clear c5b0
                try clear c5b1
                try clear c6
                try clear c6b0
                try clear c6b1
                try clear p6
                try clear c9
                try clear c9b0
                try clear c10
                try clear c10b0
                try clear c11
                try clear c11b0
                try clear c13
                try clear c13b0
                try clear c13b1
                try clear c14
                try clear c14b0
                try clear p15
                try clear q15
                try clear hx15
                try clear hf15
                try clear hx15_0
                try clear hx271_0
                try clear p15
                try clear p2
                try clear p271
                try clear q15
                try clear q271
                obtain ⟨x7_2, x12_2, x46_2, rfl, HA, HK2, HO_7, HO_12, HB⟩ := hrel
                cases gk with
                | zero => exact absurd HA.out (by simp [steiner_tree.l1])
                | succ k2 =>
                  have H := HA.out
                  clear HA
                  simp only [steiner_tree.l1] at H
                  by_cases c18 : x46_2 < (wrap64 (a0 + 1))
                  · rw [if_pos c18] at H
                    have c18b0 : decide (x46_2 < (wrap64 (a0 + 1))) = true := decide_eq_true c18
                    clear c18
                    by_cases c19 : ([] : List Int).length + x7_2.length < 17592186044416
                    · rw [if_pos c19] at H
                      have LMc19 := Aside0.mk c19
                      clear c19
                      obtain ⟨y275, hy275⟩ : ∃ y_ : List Int, y_ = (([] : List Int) ++ x7_2) := ⟨_, rfl⟩
                      replace H : (if y275.length + x12_2.length < 17592186044416 then (steiner_tree.l2 k2 x7_2 (y275 ++ x12_2) (wrap64 (a0 + 1)) x46_2 (x7_2.length : Int) 0) else (none)) = some (r1, r2) := by first | (rw [hy275]; with_reducible exact H) | (have H2_ := (Option.bind_some _ _).symm.trans H; rw [hy275]; with_reducible exact H2_) | (have H2_ := (Option.bind_some _ _).symm.trans H; with_reducible exact H2_) | with_reducible exact H | (rw [hy275]; exact H) | exact H
                      have Ny275 := Aside0.mk hy275
                      clear hy275
                      by_cases c20 : y275.length + x12_2.length < 17592186044416
                      · rw [if_pos c20] at H
                        have LMc20 := Aside0.mk c20
                        clear c20
                        obtain ⟨y278, hy278⟩ : ∃ y_ : List Int, y_ = (y275 ++ x12_2) := ⟨_, rfl⟩
                        replace H : (steiner_tree.l2 k2 x7_2 y278 (wrap64 (a0 + 1)) x46_2 (x7_2.length : Int) 0) = some (r1, r2) := by first | (rw [hy278]; with_reducible exact H) | (have H2_ := (Option.bind_some _ _).symm.trans H; rw [hy278]; with_reducible exact H2_) | (have H2_ := (Option.bind_some _ _).symm.trans H; with_reducible exact H2_) | with_reducible exact H | (rw [hy278]; exact H) | exact H
                        have Ny278 := Aside0.mk hy278
                        clear hy278
                        have H' := Aside0.mk H
                        clear H
                        obtain ⟨Ao22, co22, eo22⟩ := Kd.R_slice HO_7.out
                        subst eo22
                        obtain ⟨Ao24, co24, eo24⟩ := Kd.R_slice HO_12.out
                        subst eo24
                        have HCC := Aside0.mk (show slices_Concat_uint64_uint64.f 7 [x7_2, x12_2] = some y278 from by rw [concat_two _ _ (by have h1_ := LMc20.out; rw [Ny275.out] at h1_; simpa using h1_), Ny278.out, Ny275.out]; rfl)
                        go_wp2_with (first | ((with_reducible refine gate_callee (f := 126) rfl ?_); refine goesL_ (some 51) rfl rfl Try.func126 (by kernel_rfl) rfl #[.slice (some ⟨_, 0, none⟩) 2 2] rfl (by (try simp only [List.map_toArray, List.map_cons, List.map_nil]); first | done | rfl) ?_; refine Calls.mono (slices_Concat_uint64_uint64.calls 7 _ 2 [x7_2, x12_2] y278 _ (Kd.C_two (Kd.int .u64) 22 39 (by repeat (first | exact (Kd.R_reads' HO_7.out).2.2 | (with_reducible refine Kd.C_alloc ?_ _) | (with_reducible refine Kd.C_drewN ?_ _) | (with_reducible refine Kd.C_drew ?_))) (Kd.R_reads' HO_7.out).2.1 (by repeat (first | exact (Kd.R_reads' HO_12.out).2.2 | (with_reducible refine Kd.C_alloc ?_ _) | (with_reducible refine Kd.C_drewN ?_ _) | (with_reducible refine Kd.C_drew ?_))) (Kd.R_reads' HO_12.out).2.1) (Nat.le_refl 2) HCC.out) ?_; rintro e w23 ⟨v279, rfl, ho, hb⟩; refine ⟨_, rfl, ?_⟩; have n0_ := Aside0.mk (Kd.R_elder' (by (with_reducible repeat (first | apply Kd.R_alloc | apply Kd.R_drewN | apply Kd.R_drew)); exact HO_7.out) (Kd.R_base ho) hb); have n2_ := Aside0.mk (below_step (by repeat (first | (with_reducible first | exact HB.out | apply below_alloc | apply pw_below_drewN | apply below_drew1) | exact HB.out)) hb); have n3_ := Aside0.mk (Kd.R_lower (Kd.R_mono (ok' := fun k_ => some k_ ≠ (.slice Ao22 x7_2.length co22 : Value).ownBlock ∧ True) (Kd.R_new' ho (Kd.R_lt (by (with_reducible repeat (first | apply Kd.R_alloc | apply Kd.R_drewN | apply Kd.R_drew)); exact HO_7.out))) (fun k_ hk => ⟨hk.2, trivial⟩)) (below_size (by repeat (first | (with_reducible first | exact HB.out | apply below_alloc | apply pw_below_drewN | apply below_drew1) | exact HB.out)))); clear HO_7; clear HO_12; clear HB; have HO_7 := n0_; have HB := n2_; have HO280 := n3_; clear n0_ n2_ n3_; clear ho hb))
                        go_loopg [54] k2 (fun kq v54 w' => ∃ (x7_3 : List Int) (x54_3 : Int), v54 = .int .i64 x54_3 ∧ Aside0 (steiner_tree.l2 kq x7_3 y278 (wrap64 (a0 + 1)) x46_2 (x7_2.length : Int) x54_3 = some (r1, r2)) ∧ Aside0 (kq ≤ k2) ∧ Aside0 (Kd.R (Kd.int .u64) 22 w' w.heap.size (fun k_ => some k_ ≠ (v279 : Value).ownBlock) (.slice Ao22 x7_2.length co22) x7_3) ∧ Aside0 (Kd.R (Kd.int .u64) 22 w' w.heap.size (fun k_ => some k_ ≠ ((.slice Ao22 x7_2.length co22) : Value).ownBlock) v279 y278) ∧ Aside0 (Below w.heap.size w w'))
                        case atStart => exact ⟨(x7_2), (0), (by first | rfl | (simp; done) | (simp [*]; done)), H', ⟨Nat.le_refl _⟩, ⟨by (with_reducible repeat (first | apply Kd.R_alloc | apply Kd.R_drewN | apply Kd.R_drew)); exact Kd.R_mono HO_7.out (fun _ hk => hk.2)⟩, ⟨by (with_reducible repeat (first | apply Kd.R_alloc | apply Kd.R_drewN | apply Kd.R_drew)); exact Kd.R_mono HO280.out (fun _ hk => hk.1)⟩, ⟨by repeat (first | (with_reducible first | exact HB.out | apply below_alloc | apply pw_below_drewN | apply below_drew1) | exact HB.out)⟩⟩
                        case round =>
                          clear H'
                          try clear c1
                          try clear p1
                          try clear q1
                          try clear hx1
                          try clear c2
                          try clear p2
                          try clear q2
                          try clear hx2
                          try clear c4
                          try clear c4b0
                          try clear c4b1
                          try clear c5
                          try clear c5b0
                          try clear c5b1
                          try clear c6
                          try clear c6b0
                          try clear c6b1
                          try clear p6
                          try clear c9
                          try clear c9b0
                          try clear c10
                          try clear c10b0
                          try clear c11
                          try clear c11b0
                          try clear c13
                          try clear c13b0
                          try clear c13b1
                          try clear c14
                          try clear c14b0
                          try clear p15
                          try clear q15
                          try clear hx15
                          try clear hf15
                          try clear c18
                          try clear c18b0
                          try clear c19
                          try clear c20
                          try clear hx15_0
                          try clear hx271_0
                          try clear p1
                          try clear p15
                          try clear p2
                          try clear p271
                          try clear p6
                          try clear q1
                          try clear q15
                          try clear q2
                          try clear q271
                          obtain ⟨x7_3, x54_3, rfl, HA, HK3, HO_7, HO_12, HB⟩ := hrel
                          have hl7_3 := (Kd.R_reads' HO_7.out).1
                          rw [hl7_3] at HO_7
                          (try simp only [hl7_3])
                          (try simp only [hl7_3] at HO_12)
                          cases gk with
                          | zero => exact absurd HA.out (by simp [steiner_tree.l2])
                          | succ k3 =>
                            have H := HA.out
                            clear HA
                            simp only [steiner_tree.l2] at H
                            by_cases c25 : x54_3 < (x7_2.length : Int)
                            · rw [if_pos c25] at H
                              have c25b0 : decide (x54_3 < (x7_2.length : Int)) = true := decide_eq_true c25
                              have c25b9 := c25b0
                              rw [hl7_3] at c25b9
                              clear c25
                              by_cases c26 : 0 ≤ x54_3
                              · rw [if_pos c26] at H
                                have c26b0 : decide (0 ≤ x54_3) = true := decide_eq_true c26
                                clear c26
                                by_cases c27 : x54_3 < (x7_3.length : Int)
                                · rw [if_pos c27] at H
                                  have c27b0 : decide (x54_3 < (x7_3.length : Int)) = true := decide_eq_true c27
                                  clear c27
                                  obtain ⟨y282, hy282⟩ : ∃ y_ : List Int, y_ = (x7_3.set (x54_3 : Int).toNat ((rd x7_3 x54_3) / 2)) := ⟨_, rfl⟩
                                  replace H : (steiner_tree.l2 k3 y282 y278 (wrap64 (a0 + 1)) x46_2 (x7_2.length : Int) (wrap64 (x54_3 + 1))) = some (r1, r2) := by first | (rw [hy282]; with_reducible exact H) | (have H2_ := (Option.bind_some _ _).symm.trans H; rw [hy282]; with_reducible exact H2_) | (have H2_ := (Option.bind_some _ _).symm.trans H; with_reducible exact H2_) | with_reducible exact H | (rw [hy282]; exact H) | exact H
                                  have Ny282 := Aside0.mk hy282
                                  clear hy282
                                  have H' := Aside0.mk H
                                  clear H
                                  have p281 : 0 ≤ (x54_3 : Int) := of_decide_eq_true (by first | (with_reducible assumption) | assumption)
                                  have q281 : x54_3 < (x7_3.length : Int) := of_decide_eq_true (by first | (with_reducible assumption) | assumption)
                                  obtain ⟨ad281, e281, hx281_0⟩ := Kd.at_int (Kd.R_reads' HO_7.out).2.2 x54_3 p281 q281
                                  cases e281
                                  replace p281 := eq_true p281
                                  replace q281 := eq_true q281
                                  have p28 : 0 ≤ (x54_3 : Int) := of_decide_eq_true (by first | (with_reducible assumption) | assumption)
                                  have q28 : (x54_3 : Int) < ((x7_3.length : Int) : Int) := of_decide_eq_true (by first | (with_reducible assumption) | assumption)
                                  obtain ⟨go28, co28, eo28, gb28, gl28, cl28, HG28⟩ := Kd.R_form HO_7.out (by omega)
                                  (first | cases eo28 | (injection eo28 with ea_ en_ ec_; (first | subst ea_ | (injection ea_ with ea_; subst ea_)); subst ec_; clear en_))
                                  have GB28 := Aside0.mk gb28
                                  have GG28 := Aside0.mk HG28
                                  clear gb28 gl28 HG28
                                  (first | simp only [add_plain] at hx281_0 | skip)
                                  obtain ⟨hx28_0, hf28_0⟩ := Kd.R_celln 0 HO_7.out (x54_3 : Int) p28 q28
                                  replace p28 := eq_true p28
                                  replace q28 := eq_true q28
                                  have HP29 := Kd.R_putg HO_7.out (x54_3 : Int) ((rd x7_3 x54_3) / 2)
                                  go_wp2_with (first | ((with_reducible refine gate_store (t := 22) (p := 62) rfl ?_); refine store_event (t := 22) (p := 62) (v := ?vo_w30) (w1 := (wr.setCell ⟨go28, (x54_3 : Int).toNat, none⟩ (.int .u64 ((rd x7_3 x54_3) / 2)))) ?hg ?ho ?hn ?hr ?_; (case ho => rfl); (case hg => rfl); (case hn => rfl); (case hr => first | (go_simp; done) | (go_simp; rfl)); intro w30 hw; have hg : wr.grownBy w30 (some go28) := (by rw [hw]; exact HP29.2); have hp_ : Kd.R (Kd.int .u64) 22 w30 w.heap.size (fun k_ => some k_ ≠ (v279 : Value).ownBlock) (.slice (some ⟨go28, 0, none⟩) x7_3.length co22) y282 := (by rw [hw, Ny282.out]; exact HP29.1); clear HP29; have n0_ := Aside0.mk (hp_); have n1_ := Aside0.mk (Kd.R_after (v := (.slice (some ⟨go28, 0, none⟩) x7_3.length co22)) (v1 := (.slice (some ⟨go28, 0, none⟩) x7_3.length co22)) (ok := (fun _ => True)) (by (with_reducible repeat (first | apply Kd.R_alloc | apply Kd.R_drewN | apply Kd.R_drew)); exact Kd.R_mono HO_12.out (fun _ hk => ⟨trivial, hk⟩)) hg (.inl rfl)); have n2_ := Aside0.mk ((by rw [hw]; exact below_set (HB.out) GB28.out : Below w.heap.size w w30)); clear HO_7; clear HO_12; clear HB; have HO_7 := n0_; have HO_12 := n1_; have HB := n2_; clear n0_ n1_ n2_; clear hg hw hp_))
                                  (try simp only [← hl7_3])
                                  go_roundg k3
                                  case measure => have := HK1.out; have := HK2.out; have := HK3.out; omega
                                  case rel => exact ⟨(y282), (wrap64 (x54_3 + 1)), (by first | rfl | (simp; done) | (simp [*]; done)), H', ⟨by have := HK1.out; have := HK2.out; have := HK3.out; omega⟩, ⟨by (try simp only [hl7_3]); (with_reducible repeat (first | apply Kd.R_alloc | apply Kd.R_drewN | apply Kd.R_drew)); exact HO_7.out⟩, ⟨by (try simp only [hl7_3]); (with_reducible repeat (first | apply Kd.R_alloc | apply Kd.R_drewN | apply Kd.R_drew)); exact Kd.R_mono HO_12.out (fun _ hk => hk.2)⟩, ⟨by repeat (first | (with_reducible first | exact HB.out | apply below_alloc | apply pw_below_drewN | apply below_drew1) | exact HB.out)⟩⟩
                                · rw [if_neg c27] at H
                                  exact absurd H (by simp)
                              · rw [if_neg c26] at H
                                exact absurd H (by simp)
                            · rw [if_neg c25] at H
                              have c25b0 : decide (x54_3 < (x7_2.length : Int)) = false := decide_eq_false c25
                              have c25b9 := c25b0
                              rw [hl7_3] at c25b9
                              clear c25
                              replace H := Option.bind_eq_some_iff.mp H
                              obtain ⟨t283, A310, H⟩ := H
                              replace H : (steiner_tree.l1 k3 t283 y278 (wrap64 (a0 + 1)) (wrap64 (x46_2 + 1))) = some (r1, r2) := H
                              have A31 := Aside0.mk A310
                              clear A310
                              have H' := Aside0.mk H
                              clear H
                              go_wp2_with (first | ((with_reducible refine gate_callee (f := 127) rfl ?_); refine goesL_ (some 65) rfl rfl Try.func127 (by kernel_rfl) rfl #[.slice Ao22 x7_3.length co22] rfl (by (try simp only [List.map_toArray, List.map_cons, List.map_nil]); first | done | rfl | (simp only [List.length_drop, List.length_take]; rfl)) ?_; (with_reducible refine (slices_Compact_uint64_uint64.calls k3 (fun k_ => some k_ = (.slice Ao22 x7_3.length co22 : Value).ownBlock) (.slice Ao22 x7_3.length co22) x7_3 t283 w _ ?side1 ?side2 A31.out).mono ?_); (case side1 => repeat (first | (with_reducible first | exact HB.out | apply below_alloc | apply pw_below_drewN | apply below_drew1) | exact HB.out)); (case side2 => exact Kd.R_tight rfl HO_7.out); rintro e w32 ⟨v284, rfl, ho0, hb, hkp⟩; refine ⟨_, rfl, ?_⟩; have n0_ := Aside0.mk (Kd.R_mono (ok' := fun k_ => some k_ ≠ (v284 : Value).ownBlock) (Kd.R_keptB (HO_12.out) hkp (fun k_ hk_ hs_ => (hk_) hs_)) (fun k_ hk_ => fun e_ => Or.elim (ho0.1 k_ e_.symm) (fun hs_ => hk_.2.1 hs_) (fun hn_ => Nat.not_le.2 hk_.2.2 hn_))); have n1_ := Aside0.mk (Kd.R_mono (ok' := fun k_ => some k_ ≠ (v279 : Value).ownBlock) ho0 (fun k_ hk_ => Or.elim hk_ (fun hs_ => fun e_ => (((HO_12.out).1 k_ e_.symm)) hs_) (fun hn_ => (Kd.fresh' (Kd.R_lt (by (with_reducible repeat (first | apply Kd.R_alloc | apply Kd.R_drewN | apply Kd.R_drew)); exact HO_12.out)) k_ hn_)))); have n2_ := Aside0.mk (hb); clear HO_12; clear HB; clear HO_7; have HO_12 := n0_; have HO285 := n1_; have HB := n2_; clear n0_ n1_ n2_; (try clear hb); (try clear hkp); (try clear ho0)))
                              (try simp only [← hl7_3])
                              go_roundg k3
                              case measure => have := HK1.out; have := HK2.out; have := HK3.out; omega
                              case rel => exact ⟨(t283), (y278), (wrap64 (x46_2 + 1)), (by first | rfl | (simp; done) | (simp [*]; done)), H', ⟨by have := HK1.out; have := HK2.out; have := HK3.out; omega⟩, ⟨by (try simp only [hl7_3]); (with_reducible repeat (first | apply Kd.R_alloc | apply Kd.R_drewN | apply Kd.R_drew)); exact HO285.out⟩, ⟨by (try simp only [hl7_3]); (with_reducible repeat (first | apply Kd.R_alloc | apply Kd.R_drewN | apply Kd.R_drew)); exact HO_12.out⟩, ⟨by repeat (first | (with_reducible first | exact HB.out | apply below_alloc | apply pw_below_drewN | apply below_drew1) | exact HB.out)⟩⟩
                      · rw [if_neg c20] at H
                        exact absurd H (by simp)
                    · rw [if_neg c19] at H
                      exact absurd H (by simp)
                  · rw [if_neg c18] at H
                    have c18b0 : decide (x46_2 < (wrap64 (a0 + 1))) = false := decide_eq_false c18
                    clear c18
                    simp only [Option.some.injEq, Prod.mk.injEq] at H
                    obtain ⟨rfl, rfl⟩ := H
                    go_wp2
                    go_ret2
                    exact ⟨_, by first | rfl | (simp [errW_none, errW_some] <;> rfl) | (simp [*, errW_none, errW_some] <;> rfl), by (with_reducible repeat (first | apply Kd.R_alloc | apply Kd.R_drewN | apply Kd.R_drew)); exact Kd.R_mono HO_12.out (fun _ hk => trivial), by repeat (first | (with_reducible first | exact HB.out | apply below_alloc | apply pw_below_drewN | apply below_drew1) | exact HB.out)⟩
      · rw [if_neg c6] at H
        exact absurd H (by simp)
    · rw [if_neg c5] at H
      exact absurd H (by simp)
  · rw [if_neg c4] at H
    have c4b0 : (t267 == 0) = false := beq_eq_false_iff_ne.mpr c4
    have c4b1 : (t267 != 0) = true := bne_iff_ne.mpr c4
    simp only [Option.some.injEq, Prod.mk.injEq] at H
    obtain ⟨rfl, rfl⟩ := H
    go_enter Try.func114, Try.ntmps114
    go_wp2_with (first | ((with_reducible refine gate_callee (f := 27) rfl ?_); refine goesL_ (some 16) rfl rfl Try.func27 (by kernel_rfl) rfl #[.int .i64 a0, .slice A1 l1.length c1] rfl (by (try simp only [List.map_toArray, List.map_cons, List.map_nil]); first | done | rfl | (simp only [List.length_drop, List.length_take]; rfl)) ?_; (with_reducible refine (leaf_Check.calls k a0 _ _ l1 t267 _ ?side1 ?side2 A3.out).mono ?_); (case side1 => repeat (first | exact HR1.out | (with_reducible refine Kd.C_alloc ?_ _) | (with_reducible refine Kd.C_drewN ?_ _) | (with_reducible refine Kd.C_drew ?_))); (case side2 => exact HC1.out); rintro e w' ⟨rfl, ⟨nd, rfl⟩⟩; refine ⟨_, rfl, ?_⟩))
    go_ret2
    exact ⟨_, by first | rfl | (simp [errW_none, errW_some] <;> rfl) | (simp [*, errW_none, errW_some] <;> rfl), by first | exact Kd.R_nil _ _ _ _ _ | exact Kd.N_nil _ _ _ _ _ | exact Kd.V_nil _ _ _ _ _ | exact Kd.Q_nil _ _ _ _ _ | exact Kd.S_nil _ _ _ _ _, by repeat (first | (with_reducible first | exact HB.out | apply below_alloc | apply pw_below_drewN | apply below_drew1) | exact HB.out)⟩
theorem box_grown {W w1 : World} {g : Nat} {o : Obj} {row : Option Nat} (h : W.heap[g]? = some o) (hg : W.grownBy w1 row) (hne : some g ≠ row) : w1.heap[g]? = some o := (hg.5 g (blk_lt h) (by first | exact hne | exact fun e => hne e.symm)).trans h
theorem box_drewN {W : World} {g : Nat} {o : Obj} (h : W.heap[g]? = some o) (n : Nat) : (W.drewN n).heap[g]? = some o := h
theorem box_drew {W : World} {g : Nat} {o : Obj} (h : W.heap[g]? = some o) : W.drew.heap[g]? = some o := h
theorem box_alloc {W : World} {g : Nat} {o : Obj} (h : W.heap[g]? = some o) (o' : Obj) : (W.alloc o').heap[g]? = some o := blk_below h (below_alloc (Below.refl _ _) o')
theorem R_tell {e base b T : Nat} {ok : Nat → Prop} {W W1 : World} {u v v' : Value} {xs : List Int} {cs : Array Value} (h : Kd.R (Kd.int .u64) e W base ok u xs) (hx : W.heap[b]? = some (.cells cs T (0, 0))) (hT : e ≠ T) (hok : ∀ k_, ok k_ → some k_ ≠ v.ownBlock) (hkp : Kept W W1 (fun k_ => k_ = b ∨ some k_ = v.ownBlock))
    (hv' : ∀ k_, v'.ownBlock = some k_ → (some k_ = v.ownBlock ∨ W.heap.size ≤ k_)) : Kd.R (Kd.int .u64) e W1 base (fun k_ => some k_ ≠ v'.ownBlock) u xs := by
  refine Kd.R_mono (Kd.R_keptB (Kd.R_bound h) hkp ?_) ?_
  · rintro k_ ⟨hk, _, _, q, hq, cells, hc⟩ (rfl | hs)
    · rw [hx] at hc
      simp only [Option.some.injEq, Obj.cells.injEq] at hc
      simp [Kd.int, Kd.scalar] at hq
      exact hT (hq.symm.trans hc.2.1.symm)
    · exact hok k_ hk hs
  · rintro k_ ⟨⟨hk, _⟩, _, hlt⟩ e'
    rcases hv' k_ e'.symm with h1 | h1
    · exact hok k_ hk h1
    · omega
theorem R_told {e e' base base' : Nat} {ok : Nat → Prop} {W W1 : World} {u v v' : Value} {xs ys : List Int} (h : Kd.R (Kd.int .u64) e' W base' ok u ys) (hok : ∀ k_, ok k_ → some k_ ≠ v.ownBlock) (ho : Kd.R (Kd.int .u64) e W1 base (fun k_ => some k_ = v.ownBlock ∨ W.heap.size ≤ k_) v' xs) : Kd.R (Kd.int .u64) e W1 base (fun k_ => some k_ ≠ u.ownBlock) v' xs := by
  refine Kd.R_mono ho ?_
  rintro k_ hk e2
  have h1 := h.1 k_ e2.symm
  have h2 := Kd.R_lt h k_ e2.symm
  rcases hk with h3 | h3
  · exact hok k_ h1 h3
  · omega
theorem goesC_ {P : Program} {ops : Array Oper} {Q : Exit → Act → World → Prop} {rest : List Oper} {oi : Oper} {a : Act} {w : World} (N : Option Tmp) (hd : oi.dst = N) (hg : oi.guard = none) {f : FuncId} {caps : Array Value} {x : Operand} {fn : Func} {xs_ : Array Operand} {ts : Array TypeId} (hf : P.funcs[f]? = some fn) (hname : (fn.name == "runtime.NumGoroutine") = false) (hb : fn.body.isSome = true) (args : Array Value)
    (hop : oi.op = .call { callee := .value x, args := xs_, argTypes := ts }) (hx : a.eval x = .func (.func f) #[] caps) (hargs : xs_.map a.eval = args)
    (h : Calls P f (args ++ caps) w fun e w' => ∃ v, e = .returned v ∧ wpList P ops Q rest (a.put N v) w') : wpList P ops Q (oi :: rest) a w := by
  refine wpList_plain hg fun K hK => ?_
  have he := enters_ hf hname hb (args ++ caps) w
  have hrun : (execOp a.eval oi).run P w = .ok (.enter f (args ++ caps)) w := by
    unfold execOp
    simp [hop, resolve, Deferred.ofValue, invoke, hx, hargs, he]
  unfold Oper.wp
  rw [hrun, Oper.upon_enter]
  refine h.mono fun e w'' hh => ?_
  obtain ⟨v, rfl, hk⟩ := hh
  subst hd
  exact hK _ _ hk
theorem gate_closure {P : Program} {ops : Array Oper} {Q : Exit → Act → World → Prop} {rest : List Oper} {o : Oper} {a : Act} {W : World} {x : Operand} {xs_ : Array Operand} {ts : Array TypeId} (_ho : o.op = .call { callee := .value x, args := xs_, argTypes := ts }) (h : wpList P ops Q (o :: rest) a W) : wpList P ops Q (o :: rest) a W := h
mutual
def steiner_children.l0 (step : Nat → List Int → Int → List Int → Option (List Int)) : Nat → Int → List Int → Int → List Int → Option (List Int × Int)
  | 0, _, _, _, _ => none
  | k + 1, x0, x7, x28, x62 => if x28 < (x7.length : Int) then (if 0 ≤ x28 then (steiner_children.l1 step k x0 x7 (rd x7 x28) ([] : List Int) x28 0 x62) else none) else (some (x62, 0))
def steiner_children.l1 (step : Nat → List Int → Int → List Int → Option (List Int)) : Nat → Int → List Int → Int → List Int → Int → Int → List Int → Option (List Int × Int)
  | 0, _, _, _, _, _, _, _ => none
  | k + 1, x0, x7, x10, x11, x28, x32, x62 => if x32 < 2 then ((node_Child.f k x0 x10 x32).bind fun bt173 => (if bt173.2 = 0 then ((slices_BinarySearch_uint64_uint64.f k x7 bt173.1).bind fun bt175 => (if bt175.2 = true then (steiner_children.l1 step k x0 x7 x10 x11 x28 (wrap64 (x32 + 1)) x62) else (if x11.length < 17592186044416 then (steiner_children.l1 step k x0 x7 x10 (x11 ++ [bt173.1]) x28 (wrap64 (x32 + 1)) x62) else (none)))) else ((step k x62 x10 x11).bind fun y => steiner_children.l0 step k x0 x7 (wrap64 (x28 + 1)) y))) else ((step k x62 x10 x11).bind fun y => steiner_children.l0 step k x0 x7 (wrap64 (x28 + 1)) y)
end
def steiner_children.f (step : Nat → List Int → Int → List Int → Option (List Int)) (k : Nat) (a0 : Int) (l1 : List Int) : Option (List Int × Int) := (steiner_tree.f k a0 l1).bind fun bt165 => (if bt165.2 = 0 then (steiner_children.l0 step k a0 bt165.1 0 ([] : List Int)) else (some (([] : List Int), bt165.2)))
set_option maxHeartbeats 8000000 in
set_option maxRecDepth 100000 in
theorem steiner_children.calls (step : Nat → List Int → Int → List Int → Option (List Int)) (k : Nat) (a0 : Int) (A1 : Option Addr) (c1 : Nat) (l1 : List Int) (r1 : List Int) (r2 : Int) (w : World) (hr1 : Kd.C (Kd.int .u64) w A1 l1.length l1) (hc1 : l1.length ≤ c1)
    (g : Nat) (fn : Func) (caps : Array Value) (b : Nat) (hf : Try.prog.funcs[g]? = some fn) (hname : (fn.name == "runtime.NumGoroutine") = false) (hbody : fn.body.isSome = true)
    (hx : w.heap[b]? = some (.cells #[.slice none 0 0] 39 (0, 0)))
    (hstep : ∀ (k : Nat) (W : World) (v : Value) (x : List Int) (n : Int) (A : Option Addr) (c : Nat) (y x' : List Int), Below b w W → W.heap[b]? = some (.cells #[v] 39 (0, 0)) → Kd.R (Kd.int .u64) 22 W b (fun _ => True) v x → Kd.C (Kd.int .u64) W A y.length y → y.length ≤ c → step k x n y = some x' →
      Calls Try.prog g (#[.int .u64 n, .slice A y.length c] ++ caps) W fun e W' => e = .returned (.tuple #[]) ∧ ∃ v' : Value, W'.heap[b]? = some (.cells #[v'] 39 (0, 0)) ∧ Kd.R (Kd.int .u64) 22 W' b (fun k_ => some k_ = v.ownBlock ∨ W.heap.size ≤ k_) v' x' ∧ Below b w W' ∧ Kept W W' (fun k_ => k_ = b ∨ some k_ = v.ownBlock))
    (h : steiner_children.f step k a0 l1 = some (r1, r2)) :
    Calls Try.prog 101 #[.int .i64 a0, .slice A1 l1.length c1, .func (.func g) #[] caps] w fun e w' => e = .returned (.int .i64 r2) ∧ ∃ v0_ : Value, w'.heap[b]? = some (.cells #[v0_] 39 (0, 0)) ∧ Kd.R (Kd.int .u64) 22 w' b (fun _ => True) v0_ r1 ∧ Below b w w' := by
  have HR1 := Aside0.mk hr1
  have HC1 := Aside0.mk hc1
  have HX := Aside0.mk hx
  have HST := Aside0.mk hstep
  have HF := Aside0.mk hf
  have HN := Aside0.mk hname
  have HBO := Aside0.mk hbody
  clear hr1 hc1 hx hstep hf hname hbody
  have HB := Aside0.mk (Below.refl b w)
  have H : ((steiner_tree.f k a0 l1).bind fun bt165 => (if bt165.2 = 0 then (steiner_children.l0 step k a0 bt165.1 0 ([] : List Int)) else (some (([] : List Int), bt165.2)))) = some (r1, r2) := h
  clear h
  replace H := Option.bind_eq_some_iff.mp H
  obtain ⟨⟨t, t166⟩, A30, H⟩ := H
  replace H : (if t166 = 0 then (steiner_children.l0 step k a0 t 0 ([] : List Int)) else (some (([] : List Int), t166))) = some (r1, r2) := H
  have A3 := Aside0.mk A30
  clear A30
  by_cases c4 : t166 = 0
  · rw [if_pos c4] at H
    have c4b0 : (t166 == 0) = true := beq_iff_eq.mpr c4
    have c4b1 : (t166 != 0) = false := bne_eq_false_iff_eq.mpr c4
    clear c4
    have H' := Aside0.mk H
    clear H
    go_enter Try.func101, Try.ntmps101
    go_wp2_with (first | ((with_reducible refine gate_callee (f := 114) rfl ?_); refine goesL_ (some 20) rfl rfl Try.func114 (by kernel_rfl) rfl #[.int .i64 a0, .slice A1 l1.length c1] rfl (by (try simp only [List.map_toArray, List.map_cons, List.map_nil]); first | done | rfl) ?_; (with_reducible refine (steiner_tree.calls k a0 _ _ l1 t t166 _ HR1.out HC1.out A3.out).mono ?_); rintro e w5 ⟨v167, rfl, ho0, hb⟩; refine ⟨_, rfl, ?_⟩; have HX2 := Aside0.mk (blk_below HX.out hb); have n0_ := Aside0.mk (Kd.R_lower ho0 (Nat.le_of_lt (blk_lt HX.out))); have n1_ := Aside0.mk (below_then HB.out (Nat.le_of_lt (blk_lt HX.out)) hb); clear HB HX; have HX := HX2; have HO168 := n0_; have HB := n1_; clear n0_ n1_ HX2; (try clear hb); (try clear ho0); obtain ⟨Ao6, co6, eo6⟩ := Kd.R_slice HO168.out; subst eo6))
    go_loopg [28] k (fun kq v28 w' => ∃ (x28_1 : Int) (x62_1 : List Int) (u62 : Value), v28 = .int .i64 x28_1 ∧ Aside0 (steiner_children.l0 step kq a0 t x28_1 x62_1 = some (r1, r2)) ∧ Aside0 (kq ≤ k) ∧ Aside0 (Kd.R (Kd.int .u64) 22 w' b (fun k_ => some k_ ≠ (u62 : Value).ownBlock) (.slice Ao6 t.length co6) t) ∧ Aside0 (Kd.R (Kd.int .u64) 22 w' b (fun k_ => some k_ ≠ ((.slice Ao6 t.length co6) : Value).ownBlock) u62 x62_1) ∧ Aside0 (w'.heap[b]? = some (.cells #[u62] 39 (0, 0))) ∧ Aside0 (Below b w w'))
    case atStart => exact ⟨(0), (([] : List Int)), .slice none 0 0, (by first | rfl | (simp; done) | (simp [*]; done)), H', ⟨Nat.le_refl _⟩, ⟨by (with_reducible repeat (first | apply Kd.R_alloc | apply Kd.R_drewN | apply Kd.R_drew)); exact Kd.R_mono HO168.out (fun _ hk => (by simp [Value.ownBlock]))⟩, ⟨Kd.R_nil _ _ _ _ _⟩, ⟨by first | exact HX.out | (with_reducible repeat (first | apply box_alloc | apply box_drewN | apply box_drew)); exact HX.out⟩, ⟨by repeat (first | (with_reducible first | exact HB.out | apply below_alloc | apply pw_below_drewN | apply below_drew1) | exact HB.out)⟩⟩
    case round =>
      clear H' HX
      try clear c4b0
      try clear c4b1
      obtain ⟨x28_1, x62_1, u62, rfl, HA, HK1, HO_7, HO_62, HX, HB⟩ := hrel
      cases gk with
      | zero => exact absurd HA.out (by simp [steiner_children.l0])
      | succ k1 =>
        have H := HA.out
        clear HA
        simp only [steiner_children.l0] at H
        by_cases c7 : x28_1 < (t.length : Int)
        · rw [if_pos c7] at H
          have c7b0 : decide (x28_1 < (t.length : Int)) = true := decide_eq_true c7
          clear c7
          by_cases c8 : 0 ≤ x28_1
          · rw [if_pos c8] at H
            have c8b0 : decide (0 ≤ x28_1) = true := decide_eq_true c8
            clear c8
            have H' := Aside0.mk H
            clear H
            have p169 : 0 ≤ (x28_1 : Int) := of_decide_eq_true (by first | (with_reducible assumption) | assumption)
            have q169 : x28_1 < (t.length : Int) := of_decide_eq_true (by first | (with_reducible assumption) | assumption)
            obtain ⟨ad, e169, hx169_0⟩ := Kd.at_int (Kd.R_reads' HO_7.out).2.2 x28_1 p169 q169
            cases e169
            replace p169 := eq_true p169
            replace q169 := eq_true q169
            go_wp2
            go_loopg [11, 32] k1 (fun kq v11 v32 w' => ∃ (x11_2 : List Int) (x32_2 : Int), v32 = .int .i64 x32_2 ∧ Aside0 (steiner_children.l1 step kq a0 t (rd t x28_1) x11_2 x28_1 x32_2 x62_1 = some (r1, r2)) ∧ Aside0 (kq ≤ k1) ∧ Aside0 (Kd.R (Kd.int .u64) 22 w' b (fun k_ => some k_ ≠ (v11 : Value).ownBlock ∧ some k_ ≠ (u62 : Value).ownBlock) (.slice (some ad) t.length co6) t) ∧ Aside0 (Kd.R (Kd.int .u64) 22 w' b (fun k_ => some k_ ≠ ((.slice (some ad) t.length co6) : Value).ownBlock ∧ some k_ ≠ (u62 : Value).ownBlock) v11 x11_2) ∧ Aside0 (Kd.R (Kd.int .u64) 22 w' b (fun k_ => some k_ ≠ ((.slice (some ad) t.length co6) : Value).ownBlock ∧ some k_ ≠ (v11 : Value).ownBlock) u62 x62_1) ∧ Aside0 (w'.heap[b]? = some (.cells #[u62] 39 (0, 0))) ∧ Aside0 (Below b w w'))
            case atStart => exact ⟨(([] : List Int)), (0), (by first | rfl | (simp; done) | (simp [*]; done)), H', ⟨Nat.le_refl _⟩, ⟨by (with_reducible repeat (first | apply Kd.R_alloc | apply Kd.R_drewN | apply Kd.R_drew)); exact Kd.R_mono HO_7.out (fun _ hk => ⟨(by simp [Value.ownBlock]), hk⟩)⟩, ⟨Kd.R_nil _ _ _ _ _⟩, ⟨by (with_reducible repeat (first | apply Kd.R_alloc | apply Kd.R_drewN | apply Kd.R_drew)); exact Kd.R_mono HO_62.out (fun _ hk => ⟨hk, (by simp [Value.ownBlock])⟩)⟩, ⟨by first | exact HX.out | (with_reducible repeat (first | apply box_alloc | apply box_drewN | apply box_drew)); exact HX.out⟩, ⟨by repeat (first | (with_reducible first | exact HB.out | apply below_alloc | apply pw_below_drewN | apply below_drew1) | exact HB.out)⟩⟩
            case round =>
              clear H' HX
              try clear c7b0
              try clear c8b0
              try clear hx169_0
              try clear p169
              try clear q169
              obtain ⟨x11_2, x32_2, rfl, HA, HK2, HO_7, HO_11, HO_62, HX, HB⟩ := hrel
              cases gk with
              | zero => exact absurd HA.out (by simp [steiner_children.l1])
              | succ k2 =>
                have H := HA.out
                clear HA
                simp only [steiner_children.l1] at H
                by_cases c10 : x32_2 < 2
                · rw [if_pos c10] at H
                  have c10b0 : decide (x32_2 < 2) = true := decide_eq_true c10
                  clear c10
                  replace H := Option.bind_eq_some_iff.mp H
                  obtain ⟨⟨t173, t174⟩, A110, H⟩ := H
                  replace H : (if t174 = 0 then ((slices_BinarySearch_uint64_uint64.f k2 t t173).bind fun bt175 => (if bt175.2 = true then (steiner_children.l1 step k2 a0 t (rd t x28_1) x11_2 x28_1 (wrap64 (x32_2 + 1)) x62_1) else (if x11_2.length < 17592186044416 then (steiner_children.l1 step k2 a0 t (rd t x28_1) (x11_2 ++ [t173]) x28_1 (wrap64 (x32_2 + 1)) x62_1) else (none)))) else ((step k2 x62_1 (rd t x28_1) x11_2).bind fun y => steiner_children.l0 step k2 a0 t (wrap64 (x28_1 + 1)) y)) = some (r1, r2) := H
                  have A11 := Aside0.mk A110
                  clear A110
                  by_cases c12 : t174 = 0
                  · rw [if_pos c12] at H
                    have c12b0 : (t174 == 0) = true := beq_iff_eq.mpr c12
                    have c12b1 : (t174 != 0) = false := bne_eq_false_iff_eq.mpr c12
                    clear c12
                    replace H := Option.bind_eq_some_iff.mp H
                    obtain ⟨⟨t175, t176⟩, A130, H⟩ := H
                    replace H : (if t176 = true then (steiner_children.l1 step k2 a0 t (rd t x28_1) x11_2 x28_1 (wrap64 (x32_2 + 1)) x62_1) else (if x11_2.length < 17592186044416 then (steiner_children.l1 step k2 a0 t (rd t x28_1) (x11_2 ++ [t173]) x28_1 (wrap64 (x32_2 + 1)) x62_1) else (none))) = some (r1, r2) := H
                    have A13 := Aside0.mk A130
                    clear A130
                    by_cases c14 : t176 = true
                    · subst c14
                      have H1 : (steiner_children.l1 step k2 a0 t (rd t x28_1) x11_2 x28_1 (wrap64 (x32_2 + 1)) x62_1) = some (r1, r2) := by rw [if_pos rfl] at H; exact H
                      clear H
                      have H' := Aside0.mk H1
                      clear H1
                      go_wp2_with (first | ((with_reducible refine gate_callee (f := 105) rfl ?_); refine goesL_ (some 39) rfl rfl Try.func105 (by kernel_rfl) rfl #[.int .i64 a0, .int .u64 (rd t x28_1), .int .i64 x32_2] rfl (by (try simp only [List.map_toArray, List.map_cons, List.map_nil]); first | done | rfl) ?_; (with_reducible refine (node_Child.calls k2 a0 (rd t x28_1) x32_2 t173 t174 _ A11.out).mono ?_); rintro e w' ⟨rfl, ⟨nd, rfl⟩⟩; refine ⟨_, rfl, ?_⟩) | ((with_reducible refine gate_callee (f := 76) rfl ?_); refine goesL_ (some 47) rfl rfl Try.func76 (by kernel_rfl) rfl #[.slice (some ad) t.length co6, .int .u64 t173] rfl (by (try simp only [List.map_toArray, List.map_cons, List.map_nil]); first | done | rfl) ?_; (with_reducible refine (slices_BinarySearch_uint64_uint64.calls k2 _ _ t t173 t175 _ _ ?side1 ?side2 A13.out).mono ?_); (case side1 => repeat (first | exact (Kd.R_reads' HO_7.out).2.2 | (with_reducible refine Kd.C_alloc ?_ _) | (with_reducible refine Kd.C_drewN ?_ _) | (with_reducible refine Kd.C_drew ?_))); (case side2 => exact (Kd.R_reads' HO_7.out).2.1); rintro e w' ⟨rfl, ⟨nd, rfl⟩⟩; refine ⟨_, rfl, ?_⟩))
                      go_roundg k2
                      case measure => have := HK1.out; have := HK2.out; omega
                      case rel => exact ⟨(x11_2), (wrap64 (x32_2 + 1)), (by first | rfl | (simp; done) | (simp [*]; done)), H', ⟨by have := HK1.out; have := HK2.out; omega⟩, ⟨(by (with_reducible repeat (first | apply Kd.R_alloc | apply Kd.R_drewN | apply Kd.R_drew)); exact HO_7.out)⟩, ⟨(by (with_reducible repeat (first | apply Kd.R_alloc | apply Kd.R_drewN | apply Kd.R_drew)); exact HO_11.out)⟩, ⟨(by (with_reducible repeat (first | apply Kd.R_alloc | apply Kd.R_drewN | apply Kd.R_drew)); exact HO_62.out)⟩, ⟨by first | exact HX.out | (with_reducible repeat (first | apply box_alloc | apply box_drewN | apply box_drew)); exact HX.out⟩, ⟨by repeat (first | (with_reducible first | exact HB.out | apply below_alloc | apply pw_below_drewN | apply below_drew1) | exact HB.out)⟩⟩
                    · have c14b := Bool.eq_false_iff.2 c14
                      rw [if_neg c14] at H
                      subst c14b
                      clear c14
                      by_cases c15 : x11_2.length < 17592186044416
                      · rw [if_pos c15] at H
                        have LMc15 := Aside0.mk c15
                        clear c15
                        have H' := Aside0.mk H
                        clear H
                        go_wp2_with (first | ((with_reducible refine gate_callee (f := 105) rfl ?_); refine goesL_ (some 39) rfl rfl Try.func105 (by kernel_rfl) rfl #[.int .i64 a0, .int .u64 (rd t x28_1), .int .i64 x32_2] rfl (by (try simp only [List.map_toArray, List.map_cons, List.map_nil]); first | done | rfl) ?_; (with_reducible refine (node_Child.calls k2 a0 (rd t x28_1) x32_2 t173 t174 _ A11.out).mono ?_); rintro e w' ⟨rfl, ⟨nd, rfl⟩⟩; refine ⟨_, rfl, ?_⟩) | ((with_reducible refine gate_callee (f := 76) rfl ?_); refine goesL_ (some 47) rfl rfl Try.func76 (by kernel_rfl) rfl #[.slice (some ad) t.length co6, .int .u64 t173] rfl (by (try simp only [List.map_toArray, List.map_cons, List.map_nil]); first | done | rfl) ?_; (with_reducible refine (slices_BinarySearch_uint64_uint64.calls k2 _ _ t t173 t175 _ _ ?side1 ?side2 A13.out).mono ?_); (case side1 => repeat (first | exact (Kd.R_reads' HO_7.out).2.2 | (with_reducible refine Kd.C_alloc ?_ _) | (with_reducible refine Kd.C_drewN ?_ _) | (with_reducible refine Kd.C_drew ?_))); (case side2 => exact (Kd.R_reads' HO_7.out).2.1); rintro e w' ⟨rfl, ⟨nd, rfl⟩⟩; refine ⟨_, rfl, ?_⟩) | ((with_reducible refine gate_builtin (b := .append) (xs := #[.tmp 52, .tmp 54]) rfl ?_); at_builtin; refine Kd.R_append (Kd.int .u64) (w0 := w) b rfl (.tmp 52) (.tmp 54) 39 22 (.int .u64 0) 8 rfl Try.underlying39 info22 rfl (by decide) (by omega) u11 x11_2 t173 [.int .u64 t173] (fun k_ => some k_ ≠ (.slice (some ad) t.length co6 : Value).ownBlock ∧ some k_ ≠ (u62 : Value).ownBlock) (fun _ => False) rfl rfl ?aP (fun _ hk => hk.elim) ?aF ?aO ?aB ?aS ?aL ?_; (case aP => exact rfl); (case aB => exact by repeat (first | (with_reducible first | exact HB.out | apply below_alloc | apply pw_below_drewN | apply below_drew1) | exact HB.out)); (case aF => exact (fun k_ hk => ⟨Kd.fresh' (Kd.R_lt (by (with_reducible repeat (first | apply Kd.R_alloc | apply Kd.R_drewN | apply Kd.R_drew)); exact HO_7.out)) k_ hk, Kd.fresh' (Kd.R_lt (by (with_reducible repeat (first | apply Kd.R_alloc | apply Kd.R_drewN | apply Kd.R_drew)); exact HO_62.out)) k_ hk⟩)); (case aO => exact (by (with_reducible repeat (first | apply Kd.R_alloc | apply Kd.R_drewN | apply Kd.R_drew)); exact HO_11.out)); (case aS => exact (Nat.le_of_lt (blk_lt (by first | exact HX.out | (with_reducible repeat (first | apply box_alloc | apply box_drewN | apply box_drew)); exact HX.out)))); (case aL => have := LMc15.out; omega); intro v178 w16 ho hb hg hat; have n0_ := Aside0.mk (Kd.R_after (ok := (fun k_ => some k_ ≠ (u62 : Value).ownBlock)) (by (with_reducible repeat (first | apply Kd.R_alloc | apply Kd.R_drewN | apply Kd.R_drew)); exact Kd.R_mono HO_7.out (fun _ hk => ⟨hk.2 , hk.1⟩)) hg hat); have n1_ := Aside0.mk (Kd.R_after (ok := (fun k_ => some k_ ≠ (.slice (some ad) t.length co6 : Value).ownBlock)) (by (with_reducible repeat (first | apply Kd.R_alloc | apply Kd.R_drewN | apply Kd.R_drew)); exact HO_62.out) hg hat); have HX2 := Aside0.mk (box_grown (by first | exact HX.out | (with_reducible repeat (first | apply box_alloc | apply box_drewN | apply box_drew)); exact HX.out) hg (Kd.R_ne HO_11.out HX.out (by decide))); clear HO_7; clear HO_62; clear HB; clear HX; have HO_7 := n0_; have HO_62 := n1_; have HX := HX2; have HB := Aside0.mk hb; have HO179 := Aside0.mk ho; clear n0_ n1_ HX2; clear ho hb hg hat))
                        go_roundg k2
                        case measure => have := HK1.out; have := HK2.out; omega
                        case rel => exact ⟨(x11_2 ++ [t173]), (wrap64 (x32_2 + 1)), (by first | rfl | (simp; done) | (simp [*]; done)), H', ⟨by have := HK1.out; have := HK2.out; omega⟩, ⟨by (with_reducible repeat (first | apply Kd.R_alloc | apply Kd.R_drewN | apply Kd.R_drew)); exact Kd.R_mono HO_7.out (fun _ hk => ⟨hk.2, hk.1⟩)⟩, ⟨(by (with_reducible repeat (first | apply Kd.R_alloc | apply Kd.R_drewN | apply Kd.R_drew)); exact HO179.out)⟩, ⟨(by (with_reducible repeat (first | apply Kd.R_alloc | apply Kd.R_drewN | apply Kd.R_drew)); exact HO_62.out)⟩, ⟨by first | exact HX.out | (with_reducible repeat (first | apply box_alloc | apply box_drewN | apply box_drew)); exact HX.out⟩, ⟨by repeat (first | (with_reducible first | exact HB.out | apply below_alloc | apply pw_below_drewN | apply below_drew1) | exact HB.out)⟩⟩
                      · rw [if_neg c15] at H
                        exact absurd H (by simp)
                  · rw [if_neg c12] at H
                    have c12b0 : (t174 == 0) = false := beq_eq_false_iff_ne.mpr c12
                    have c12b1 : (t174 != 0) = true := bne_iff_ne.mpr c12
                    clear c12
                    obtain ⟨y, hy, H⟩ := Option.bind_eq_some_iff.mp H
                    have HY := Aside0.mk hy
                    clear hy
                    have H' := Aside0.mk H
                    clear H
                    go_wp2_with (first | ((with_reducible refine gate_callee (f := 105) rfl ?_); refine goesL_ (some 39) rfl rfl Try.func105 (by kernel_rfl) rfl #[.int .i64 a0, .int .u64 (rd t x28_1), .int .i64 x32_2] rfl (by (try simp only [List.map_toArray, List.map_cons, List.map_nil]); first | done | rfl) ?_; (with_reducible refine (node_Child.calls k2 a0 (rd t x28_1) x32_2 t173 t174 _ A11.out).mono ?_); rintro e w' ⟨rfl, ⟨nd, rfl⟩⟩; refine ⟨_, rfl, ?_⟩; obtain ⟨Ao22, co22, eo22⟩ := Kd.R_slice HO_11.out; subst eo22) | ((with_reducible refine gate_closure (x := .tmp 57) (xs_ := #[.tmp 58, .tmp 59]) rfl ?_); refine goesC_ (some 60) rfl rfl HF.out HN.out HBO.out #[.int .u64 (rd t x28_1), .slice Ao22 x11_2.length co22] rfl rfl (by (try simp only [List.map_toArray, List.map_cons, List.map_nil]); first | done | rfl) ?_; refine (HST.out k2 _ u62 x62_1 (rd t x28_1) Ao22 co22 x11_2 y ?s1 ?s2 ?s3 ?side1 (Kd.R_reads' HO_11.out).2.1 HY.out).mono ?_; (case s1 => exact (by repeat (first | (with_reducible first | exact HB.out | apply below_alloc | apply pw_below_drewN | apply below_drew1) | exact HB.out))); (case s2 => exact (by first | exact HX.out | (with_reducible repeat (first | apply box_alloc | apply box_drewN | apply box_drew)); exact HX.out)); (case s3 => exact (by (with_reducible repeat (first | apply Kd.R_alloc | apply Kd.R_drewN | apply Kd.R_drew)); exact Kd.R_mono HO_62.out (fun _ _ => trivial))); (case side1 => repeat (first | exact (Kd.R_reads' HO_11.out).2.2 | (with_reducible refine Kd.C_alloc ?_ _) | (with_reducible refine Kd.C_drewN ?_ _) | (with_reducible refine Kd.C_drew ?_))); rintro e w18 ⟨rfl, v181, hxn, ho0, hb, hkp⟩; refine ⟨_, rfl, ?_⟩; have n0_ := Aside0.mk (R_tell HO_7.out HX.out (by decide) (fun k_ hk => hk.2) hkp ho0.1); have n1_ := Aside0.mk (R_told HO_7.out (fun k_ hk => hk.2) ho0); clear HO_7 HO_62 HO_11 HB HX; have HO_7 := n0_; have HO182 := n1_; have HB := Aside0.mk hb; have HX := Aside0.mk hxn; clear n0_ n1_ hb hxn ho0 hkp))
                    go_roundg k2
                    case measure => have := HK1.out; have := HK2.out; omega
                    case rel => exact ⟨(wrap64 (x28_1 + 1)), y, v181, (by first | rfl | (simp; done) | (simp [*]; done)), H', ⟨by have := HK1.out; have := HK2.out; omega⟩, ⟨(by (with_reducible repeat (first | apply Kd.R_alloc | apply Kd.R_drewN | apply Kd.R_drew)); exact HO_7.out)⟩, ⟨(by (with_reducible repeat (first | apply Kd.R_alloc | apply Kd.R_drewN | apply Kd.R_drew)); exact HO182.out)⟩, ⟨by first | exact HX.out | (with_reducible repeat (first | apply box_alloc | apply box_drewN | apply box_drew)); exact HX.out⟩, ⟨by repeat (first | (with_reducible first | exact HB.out | apply below_alloc | apply pw_below_drewN | apply below_drew1) | exact HB.out)⟩⟩
                · rw [if_neg c10] at H
                  have c10b0 : decide (x32_2 < 2) = false := decide_eq_false c10
                  clear c10
                  obtain ⟨y, hy, H⟩ := Option.bind_eq_some_iff.mp H
                  have HY := Aside0.mk hy
                  clear hy
                  have H' := Aside0.mk H
                  clear H
                  obtain ⟨Ao22, co22, eo22⟩ := Kd.R_slice HO_11.out
                  subst eo22
                  go_wp2_with (first | ((with_reducible refine gate_closure (x := .tmp 57) (xs_ := #[.tmp 58, .tmp 59]) rfl ?_); refine goesC_ (some 60) rfl rfl HF.out HN.out HBO.out #[.int .u64 (rd t x28_1), .slice Ao22 x11_2.length co22] rfl rfl (by (try simp only [List.map_toArray, List.map_cons, List.map_nil]); first | done | rfl) ?_; refine (HST.out k2 _ u62 x62_1 (rd t x28_1) Ao22 co22 x11_2 y ?s1 ?s2 ?s3 ?side1 (Kd.R_reads' HO_11.out).2.1 HY.out).mono ?_; (case s1 => exact (by repeat (first | (with_reducible first | exact HB.out | apply below_alloc | apply pw_below_drewN | apply below_drew1) | exact HB.out))); (case s2 => exact (by first | exact HX.out | (with_reducible repeat (first | apply box_alloc | apply box_drewN | apply box_drew)); exact HX.out)); (case s3 => exact (by (with_reducible repeat (first | apply Kd.R_alloc | apply Kd.R_drewN | apply Kd.R_drew)); exact Kd.R_mono HO_62.out (fun _ _ => trivial))); (case side1 => repeat (first | exact (Kd.R_reads' HO_11.out).2.2 | (with_reducible refine Kd.C_alloc ?_ _) | (with_reducible refine Kd.C_drewN ?_ _) | (with_reducible refine Kd.C_drew ?_))); rintro e w18 ⟨rfl, v181, hxn, ho0, hb, hkp⟩; refine ⟨_, rfl, ?_⟩; have n0_ := Aside0.mk (R_tell HO_7.out HX.out (by decide) (fun k_ hk => hk.2) hkp ho0.1); have n1_ := Aside0.mk (R_told HO_7.out (fun k_ hk => hk.2) ho0); clear HO_7 HO_62 HO_11 HB HX; have HO_7 := n0_; have HO182 := n1_; have HB := Aside0.mk hb; have HX := Aside0.mk hxn; clear n0_ n1_ hb hxn ho0 hkp))
                  go_roundg k2
                  case measure => have := HK1.out; have := HK2.out; omega
                  case rel => exact ⟨(wrap64 (x28_1 + 1)), y, v181, (by first | rfl | (simp; done) | (simp [*]; done)), H', ⟨by have := HK1.out; have := HK2.out; omega⟩, ⟨(by (with_reducible repeat (first | apply Kd.R_alloc | apply Kd.R_drewN | apply Kd.R_drew)); exact HO_7.out)⟩, ⟨(by (with_reducible repeat (first | apply Kd.R_alloc | apply Kd.R_drewN | apply Kd.R_drew)); exact HO182.out)⟩, ⟨by first | exact HX.out | (with_reducible repeat (first | apply box_alloc | apply box_drewN | apply box_drew)); exact HX.out⟩, ⟨by repeat (first | (with_reducible first | exact HB.out | apply below_alloc | apply pw_below_drewN | apply below_drew1) | exact HB.out)⟩⟩
          · rw [if_neg c8] at H
            exact absurd H (by simp)
        · rw [if_neg c7] at H
          have c7b0 : decide (x28_1 < (t.length : Int)) = false := decide_eq_false c7
          clear c7
          simp only [Option.some.injEq, Prod.mk.injEq] at H
          obtain ⟨rfl, rfl⟩ := H
          go_wp2
          go_ret
          exact ⟨rfl, u62, by first | exact HX.out | (with_reducible repeat (first | apply box_alloc | apply box_drewN | apply box_drew)); exact HX.out, by (with_reducible repeat (first | apply Kd.R_alloc | apply Kd.R_drewN | apply Kd.R_drew)); exact Kd.R_mono HO_62.out (fun _ hk => trivial), by repeat (first | (with_reducible first | exact HB.out | apply below_alloc | apply pw_below_drewN | apply below_drew1) | exact HB.out)⟩
  · rw [if_neg c4] at H
    have c4b0 : (t166 == 0) = false := beq_eq_false_iff_ne.mpr c4
    have c4b1 : (t166 != 0) = true := bne_iff_ne.mpr c4
    clear c4
    simp only [Option.some.injEq, Prod.mk.injEq] at H
    obtain ⟨rfl, rfl⟩ := H
    go_enter Try.func101, Try.ntmps101
    go_wp2_with (first | ((with_reducible refine gate_callee (f := 114) rfl ?_); refine goesL_ (some 20) rfl rfl Try.func114 (by kernel_rfl) rfl #[.int .i64 a0, .slice A1 l1.length c1] rfl (by (try simp only [List.map_toArray, List.map_cons, List.map_nil]); first | done | rfl) ?_; (with_reducible refine (steiner_tree.calls k a0 _ _ l1 t t166 _ HR1.out HC1.out A3.out).mono ?_); rintro e w5 ⟨v167, rfl, ho0, hb⟩; refine ⟨_, rfl, ?_⟩; have HX2 := Aside0.mk (blk_below HX.out hb); have n1_ := Aside0.mk (below_then HB.out (Nat.le_of_lt (blk_lt HX.out)) hb); clear HB HX; have HX := HX2; have HB := n1_; clear n1_ HX2; (try clear hb); (try clear ho0)))
    go_ret
    exact ⟨rfl, .slice none 0 0, by first | exact HX.out | (with_reducible repeat (first | apply box_alloc | apply box_drewN | apply box_drew)); exact HX.out, Kd.R_nil _ _ _ _ _, by repeat (first | (with_reducible first | exact HB.out | apply below_alloc | apply pw_below_drewN | apply below_drew1) | exact HB.out)⟩
def steiner_Hang1.f (_k : Nat) (x : List Int) (_n : Int) (y : List Int) : Option (List Int) := if x.length + y.length < 17592186044416 then some (x ++ y) else none
theorem results_cell_tmp {P : Program} {tmps : Array Value} {w : World} {fn : Func} {p u : Tmp} {ty : TypeId} {a : Addr} {v : Value} (h : fn.results = #[.cell p ty, .tmp u]) (hp : tmps.getD p undef = .pointer (some a)) (hv : (loadVar ty a).run P w = .ok v w) : (results fn tmps).run P w = .ok (.tuple #[v, tmps.getD u undef]) w := by
  unfold results
  rw [h]
  have hp2 : tmps[p]?.getD undef = .pointer (some a) := by simpa using hp
  simp [asAddr, hp2, hv]
theorem R_boxset {e base b T : Nat} {ok : Nat → Prop} {W : World} {v u : Value} {xs : List Int} {cs : Array Value} (h : Kd.R (Kd.int .u64) e W base ok v xs) (hx : W.heap[b]? = some (.cells cs T (0, 0))) (hT : e ≠ T) : Kd.R (Kd.int .u64) e (W.setCell ⟨b, 0, none⟩ u) base ok v xs := by
  refine Kd.R_mono (Kd.R_move (Kd.R_bound h) ?_) (fun k_ hk => hk.1)
  rintro k_ ⟨_, _, _, q, hq, cells, hc⟩
  refine Below.heap_setCell W _ u k_ ?_
  rintro rfl
  rw [hx] at hc
  simp only [Option.some.injEq, Obj.cells.injEq] at hc
  simp [Kd.int, Kd.scalar] at hq
  exact hT (hq.symm.trans hc.2.1.symm)
set_option maxHeartbeats 8000000 in
set_option maxRecDepth 100000 in
theorem steiner_Hang1.calls (b : Nat) (w W : World) (v : Value) (x : List Int) (n : Int) (A : Option Addr) (c : Nat) (y x' : List Int) (hB : Below b w W) (hx : W.heap[b]? = some (.cells #[v] 39 (0, 0))) (hv : Kd.R (Kd.int .u64) 22 W b (fun _ => True) v x) (hy : Kd.C (Kd.int .u64) W A y.length y) (hyc : y.length ≤ c) (h : steiner_Hang1.f 0 x n y = some x') :
    Calls Try.prog 102 #[.int .u64 n, .slice A y.length c, .pointer (some ⟨b, 0, none⟩)] W fun e W' => e = .returned (.tuple #[]) ∧ ∃ v' : Value, W'.heap[b]? = some (.cells #[v'] 39 (0, 0)) ∧ Kd.R (Kd.int .u64) 22 W' b (fun k_ => some k_ = v.ownBlock ∨ W.heap.size ≤ k_) v' x' ∧ Below b w W' ∧ Kept W W' (fun k_ => k_ = b ∨ some k_ = v.ownBlock) := by
  have hl : x.length + y.length < 17592186044416 := by
    by_cases c : x.length + y.length < 17592186044416
    · exact c
    · simp [steiner_Hang1.f, c] at h
  obtain rfl : x ++ y = x' := by simpa [steiner_Hang1.f, hl] using h
  clear h
  have HV := Aside0.mk (Kd.R_mono (Kd.R_tight rfl hv) (ok' := fun k_ => some k_ = v.ownBlock ∨ W.heap.size ≤ k_) (fun _ hk => .inl hk))
  have HX := Aside0.mk hx
  have HY := Aside0.mk hy
  have HB := Aside0.mk hB
  have HL := Aside0.mk hl
  have hc0 := cell_of_one hx
  have HNE := Aside0.mk (Kd.R_ne hv hx (by decide))
  have HBS := Aside0.mk (Nat.le_of_lt (blk_lt hx))
  clear hv hx hy hB hl
  go_enter Try.func102, Try.ntmps102
  go_wp2_with (first | (at_builtin; refine Kd.R_append_rows (Kd.int .u64) (w0 := w) b rfl (.tmp 5) (.tmp 6) 39 22 (.int .u64 0) 8 rfl Try.underlying39 info22 rfl (by decide) (by omega) v x y _ _ _ (fun k_ => some k_ = v.ownBlock ∨ W.heap.size ≤ k_) (fun _ => False) rfl rfl HV.out HY.out (fun _ _ h => h) (fun _ h => h.elim) (fun _ hk => .inr hk) HB.out HBS.out (by have := HL.out; omega) ?_; intro v1 w1 ho hb hg hat; have hx1 := box_grown HX.out hg HNE.out; have hc1 := cell_of_one hx1; have hf1 := free_of_one hx1; have HO := Aside0.mk ho; have HB1 := Aside0.mk hb; have HG := Aside0.mk hg; have HX1 := Aside0.mk hx1; clear ho hb hg hat hx1 hc0; obtain ⟨A1, c1, e1⟩ := Kd.R_slice HO.out; subst e1))
  go_end0
  have HO2 := HO.out
  rw [List.length_append] at HO2
  exact ⟨rfl, _, one_setCell HX1.out, R_boxset HO2 HX1.out (by decide), HB1.out.setCell (Nat.le_refl b) _, Kept.setCell (Kept.of_grown HG.out (Kept.refl _ _) (fun k_ hk => .inl (.inr hk.symm))) (.inl (.inl rfl)) _⟩
def steiner_Hang.f (k : Nat) (a0 : Int) (l1 : List Int) : Option (List Int × Int) := (leaf_Check.f k a0 l1).bind fun t => if t = 0 then (if (l1.length : Int) = 0 then some ([1], 0) else steiner_children.f steiner_Hang1.f k a0 l1) else steiner_children.f steiner_Hang1.f k a0 l1
set_option maxHeartbeats 8000000 in
set_option maxRecDepth 100000 in
theorem steiner_Hang.calls (k : Nat) (a0 : Int) (A1 : Option Addr) (c1 : Nat) (l1 : List Int) (r1 : List Int) (r2 : Int) (w : World) (hr1 : Kd.C (Kd.int .u64) w A1 l1.length l1) (hc1 : l1.length ≤ c1) (h : steiner_Hang.f k a0 l1 = some (r1, r2)) :
    Calls Try.prog 79 #[.int .i64 a0, .slice A1 l1.length c1] w fun e w' => ∃ v0_ : Value, e = .returned (.tuple #[v0_, .int .i64 r2]) ∧ Kd.R (Kd.int .u64) 22 w' w.heap.size (fun _ => True) v0_ r1 ∧ Below w.heap.size w w' := by
  have HR1 := Aside0.mk hr1
  have HC1 := Aside0.mk hc1
  clear hr1 hc1
  have hmf : ∀ (fn : Fn) (first cap : Array Value) (w : World), (Instr.makeFunc fn first cap).run Try.prog w = .ok (.func fn first cap) w := fun _ _ _ _ => rfl
  have hx0 : (w.alloc (.cells #[.slice none 0 0] 39)).heap[w.heap.size]? = some (.cells #[.slice none 0 0] 39 (0, 0)) := blk_new _ _
  have HX := Aside0.mk hx0
  have hc0 := cell_of_one hx0
  have hf0 := free_of_one hx0
  clear hx0
  obtain ⟨t, A30, H⟩ := Option.bind_eq_some_iff.mp h
  clear h
  replace H : (if t = 0 then (if (l1.length : Int) = 0 then some ([1], 0) else steiner_children.f steiner_Hang1.f k a0 l1) else steiner_children.f steiner_Hang1.f k a0 l1) = some (r1, r2) := H
  have A3 := Aside0.mk A30
  clear A30
  have key : ∀ W : World, Kd.C (Kd.int .u64) W A1 l1.length l1 → W.heap[w.heap.size]? = some (.cells #[.slice none 0 0] 39 (0, 0)) → steiner_children.f steiner_Hang1.f k a0 l1 = some (r1, r2) → Calls Try.prog 101 #[.int .i64 a0, .slice A1 l1.length c1, .func (.func 102) #[] #[.pointer (some ⟨w.heap.size, 0, none⟩)]] W fun e w' => e = .returned (.int .i64 r2) ∧ ∃ v0_ : Value, w'.heap[w.heap.size]? = some (.cells #[v0_] 39 (0, 0)) ∧ Kd.R (Kd.int .u64) 22 w' w.heap.size (fun _ => True) v0_ r1 ∧ Below w.heap.size W w' := fun W hr hx hh =>
    steiner_children.calls steiner_Hang1.f k a0 A1 c1 l1 r1 r2 W hr HC1.out 102 _ _ w.heap.size Try.func102 (by kernel_rfl) rfl hx (fun k W2 v x n A c y x' h1 h2 h3 h4 h5 h6 => steiner_Hang1.calls w.heap.size W W2 v x n A c y x' h1 h2 h3 h4 h5 h6) hh
  have KEY := Aside0.mk key
  clear key
  by_cases c4 : t = 0
  · rw [if_pos c4] at H
    have c4b0 : (t == 0) = true := beq_iff_eq.mpr c4
    clear c4
    by_cases c5 : (l1.length : Int) = 0
    · rw [if_pos c5] at H
      have c5b0 : ((l1.length : Int) == 0) = true := beq_iff_eq.mpr c5
      clear c5
      simp only [Option.some.injEq, Prod.mk.injEq] at H
      obtain ⟨rfl, rfl⟩ := H
      go_enter Try.func79, Try.ntmps79
      go_wp2_with (first | ((with_reducible refine gate_callee (f := 27) rfl ?_); refine goesL_ (some 9) rfl rfl Try.func27 (by kernel_rfl) rfl #[.int .i64 a0, .slice A1 l1.length c1] rfl (by (try simp only [List.map_toArray, List.map_cons, List.map_nil]); first | done | rfl) ?_; (with_reducible refine (leaf_Check.calls k a0 _ _ l1 t _ ?side1 ?side2 A3.out).mono ?_); (case side1 => repeat (first | exact HR1.out | (with_reducible refine Kd.C_alloc ?_ _) | (with_reducible refine Kd.C_drewN ?_ _) | (with_reducible refine Kd.C_drew ?_))); (case side2 => exact HC1.out); rintro e w' ⟨rfl, ⟨nd, rfl⟩⟩; refine ⟨_, rfl, ?_⟩))
      have hsz : (((w.alloc (.cells #[.slice none 0 0] 39)).drewN nd).setCell ⟨w.heap.size, 0, none⟩ (.slice (some ⟨w.heap.size + 1, 0, none⟩) 1 1)).heap.size = w.heap.size + 1 := by simp
      have hbA := one_setCell (u := .slice (some ⟨w.heap.size + 1, 0, none⟩) 1 1) (show ((w.alloc (.cells #[.slice none 0 0] 39)).drewN nd).heap[w.heap.size]? = some (.cells #[.slice none 0 0] 39 (0, 0)) from HX.out)
      have hcA := cell_of_one (box_alloc hbA (.cells #[.int .u64 1] 22))
      have hrA := World.ownsRow_lit (base := w.heap.size) (e := 22) (size := 1) (((w.alloc (.cells #[.slice none 0 0] 39)).drewN nd).setCell ⟨w.heap.size, 0, none⟩ (.slice (some ⟨w.heap.size + 1, 0, none⟩) 1 1)) #[.int .u64 1] 1 (by rw [hsz]; omega) (by simp only [maxLen]; omega) rfl
      rw [hsz] at hrA
      have HRA := Aside0.mk hrA
      clear hrA hsz hbA
      refine bodyPost_ret (results_cell_tmp rfl rfl (v := .slice (some ⟨w.heap.size + 1, 0, none⟩) 1 1) (by go_simp)) rfl ?_
      exact ⟨_, rfl, Kd.R_of_own (enc := Value.int .u64) (h1 := fun _ => rfl) (xs := [1]) HRA.out (fun _ _ => trivial), below_alloc ((pw_below_drewN (below_alloc (Below.refl w.heap.size w) _) nd).setCell (Nat.le_refl _) _) _⟩
    · rw [if_neg c5] at H
      have c5b0 : ((l1.length : Int) == 0) = false := beq_eq_false_iff_ne.mpr c5
      clear c5
      have H' := Aside0.mk H
      clear H
      go_enter Try.func79, Try.ntmps79
      go_wp2_with (first | ((with_reducible refine gate_callee (f := 27) rfl ?_); refine goesL_ (some 9) rfl rfl Try.func27 (by kernel_rfl) rfl #[.int .i64 a0, .slice A1 l1.length c1] rfl (by (try simp only [List.map_toArray, List.map_cons, List.map_nil]); first | done | rfl) ?_; (with_reducible refine (leaf_Check.calls k a0 _ _ l1 t _ ?side1 ?side2 A3.out).mono ?_); (case side1 => repeat (first | exact HR1.out | (with_reducible refine Kd.C_alloc ?_ _) | (with_reducible refine Kd.C_drewN ?_ _) | (with_reducible refine Kd.C_drew ?_))); (case side2 => exact HC1.out); rintro e w' ⟨rfl, ⟨nd, rfl⟩⟩; refine ⟨_, rfl, ?_⟩) | ((with_reducible refine gate_callee (f := 101) rfl ?_); refine goesL_ (some 20) rfl rfl Try.func101 (by kernel_rfl) rfl #[.int .i64 a0, .slice A1 l1.length c1, .func (.func 102) #[] #[.pointer (some ⟨w.heap.size, 0, none⟩)]] rfl (by (try simp only [List.map_toArray, List.map_cons, List.map_nil]); first | done | rfl) ?_; refine (KEY.out _ ?s1 ?s2 H'.out).mono ?_; (case s1 => repeat (first | exact HR1.out | (with_reducible refine Kd.C_alloc ?_ _) | (with_reducible refine Kd.C_drewN ?_ _) | (with_reducible refine Kd.C_drew ?_))); (case s2 => exact HX.out); rintro e w5 ⟨rfl, v0, hx, ho, hb⟩; refine ⟨_, rfl, ?_⟩; have hc1 := cell_of_one hx; have hf1 := free_of_one hx; have HX2 := Aside0.mk hx; have HO := Aside0.mk ho; have HB := Aside0.mk (Below.trans (pw_below_drewN (below_alloc (Below.refl w.heap.size w) (.cells #[.slice none 0 0] 39)) nd) hb); clear hx ho hb; obtain ⟨Ao, co, eo⟩ := Kd.R_slice HO.out; subst eo))
      have hcB := cell_of_one (one_setCell (u := .slice Ao r1.length co) HX2.out)
      refine bodyPost_ret (results_cell_tmp rfl rfl (v := .slice Ao r1.length co) (by go_simp)) rfl ?_
      exact ⟨_, rfl, R_boxset HO.out HX2.out (by decide), HB.out.setCell (Nat.le_refl _) _⟩
  · rw [if_neg c4] at H
    have c4b0 : (t == 0) = false := beq_eq_false_iff_ne.mpr c4
    clear c4
    have H' := Aside0.mk H
    clear H
    go_enter Try.func79, Try.ntmps79
    go_wp2_with (first | ((with_reducible refine gate_callee (f := 27) rfl ?_); refine goesL_ (some 9) rfl rfl Try.func27 (by kernel_rfl) rfl #[.int .i64 a0, .slice A1 l1.length c1] rfl (by (try simp only [List.map_toArray, List.map_cons, List.map_nil]); first | done | rfl) ?_; (with_reducible refine (leaf_Check.calls k a0 _ _ l1 t _ ?side1 ?side2 A3.out).mono ?_); (case side1 => repeat (first | exact HR1.out | (with_reducible refine Kd.C_alloc ?_ _) | (with_reducible refine Kd.C_drewN ?_ _) | (with_reducible refine Kd.C_drew ?_))); (case side2 => exact HC1.out); rintro e w' ⟨rfl, ⟨nd, rfl⟩⟩; refine ⟨_, rfl, ?_⟩) | ((with_reducible refine gate_callee (f := 101) rfl ?_); refine goesL_ (some 20) rfl rfl Try.func101 (by kernel_rfl) rfl #[.int .i64 a0, .slice A1 l1.length c1, .func (.func 102) #[] #[.pointer (some ⟨w.heap.size, 0, none⟩)]] rfl (by (try simp only [List.map_toArray, List.map_cons, List.map_nil]); first | done | rfl) ?_; refine (KEY.out _ ?s1 ?s2 H'.out).mono ?_; (case s1 => repeat (first | exact HR1.out | (with_reducible refine Kd.C_alloc ?_ _) | (with_reducible refine Kd.C_drewN ?_ _) | (with_reducible refine Kd.C_drew ?_))); (case s2 => exact HX.out); rintro e w5 ⟨rfl, v0, hx, ho, hb⟩; refine ⟨_, rfl, ?_⟩; have hc1 := cell_of_one hx; have hf1 := free_of_one hx; have HX2 := Aside0.mk hx; have HO := Aside0.mk ho; have HB := Aside0.mk (Below.trans (pw_below_drewN (below_alloc (Below.refl w.heap.size w) (.cells #[.slice none 0 0] 39)) nd) hb); clear hx ho hb; obtain ⟨Ao, co, eo⟩ := Kd.R_slice HO.out; subst eo))
    have hcB := cell_of_one (one_setCell (u := .slice Ao r1.length co) HX2.out)
    refine bodyPost_ret (results_cell_tmp rfl rfl (v := .slice Ao r1.length co) (by go_simp)) rfl ?_
    exact ⟨_, rfl, R_boxset HO.out HX2.out (by decide), HB.out.setCell (Nat.le_refl _) _⟩
end Go.Proofs.Ytnbiddloiiljjaa.MP
