-- written by a program of this session (wip/tools/mprint.sh) for this seat
import Derived.Test.YtmffkfakcbopcaaMPx0
import Derived.Test.YtmffkfakcbopcaaMPx2
import Derived.RangeFuncNested
import Derived.RangeFuncBound
import Derived.RangeFuncCalls
import Derived.RangeFuncLeaves
import Derived.Shelf.Abstract
import Derived.OwnWalkIn
import Derived.TacticsInMore
import Derived.LoopNIn
import Derived.LoopIn
import Derived.Maps.AppendAt
namespace Go.Proofs.Ytmffkfakcbopcaa.MP
open Go.RowKit Go.Proofs.YtmffkfakcbopcaaW.PrintWords Go.Proofs.YtmffkfakcbopcaaW.PrintLast Go.Proofs.YtmffkfakcbopcaaW.PrintMore
attribute [local go_sem] max2_int min2_int max_two min_two max_three min_three max_four min_four   -- for this text's walks alone
set_option linter.unusedVariables false
set_option linter.unusedSimpArgs false

/-! ### leaf_Many: function 27 -/
def leaf_Many.l0 : Nat → Int → List (S52) → Int → List (S52) → Int → Int → Option (Int × Int)
  | 0, _, _, _, _, _, _ => none
  | k + 1, x0, x1, x4, x14, x15, x16 => if x16 < x15 then (if 0 ≤ x16 then (if x16 < (x14.length : Int) then (if ((rd_T52 x14 x16).f0) > ((rd_T52 x14 x16).f1) then (some (0, 1)) else ((leaf_is.f x0 ((rd_T52 x14 x16).f1)).bind fun t509 => (if t509 = true then (if x16 > 0 then (if 0 ≤ (wrap64 (x16 - 1)) then (if (wrap64 (x16 - 1)) < (x1.length : Int) then (if ((rd_T52 x1 (wrap64 (x16 - 1))).f1) ≥ ((rd_T52 x14 x16).f0) then (some (0, 1)) else (leaf_Many.l0 k x0 x1 (IntKind.u64.wrap (x4 + (IntKind.u64.wrap ((IntKind.u64.wrap (((rd_T52 x14 x16).f1) - ((rd_T52 x14 x16).f0))) + 1)))) x14 x15 (wrap64 (x16 + 1)))) else (none)) else (none)) else (leaf_Many.l0 k x0 x1 (IntKind.u64.wrap (x4 + (IntKind.u64.wrap ((IntKind.u64.wrap (((rd_T52 x14 x16).f1) - ((rd_T52 x14 x16).f0))) + 1)))) x14 x15 (wrap64 (x16 + 1)))) else (some (0, 1))))) else (none)) else (none)) else (some (x4, 0))
def leaf_Many.f (k : Nat) (a0 : Int) (l1 : List (S52)) : Option (Int × Int) := (node_Check.f k a0 1).bind fun t506 => (if t506 = 0 then (leaf_Many.l0 k a0 l1 0 l1 (l1.length : Int) 0) else (some (0, t506)))
theorem leaf_Many.mono_l : ∀ k, (∀ y0 y1 y2 y3 y4 y5, LeO (leaf_Many.l0 k y0 y1 y2 y3 y4 y5) (leaf_Many.l0 (k + 1) y0 y1 y2 y3 y4 y5))
  | 0 => fun _ _ _ _ _ _ r h => by simp [leaf_Many.l0] at h
  | k + 1 => by
    have ih0 := leaf_Many.mono_l k
    · intro y0 y1 y2 y3 y4 y5
      unfold leaf_Many.l0
      repeat' first
      | (with_reducible exact ih0 _ _ _ _ _ _)
      | (with_reducible exact node_Check.mono _ _ _)
      | (with_reducible exact LeO.refl _)
      | (with_reducible exact LeO.none _)
      | (with_reducible refine LeO.ite ?_ ?_)
      | (with_reducible refine LeO.bind ?_ (fun _ => ?_))
      | exact ih0 _ _ _ _ _ _
      | exact node_Check.mono _ _ _
      | exact LeO.none _
      | refine LeO.ite ?_ ?_
      | refine LeO.bind ?_ (fun _ => ?_)
theorem leaf_Many.mono : ∀ a0 a1 k, LeO (leaf_Many.f k a0 a1) (leaf_Many.f (k + 1) a0 a1) := by
  intro a0 a1 k
  have ih0 := leaf_Many.mono_l k
  unfold leaf_Many.f
  repeat' first
      | (with_reducible exact ih0 _ _ _ _ _ _)
      | (with_reducible exact node_Check.mono _ _ _)
      | (with_reducible exact LeO.refl _)
      | (with_reducible exact LeO.none _)
      | (with_reducible refine LeO.ite ?_ ?_)
      | (with_reducible refine LeO.bind ?_ (fun _ => ?_))
      | exact ih0 _ _ _ _ _ _
      | exact node_Check.mono _ _ _
      | exact LeO.none _
      | refine LeO.ite ?_ ?_
      | refine LeO.bind ?_ (fun _ => ?_)
set_option maxHeartbeats 8000000 in
set_option maxRecDepth 100000 in
theorem leaf_Many.calls (k : Nat) (a0 : Int) (A1 : Option Addr) (c1 : Nat) (l1 : List (S52)) (r1 : Int) (r2 : Int) (w : World) (hr1 : Kd.C k52 w A1 l1.length l1) (hc1 : l1.length ≤ c1) (h : leaf_Many.f k a0 l1 = some (r1, r2)) :
    Calls Try.prog 27 #[.int .i64 a0, .slice A1 l1.length c1] w fun e w' => e = .returned (.tuple #[.int .u64 r1, .int .i64 r2]) ∧ Below w.heap.size w w' := by
  have hu52 := Try.underlying52
  have HR1 := Aside0.mk hr1
  have HC1 := Aside0.mk hc1
  clear hr1 hc1
  have HB := Aside0.mk (Below.refl w.heap.size w)
  have H : ((node_Check.f k a0 1).bind fun t506 => (if t506 = 0 then (leaf_Many.l0 k a0 l1 0 l1 (l1.length : Int) 0) else (some (0, t506)))) = some (r1, r2) := h
  clear h
  replace H := Option.bind_eq_some_iff.mp H
  obtain ⟨t506, A30, H⟩ := H
  replace H : (if t506 = 0 then (leaf_Many.l0 k a0 l1 0 l1 (l1.length : Int) 0) else (some (0, t506))) = some (r1, r2) := H
  have A3 := Aside0.mk A30
  clear A30
  by_cases c4 : t506 = 0
  · rw [if_pos c4] at H
    have c4b0 : (t506 == 0) = true := beq_iff_eq.mpr c4
    have c4b1 : (t506 != 0) = false := bne_eq_false_iff_eq.mpr c4
    clear c4
    have H' := Aside0.mk H
    clear H
    go_enter Try.func27, Try.ntmps27
    go_wp2_with (first | (go_at_call 64; (with_reducible refine (node_Check.calls k a0 1 t506 _ A3.out).mono ?_); rintro e w' ⟨rfl, ⟨nd, rfl⟩⟩; (try first | exact ⟨rfl, _, World.drewN_drewN _ _ _⟩ | exact ⟨rfl, _, Eq.trans (World.drewN_drewN _ _ _) (congrArg (World.drewN _) (Nat.add_assoc _ _ _))⟩)))
    repeat (go_quiet (first | (go_at_call 64; (with_reducible refine (node_Check.calls k a0 1 t506 _ A3.out).mono ?_); rintro e w' ⟨rfl, ⟨nd, rfl⟩⟩; (try first | exact ⟨rfl, _, World.drewN_drewN _ _ _⟩ | exact ⟨rfl, _, Eq.trans (World.drewN_drewN _ _ _) (congrArg (World.drewN _) (Nat.add_assoc _ _ _))⟩))); try go_wp2_with (first | (go_at_call 64; (with_reducible refine (node_Check.calls k a0 1 t506 _ A3.out).mono ?_); rintro e w' ⟨rfl, ⟨nd, rfl⟩⟩; (try first | exact ⟨rfl, _, World.drewN_drewN _ _ _⟩ | exact ⟨rfl, _, Eq.trans (World.drewN_drewN _ _ _) (congrArg (World.drewN _) (Nat.add_assoc _ _ _))⟩))))
    go_loopg [4, 16] k (fun kq v4 v16 w' => ∃ (x4_1 : Int) (x16_1 : Int), v4 = .int .u64 x4_1 ∧ v16 = .int .i64 x16_1 ∧ Aside0 (leaf_Many.l0 kq a0 l1 x4_1 l1 (l1.length : Int) x16_1 = some (r1, r2)) ∧ Aside0 (kq ≤ k) ∧ Aside0 (Below w.heap.size w w'))
    case atStart => exact ⟨(0), (0), (by first | rfl | (simp; done) | (simp [*]; done)), (by first | rfl | (simp; done) | (simp [*]; done)), H', ⟨Nat.le_refl _⟩, ⟨by repeat (first | (with_reducible first | exact HB.out | apply below_alloc | apply pw_below_drewN | apply below_drew1) | exact HB.out)⟩⟩
    case round =>
      clear H'
      try clear c1
      try clear c2
      try clear p2
      try clear c4
      try clear c4b0
      try clear c4b1
      obtain ⟨x4_1, x16_1, rfl, rfl, HA, HK1, HB⟩ := hrel
      cases gk with
      | zero => exact absurd HA.out (by simp [leaf_Many.l0])
      | succ k1 =>
        have H := HA.out
        clear HA
        simp only [leaf_Many.l0] at H
        by_cases c5 : x16_1 < (l1.length : Int)
        · rw [if_pos c5] at H
          have c5b0 : decide (x16_1 < (l1.length : Int)) = true := decide_eq_true c5
          clear c5
          by_cases c6 : 0 ≤ x16_1
          · rw [if_pos c6] at H
            have c6b0 : decide (0 ≤ x16_1) = true := decide_eq_true c6
            clear c6
            by_cases c7 : x16_1 < (l1.length : Int)
            · rw [if_pos c7] at H
              have c7b0 : decide (x16_1 < (l1.length : Int)) = true := decide_eq_true c7
              clear c7
              by_cases c8 : ((rd_T52 l1 x16_1).f0) > ((rd_T52 l1 x16_1).f1)
              · rw [if_pos c8] at H
                have c8b0 : decide (((rd_T52 l1 x16_1).f1) < ((rd_T52 l1 x16_1).f0)) = true := decide_eq_true c8
                clear c8
                simp only [Option.some.injEq, Prod.mk.injEq] at H
                obtain ⟨rfl, rfl⟩ := H
                have p507 : 0 ≤ (x16_1 : Int) := of_decide_eq_true (by first | (with_reducible assumption) | assumption)
                have q507 : x16_1 < (l1.length : Int) := of_decide_eq_true (by first | (with_reducible assumption) | assumption)
                obtain ⟨ad507, e507, hx507_0, hx507_1⟩ := at_T52 HR1.out x16_1 p507 q507
                cases e507
                replace hx507_0 := (HB.out.cell (World.block_lt_of_cell? w _ hx507_0)).trans hx507_0
                replace hx507_1 := (HB.out.cell (World.block_lt_of_cell? w _ hx507_1)).trans hx507_1
                replace p507 := eq_true p507
                replace q507 := eq_true q507
                go_wp2_with (first | ((with_reducible refine gate_dst (N := 8) rfl ?_); refine box_event ?hg (N := 8) ?hd (cs := #[.int .u64 0, .int .u64 0]) (t := 52) ?hr ?_; (case hd => rfl); (case hg => rfl); (case hr => first | (go_simp; done) | (go_simp; rfl)); intro gb508 hg w9 hbox hb; have n0_ := Aside0.mk (below_step (by repeat (first | (with_reducible first | exact HB.out | apply below_alloc | apply pw_below_drewN | apply below_drew1) | exact HB.out)) hb); have n1_ := Aside0.mk (hbox); have n2_ := Aside0.mk ((by rw [hg]; exact (below_size (by repeat (first | (with_reducible first | exact HB.out | apply below_alloc | apply pw_below_drewN | apply below_drew1) | exact HB.out))) : w.heap.size ≤ gb508)); have n3_ := Aside0.mk ((by rw [hg]; exact (below_size (by repeat (first | (with_reducible first | exact HB.out | apply below_alloc | apply pw_below_drewN | apply below_drew1) | exact HB.out))) : w.heap.size ≤ gb508)); clear HB; have HB := n0_; have BK508 := n1_; have GW508 := n2_; have GE508 := n3_; clear n0_ n1_ n2_ n3_; clear hb hbox hg; have hcz10_0 : w9.cell? ⟨gb508, 0, none⟩ = some (.int .u64 0) := (blk_cell BK508.out 0).trans rfl; have hcz10_1 : w9.cell? ⟨gb508, 1, none⟩ = some (.int .u64 0) := (blk_cell BK508.out 1).trans rfl; have hfz10_0 := blk_frozen BK508.out 0; have hfz10_1 := blk_frozen BK508.out 1))
                repeat (go_quiet (first | ((with_reducible refine gate_dst (N := 8) rfl ?_); refine box_event ?hg (N := 8) ?hd (cs := #[.int .u64 0, .int .u64 0]) (t := 52) ?hr ?_; (case hd => rfl); (case hg => rfl); (case hr => first | (go_simp; done) | (go_simp; rfl)); intro gb508 hg w9 hbox hb; have n0_ := Aside0.mk (below_step (by repeat (first | (with_reducible first | exact HB.out | apply below_alloc | apply pw_below_drewN | apply below_drew1) | exact HB.out)) hb); have n1_ := Aside0.mk (hbox); have n2_ := Aside0.mk ((by rw [hg]; exact (below_size (by repeat (first | (with_reducible first | exact HB.out | apply below_alloc | apply pw_below_drewN | apply below_drew1) | exact HB.out))) : w.heap.size ≤ gb508)); have n3_ := Aside0.mk ((by rw [hg]; exact (below_size (by repeat (first | (with_reducible first | exact HB.out | apply below_alloc | apply pw_below_drewN | apply below_drew1) | exact HB.out))) : w.heap.size ≤ gb508)); clear HB; have HB := n0_; have BK508 := n1_; have GW508 := n2_; have GE508 := n3_; clear n0_ n1_ n2_ n3_; clear hb hbox hg; have hcz10_0 : w9.cell? ⟨gb508, 0, none⟩ = some (.int .u64 0) := (blk_cell BK508.out 0).trans rfl; have hcz10_1 : w9.cell? ⟨gb508, 1, none⟩ = some (.int .u64 0) := (blk_cell BK508.out 1).trans rfl; have hfz10_0 := blk_frozen BK508.out 0; have hfz10_1 := blk_frozen BK508.out 1)); try go_wp2_with (first | ((with_reducible refine gate_dst (N := 8) rfl ?_); refine box_event ?hg (N := 8) ?hd (cs := #[.int .u64 0, .int .u64 0]) (t := 52) ?hr ?_; (case hd => rfl); (case hg => rfl); (case hr => first | (go_simp; done) | (go_simp; rfl)); intro gb508 hg w9 hbox hb; have n0_ := Aside0.mk (below_step (by repeat (first | (with_reducible first | exact HB.out | apply below_alloc | apply pw_below_drewN | apply below_drew1) | exact HB.out)) hb); have n1_ := Aside0.mk (hbox); have n2_ := Aside0.mk ((by rw [hg]; exact (below_size (by repeat (first | (with_reducible first | exact HB.out | apply below_alloc | apply pw_below_drewN | apply below_drew1) | exact HB.out))) : w.heap.size ≤ gb508)); have n3_ := Aside0.mk ((by rw [hg]; exact (below_size (by repeat (first | (with_reducible first | exact HB.out | apply below_alloc | apply pw_below_drewN | apply below_drew1) | exact HB.out))) : w.heap.size ≤ gb508)); clear HB; have HB := n0_; have BK508 := n1_; have GW508 := n2_; have GE508 := n3_; clear n0_ n1_ n2_ n3_; clear hb hbox hg; have hcz10_0 : w9.cell? ⟨gb508, 0, none⟩ = some (.int .u64 0) := (blk_cell BK508.out 0).trans rfl; have hcz10_1 : w9.cell? ⟨gb508, 1, none⟩ = some (.int .u64 0) := (blk_cell BK508.out 1).trans rfl; have hfz10_0 := blk_frozen BK508.out 0; have hfz10_1 := blk_frozen BK508.out 1)))
                go_ret2
                exact ⟨by first | rfl | (simp [errW_none, errW_some] <;> rfl) | (simp [*, errW_none, errW_some] <;> rfl), by repeat (first | (with_reducible first | exact HB.out | apply below_alloc | apply pw_below_drewN | apply below_drew1 | refine below_set ?_ GE508.out) | exact HB.out)⟩
              · rw [if_neg c8] at H
                have c8b0 : decide (((rd_T52 l1 x16_1).f1) < ((rd_T52 l1 x16_1).f0)) = false := decide_eq_false c8
                clear c8
                replace H := Option.bind_eq_some_iff.mp H
                obtain ⟨t509, A110, H⟩ := H
                replace H : (if t509 = true then (if x16_1 > 0 then (if 0 ≤ (wrap64 (x16_1 - 1)) then (if (wrap64 (x16_1 - 1)) < (l1.length : Int) then (if ((rd_T52 l1 (wrap64 (x16_1 - 1))).f1) ≥ ((rd_T52 l1 x16_1).f0) then (some (0, 1)) else (leaf_Many.l0 k1 a0 l1 (IntKind.u64.wrap (x4_1 + (IntKind.u64.wrap ((IntKind.u64.wrap (((rd_T52 l1 x16_1).f1) - ((rd_T52 l1 x16_1).f0))) + 1)))) l1 (l1.length : Int) (wrap64 (x16_1 + 1)))) else (none)) else (none)) else (leaf_Many.l0 k1 a0 l1 (IntKind.u64.wrap (x4_1 + (IntKind.u64.wrap ((IntKind.u64.wrap (((rd_T52 l1 x16_1).f1) - ((rd_T52 l1 x16_1).f0))) + 1)))) l1 (l1.length : Int) (wrap64 (x16_1 + 1)))) else (some (0, 1))) = some (r1, r2) := H
                have A11 := Aside0.mk A110
                clear A110
                by_cases c12 : t509 = true
                · subst c12
                  have H1 : (if x16_1 > 0 then (if 0 ≤ (wrap64 (x16_1 - 1)) then (if (wrap64 (x16_1 - 1)) < (l1.length : Int) then (if ((rd_T52 l1 (wrap64 (x16_1 - 1))).f1) ≥ ((rd_T52 l1 x16_1).f0) then (some (0, 1)) else (leaf_Many.l0 k1 a0 l1 (IntKind.u64.wrap (x4_1 + (IntKind.u64.wrap ((IntKind.u64.wrap (((rd_T52 l1 x16_1).f1) - ((rd_T52 l1 x16_1).f0))) + 1)))) l1 (l1.length : Int) (wrap64 (x16_1 + 1)))) else (none)) else (none)) else (leaf_Many.l0 k1 a0 l1 (IntKind.u64.wrap (x4_1 + (IntKind.u64.wrap ((IntKind.u64.wrap (((rd_T52 l1 x16_1).f1) - ((rd_T52 l1 x16_1).f0))) + 1)))) l1 (l1.length : Int) (wrap64 (x16_1 + 1)))) = some (r1, r2) := by rw [if_pos rfl] at H; exact H
                  clear H
                  have H := H1
                  clear H1
                  by_cases c13 : x16_1 > 0
                  · rw [if_pos c13] at H
                    have c13b0 : decide (0 < x16_1) = true := decide_eq_true c13
                    clear c13
                    obtain ⟨ji14, hji14⟩ : ∃ j_ : Int, (wrap64 (x16_1 - 1)) = j_ := ⟨_, rfl⟩
                    replace H : (if 0 ≤ (ji14) then (if (ji14) < (l1.length : Int) then (if ((rd_T52 l1 (ji14)).f1) ≥ ((rd_T52 l1 x16_1).f0) then (some (0, 1)) else (leaf_Many.l0 k1 a0 l1 (IntKind.u64.wrap (x4_1 + (IntKind.u64.wrap ((IntKind.u64.wrap (((rd_T52 l1 x16_1).f1) - ((rd_T52 l1 x16_1).f0))) + 1)))) l1 (l1.length : Int) (wrap64 (x16_1 + 1)))) else (none)) else (none)) = some (r1, r2) := by first | (rw [hji14] at H; exact H) | (simp only [hji14] at H ⊢; exact H)
                    (try rw [hji14] at A11)
                    have hji14w : (IntKind.i64.wrap (x16_1 - 1)) = ji14 := (i64_w _).trans hji14
                    by_cases c15 : 0 ≤ (ji14)
                    · rw [if_pos c15] at H
                      have c15b0 : decide (0 ≤ (ji14)) = true := decide_eq_true c15
                      clear c15
                      by_cases c16 : (ji14) < (l1.length : Int)
                      · rw [if_pos c16] at H
                        have c16b0 : decide ((ji14) < (l1.length : Int)) = true := decide_eq_true c16
                        clear c16
                        by_cases c17 : ((rd_T52 l1 (ji14)).f1) ≥ ((rd_T52 l1 x16_1).f0)
                        · rw [if_pos c17] at H
                          have c17b0 : decide (((rd_T52 l1 x16_1).f0) ≤ ((rd_T52 l1 (ji14)).f1)) = true := decide_eq_true c17
                          clear c17
                          simp only [Option.some.injEq, Prod.mk.injEq] at H
                          obtain ⟨rfl, rfl⟩ := H
                          have p507 : 0 ≤ (x16_1 : Int) := of_decide_eq_true (by first | (with_reducible assumption) | assumption)
                          have q507 : x16_1 < (l1.length : Int) := of_decide_eq_true (by first | (with_reducible assumption) | assumption)
                          obtain ⟨ad507, e507, hx507_0, hx507_1⟩ := at_T52 HR1.out x16_1 p507 q507
                          cases e507
                          replace hx507_0 := (HB.out.cell (World.block_lt_of_cell? w _ hx507_0)).trans hx507_0
                          replace hx507_1 := (HB.out.cell (World.block_lt_of_cell? w _ hx507_1)).trans hx507_1
                          replace p507 := eq_true p507
                          replace q507 := eq_true q507
                          go_wp2_with (first | ((with_reducible refine gate_dst (N := 8) rfl ?_); refine box_event ?hg (N := 8) ?hd (cs := #[.int .u64 0, .int .u64 0]) (t := 52) ?hr ?_; (case hd => rfl); (case hg => rfl); (case hr => first | (go_simp; done) | (go_simp; rfl)); intro gb508 hg w18 hbox hb; have n0_ := Aside0.mk (below_step (by repeat (first | (with_reducible first | exact HB.out | apply below_alloc | apply pw_below_drewN | apply below_drew1) | exact HB.out)) hb); have n1_ := Aside0.mk (hbox); have n2_ := Aside0.mk ((by rw [hg]; exact (below_size (by repeat (first | (with_reducible first | exact HB.out | apply below_alloc | apply pw_below_drewN | apply below_drew1) | exact HB.out))) : w.heap.size ≤ gb508)); have n3_ := Aside0.mk ((by rw [hg]; exact (below_size (by repeat (first | (with_reducible first | exact HB.out | apply below_alloc | apply pw_below_drewN | apply below_drew1) | exact HB.out))) : w.heap.size ≤ gb508)); clear HB; have HB := n0_; have BK508 := n1_; have GW508 := n2_; have GE508 := n3_; clear n0_ n1_ n2_ n3_; clear hb hbox hg; have hcz19_0 : w18.cell? ⟨gb508, 0, none⟩ = some (.int .u64 0) := (blk_cell BK508.out 0).trans rfl; have hcz19_1 : w18.cell? ⟨gb508, 1, none⟩ = some (.int .u64 0) := (blk_cell BK508.out 1).trans rfl; have hfz19_0 := blk_frozen BK508.out 0; have hfz19_1 := blk_frozen BK508.out 1) | (go_at_call 65; (with_reducible refine (leaf_is.calls a0 ((rd_T52 l1 x16_1).f1) true _ A11.out).mono ?_); rintro e w' ⟨rfl, ⟨nd, rfl⟩⟩; (try first | exact ⟨rfl, _, World.drewN_drewN _ _ _⟩ | exact ⟨rfl, _, Eq.trans (World.drewN_drewN _ _ _) (congrArg (World.drewN _) (Nat.add_assoc _ _ _))⟩); have p510 : 0 ≤ ((ji14) : Int) := of_decide_eq_true (by first | (with_reducible assumption) | assumption); have q510 : (ji14) < (l1.length : Int) := of_decide_eq_true (by first | (with_reducible assumption) | assumption); obtain ⟨ad510, e510, hx510_0, hx510_1⟩ := at_T52 HR1.out (ji14) p510 q510; obtain rfl : ad507 = ad510 := (by injection e510); have hn510_0 : ad507.block ≠ gb508 := Nat.ne_of_lt (Nat.lt_of_lt_of_le (by have := World.block_lt_of_cell? _ _ hx510_0; first | rwa [add_block] at this | exact this) GW508.out); have hn510_1 : ad507.block ≠ gb508 := Nat.ne_of_lt (Nat.lt_of_lt_of_le (by have := World.block_lt_of_cell? _ _ hx510_0; first | rwa [add_block] at this | exact this) GW508.out); replace hx510_0 := (HB.out.cell (World.block_lt_of_cell? w _ hx510_0)).trans hx510_0; replace hx510_1 := (HB.out.cell (World.block_lt_of_cell? w _ hx510_1)).trans hx510_1; replace hx510_0 := (cell_far (p := ⟨gb508, 0, none⟩) (by first | (rw [add_block]; exact hn510_0) | (show (Addr.add _ _).block ≠ _; rw [add_block]; exact hn510_0) | exact hn510_0) (.int .u64 ((rd_T52 l1 x16_1).f0))).trans hx510_0; replace hx510_1 := (cell_far (p := ⟨gb508, 0, none⟩) (by first | (rw [add_block]; exact hn510_0) | (show (Addr.add _ _).block ≠ _; rw [add_block]; exact hn510_0) | exact hn510_0) (.int .u64 ((rd_T52 l1 x16_1).f0))).trans hx510_1; replace hx510_0 := (cell_far (p := ⟨gb508, 1, none⟩) (by first | (rw [add_block]; exact hn510_1) | (show (Addr.add _ _).block ≠ _; rw [add_block]; exact hn510_1) | exact hn510_1) (.int .u64 ((rd_T52 l1 x16_1).f1))).trans hx510_0; replace hx510_1 := (cell_far (p := ⟨gb508, 1, none⟩) (by first | (rw [add_block]; exact hn510_1) | (show (Addr.add _ _).block ≠ _; rw [add_block]; exact hn510_1) | exact hn510_1) (.int .u64 ((rd_T52 l1 x16_1).f1))).trans hx510_1; (try have hy510_0 := fun (n_ : Nat) => (show ((((w18.drewN n_).setCell ⟨gb508, 0, none⟩ (.int .u64 ((rd_T52 l1 x16_1).f0))).setCell ⟨gb508, 1, none⟩ (.int .u64 ((rd_T52 l1 x16_1).f1)))).cell? _ = some _ from hx510_0)); (try have hy510_1 := fun (n_ : Nat) => (show ((((w18.drewN n_).setCell ⟨gb508, 0, none⟩ (.int .u64 ((rd_T52 l1 x16_1).f0))).setCell ⟨gb508, 1, none⟩ (.int .u64 ((rd_T52 l1 x16_1).f1)))).cell? _ = some _ from hx510_1)); clear hn510_0; clear hn510_1; replace p510 := eq_true p510; replace q510 := eq_true q510))
                          repeat (go_quiet (first | ((with_reducible refine gate_dst (N := 8) rfl ?_); refine box_event ?hg (N := 8) ?hd (cs := #[.int .u64 0, .int .u64 0]) (t := 52) ?hr ?_; (case hd => rfl); (case hg => rfl); (case hr => first | (go_simp; done) | (go_simp; rfl)); intro gb508 hg w18 hbox hb; have n0_ := Aside0.mk (below_step (by repeat (first | (with_reducible first | exact HB.out | apply below_alloc | apply pw_below_drewN | apply below_drew1) | exact HB.out)) hb); have n1_ := Aside0.mk (hbox); have n2_ := Aside0.mk ((by rw [hg]; exact (below_size (by repeat (first | (with_reducible first | exact HB.out | apply below_alloc | apply pw_below_drewN | apply below_drew1) | exact HB.out))) : w.heap.size ≤ gb508)); have n3_ := Aside0.mk ((by rw [hg]; exact (below_size (by repeat (first | (with_reducible first | exact HB.out | apply below_alloc | apply pw_below_drewN | apply below_drew1) | exact HB.out))) : w.heap.size ≤ gb508)); clear HB; have HB := n0_; have BK508 := n1_; have GW508 := n2_; have GE508 := n3_; clear n0_ n1_ n2_ n3_; clear hb hbox hg; have hcz19_0 : w18.cell? ⟨gb508, 0, none⟩ = some (.int .u64 0) := (blk_cell BK508.out 0).trans rfl; have hcz19_1 : w18.cell? ⟨gb508, 1, none⟩ = some (.int .u64 0) := (blk_cell BK508.out 1).trans rfl; have hfz19_0 := blk_frozen BK508.out 0; have hfz19_1 := blk_frozen BK508.out 1) | (go_at_call 65; (with_reducible refine (leaf_is.calls a0 ((rd_T52 l1 x16_1).f1) true _ A11.out).mono ?_); rintro e w' ⟨rfl, ⟨nd, rfl⟩⟩; (try first | exact ⟨rfl, _, World.drewN_drewN _ _ _⟩ | exact ⟨rfl, _, Eq.trans (World.drewN_drewN _ _ _) (congrArg (World.drewN _) (Nat.add_assoc _ _ _))⟩); have p510 : 0 ≤ ((ji14) : Int) := of_decide_eq_true (by first | (with_reducible assumption) | assumption); have q510 : (ji14) < (l1.length : Int) := of_decide_eq_true (by first | (with_reducible assumption) | assumption); obtain ⟨ad510, e510, hx510_0, hx510_1⟩ := at_T52 HR1.out (ji14) p510 q510; obtain rfl : ad507 = ad510 := (by injection e510); have hn510_0 : ad507.block ≠ gb508 := Nat.ne_of_lt (Nat.lt_of_lt_of_le (by have := World.block_lt_of_cell? _ _ hx510_0; first | rwa [add_block] at this | exact this) GW508.out); have hn510_1 : ad507.block ≠ gb508 := Nat.ne_of_lt (Nat.lt_of_lt_of_le (by have := World.block_lt_of_cell? _ _ hx510_0; first | rwa [add_block] at this | exact this) GW508.out); replace hx510_0 := (HB.out.cell (World.block_lt_of_cell? w _ hx510_0)).trans hx510_0; replace hx510_1 := (HB.out.cell (World.block_lt_of_cell? w _ hx510_1)).trans hx510_1; replace hx510_0 := (cell_far (p := ⟨gb508, 0, none⟩) (by first | (rw [add_block]; exact hn510_0) | (show (Addr.add _ _).block ≠ _; rw [add_block]; exact hn510_0) | exact hn510_0) (.int .u64 ((rd_T52 l1 x16_1).f0))).trans hx510_0; replace hx510_1 := (cell_far (p := ⟨gb508, 0, none⟩) (by first | (rw [add_block]; exact hn510_0) | (show (Addr.add _ _).block ≠ _; rw [add_block]; exact hn510_0) | exact hn510_0) (.int .u64 ((rd_T52 l1 x16_1).f0))).trans hx510_1; replace hx510_0 := (cell_far (p := ⟨gb508, 1, none⟩) (by first | (rw [add_block]; exact hn510_1) | (show (Addr.add _ _).block ≠ _; rw [add_block]; exact hn510_1) | exact hn510_1) (.int .u64 ((rd_T52 l1 x16_1).f1))).trans hx510_0; replace hx510_1 := (cell_far (p := ⟨gb508, 1, none⟩) (by first | (rw [add_block]; exact hn510_1) | (show (Addr.add _ _).block ≠ _; rw [add_block]; exact hn510_1) | exact hn510_1) (.int .u64 ((rd_T52 l1 x16_1).f1))).trans hx510_1; (try have hy510_0 := fun (n_ : Nat) => (show ((((w18.drewN n_).setCell ⟨gb508, 0, none⟩ (.int .u64 ((rd_T52 l1 x16_1).f0))).setCell ⟨gb508, 1, none⟩ (.int .u64 ((rd_T52 l1 x16_1).f1)))).cell? _ = some _ from hx510_0)); (try have hy510_1 := fun (n_ : Nat) => (show ((((w18.drewN n_).setCell ⟨gb508, 0, none⟩ (.int .u64 ((rd_T52 l1 x16_1).f0))).setCell ⟨gb508, 1, none⟩ (.int .u64 ((rd_T52 l1 x16_1).f1)))).cell? _ = some _ from hx510_1)); clear hn510_0; clear hn510_1; replace p510 := eq_true p510; replace q510 := eq_true q510)); try go_wp2_with (first | ((with_reducible refine gate_dst (N := 8) rfl ?_); refine box_event ?hg (N := 8) ?hd (cs := #[.int .u64 0, .int .u64 0]) (t := 52) ?hr ?_; (case hd => rfl); (case hg => rfl); (case hr => first | (go_simp; done) | (go_simp; rfl)); intro gb508 hg w18 hbox hb; have n0_ := Aside0.mk (below_step (by repeat (first | (with_reducible first | exact HB.out | apply below_alloc | apply pw_below_drewN | apply below_drew1) | exact HB.out)) hb); have n1_ := Aside0.mk (hbox); have n2_ := Aside0.mk ((by rw [hg]; exact (below_size (by repeat (first | (with_reducible first | exact HB.out | apply below_alloc | apply pw_below_drewN | apply below_drew1) | exact HB.out))) : w.heap.size ≤ gb508)); have n3_ := Aside0.mk ((by rw [hg]; exact (below_size (by repeat (first | (with_reducible first | exact HB.out | apply below_alloc | apply pw_below_drewN | apply below_drew1) | exact HB.out))) : w.heap.size ≤ gb508)); clear HB; have HB := n0_; have BK508 := n1_; have GW508 := n2_; have GE508 := n3_; clear n0_ n1_ n2_ n3_; clear hb hbox hg; have hcz19_0 : w18.cell? ⟨gb508, 0, none⟩ = some (.int .u64 0) := (blk_cell BK508.out 0).trans rfl; have hcz19_1 : w18.cell? ⟨gb508, 1, none⟩ = some (.int .u64 0) := (blk_cell BK508.out 1).trans rfl; have hfz19_0 := blk_frozen BK508.out 0; have hfz19_1 := blk_frozen BK508.out 1) | (go_at_call 65; (with_reducible refine (leaf_is.calls a0 ((rd_T52 l1 x16_1).f1) true _ A11.out).mono ?_); rintro e w' ⟨rfl, ⟨nd, rfl⟩⟩; (try first | exact ⟨rfl, _, World.drewN_drewN _ _ _⟩ | exact ⟨rfl, _, Eq.trans (World.drewN_drewN _ _ _) (congrArg (World.drewN _) (Nat.add_assoc _ _ _))⟩); have p510 : 0 ≤ ((ji14) : Int) := of_decide_eq_true (by first | (with_reducible assumption) | assumption); have q510 : (ji14) < (l1.length : Int) := of_decide_eq_true (by first | (with_reducible assumption) | assumption); obtain ⟨ad510, e510, hx510_0, hx510_1⟩ := at_T52 HR1.out (ji14) p510 q510; obtain rfl : ad507 = ad510 := (by injection e510); have hn510_0 : ad507.block ≠ gb508 := Nat.ne_of_lt (Nat.lt_of_lt_of_le (by have := World.block_lt_of_cell? _ _ hx510_0; first | rwa [add_block] at this | exact this) GW508.out); have hn510_1 : ad507.block ≠ gb508 := Nat.ne_of_lt (Nat.lt_of_lt_of_le (by have := World.block_lt_of_cell? _ _ hx510_0; first | rwa [add_block] at this | exact this) GW508.out); replace hx510_0 := (HB.out.cell (World.block_lt_of_cell? w _ hx510_0)).trans hx510_0; replace hx510_1 := (HB.out.cell (World.block_lt_of_cell? w _ hx510_1)).trans hx510_1; replace hx510_0 := (cell_far (p := ⟨gb508, 0, none⟩) (by first | (rw [add_block]; exact hn510_0) | (show (Addr.add _ _).block ≠ _; rw [add_block]; exact hn510_0) | exact hn510_0) (.int .u64 ((rd_T52 l1 x16_1).f0))).trans hx510_0; replace hx510_1 := (cell_far (p := ⟨gb508, 0, none⟩) (by first | (rw [add_block]; exact hn510_0) | (show (Addr.add _ _).block ≠ _; rw [add_block]; exact hn510_0) | exact hn510_0) (.int .u64 ((rd_T52 l1 x16_1).f0))).trans hx510_1; replace hx510_0 := (cell_far (p := ⟨gb508, 1, none⟩) (by first | (rw [add_block]; exact hn510_1) | (show (Addr.add _ _).block ≠ _; rw [add_block]; exact hn510_1) | exact hn510_1) (.int .u64 ((rd_T52 l1 x16_1).f1))).trans hx510_0; replace hx510_1 := (cell_far (p := ⟨gb508, 1, none⟩) (by first | (rw [add_block]; exact hn510_1) | (show (Addr.add _ _).block ≠ _; rw [add_block]; exact hn510_1) | exact hn510_1) (.int .u64 ((rd_T52 l1 x16_1).f1))).trans hx510_1; (try have hy510_0 := fun (n_ : Nat) => (show ((((w18.drewN n_).setCell ⟨gb508, 0, none⟩ (.int .u64 ((rd_T52 l1 x16_1).f0))).setCell ⟨gb508, 1, none⟩ (.int .u64 ((rd_T52 l1 x16_1).f1)))).cell? _ = some _ from hx510_0)); (try have hy510_1 := fun (n_ : Nat) => (show ((((w18.drewN n_).setCell ⟨gb508, 0, none⟩ (.int .u64 ((rd_T52 l1 x16_1).f0))).setCell ⟨gb508, 1, none⟩ (.int .u64 ((rd_T52 l1 x16_1).f1)))).cell? _ = some _ from hx510_1)); clear hn510_0; clear hn510_1; replace p510 := eq_true p510; replace q510 := eq_true q510)))
                          go_ret2
                          exact ⟨by first | rfl | (simp [errW_none, errW_some] <;> rfl) | (simp only [← hji14]; first | rfl | (simp [errW_none, errW_some] <;> rfl)) | (simp [*, errW_none, errW_some] <;> rfl), by repeat (first | (with_reducible first | exact HB.out | apply below_alloc | apply pw_below_drewN | apply below_drew1 | refine below_set ?_ GE508.out) | exact HB.out)⟩
                        · rw [if_neg c17] at H
                          have c17b0 : decide (((rd_T52 l1 x16_1).f0) ≤ ((rd_T52 l1 (ji14)).f1)) = false := decide_eq_false c17
                          clear c17
                          have H' := Aside0.mk H
                          clear H
                          have p507 : 0 ≤ (x16_1 : Int) := of_decide_eq_true (by first | (with_reducible assumption) | assumption)
                          have q507 : x16_1 < (l1.length : Int) := of_decide_eq_true (by first | (with_reducible assumption) | assumption)
                          obtain ⟨ad507, e507, hx507_0, hx507_1⟩ := at_T52 HR1.out x16_1 p507 q507
                          cases e507
                          replace hx507_0 := (HB.out.cell (World.block_lt_of_cell? w _ hx507_0)).trans hx507_0
                          replace hx507_1 := (HB.out.cell (World.block_lt_of_cell? w _ hx507_1)).trans hx507_1
                          replace p507 := eq_true p507
                          replace q507 := eq_true q507
                          go_wp2_with (first | ((with_reducible refine gate_dst (N := 8) rfl ?_); refine box_event ?hg (N := 8) ?hd (cs := #[.int .u64 0, .int .u64 0]) (t := 52) ?hr ?_; (case hd => rfl); (case hg => rfl); (case hr => first | (go_simp; done) | (go_simp; rfl)); intro gb508 hg w20 hbox hb; have n0_ := Aside0.mk (below_step (by repeat (first | (with_reducible first | exact HB.out | apply below_alloc | apply pw_below_drewN | apply below_drew1) | exact HB.out)) hb); have n1_ := Aside0.mk (hbox); have n2_ := Aside0.mk ((by rw [hg]; exact (below_size (by repeat (first | (with_reducible first | exact HB.out | apply below_alloc | apply pw_below_drewN | apply below_drew1) | exact HB.out))) : w.heap.size ≤ gb508)); have n3_ := Aside0.mk ((by rw [hg]; exact (below_size (by repeat (first | (with_reducible first | exact HB.out | apply below_alloc | apply pw_below_drewN | apply below_drew1) | exact HB.out))) : w.heap.size ≤ gb508)); clear HB; have HB := n0_; have BK508 := n1_; have GW508 := n2_; have GE508 := n3_; clear n0_ n1_ n2_ n3_; clear hb hbox hg; have hcz21_0 : w20.cell? ⟨gb508, 0, none⟩ = some (.int .u64 0) := (blk_cell BK508.out 0).trans rfl; have hcz21_1 : w20.cell? ⟨gb508, 1, none⟩ = some (.int .u64 0) := (blk_cell BK508.out 1).trans rfl; have hfz21_0 := blk_frozen BK508.out 0; have hfz21_1 := blk_frozen BK508.out 1) | (go_at_call 65; (with_reducible refine (leaf_is.calls a0 ((rd_T52 l1 x16_1).f1) true _ A11.out).mono ?_); rintro e w' ⟨rfl, ⟨nd, rfl⟩⟩; (try first | exact ⟨rfl, _, World.drewN_drewN _ _ _⟩ | exact ⟨rfl, _, Eq.trans (World.drewN_drewN _ _ _) (congrArg (World.drewN _) (Nat.add_assoc _ _ _))⟩); have p510 : 0 ≤ ((ji14) : Int) := of_decide_eq_true (by first | (with_reducible assumption) | assumption); have q510 : (ji14) < (l1.length : Int) := of_decide_eq_true (by first | (with_reducible assumption) | assumption); obtain ⟨ad510, e510, hx510_0, hx510_1⟩ := at_T52 HR1.out (ji14) p510 q510; obtain rfl : ad507 = ad510 := (by injection e510); have hn510_0 : ad507.block ≠ gb508 := Nat.ne_of_lt (Nat.lt_of_lt_of_le (by have := World.block_lt_of_cell? _ _ hx510_0; first | rwa [add_block] at this | exact this) GW508.out); have hn510_1 : ad507.block ≠ gb508 := Nat.ne_of_lt (Nat.lt_of_lt_of_le (by have := World.block_lt_of_cell? _ _ hx510_0; first | rwa [add_block] at this | exact this) GW508.out); replace hx510_0 := (HB.out.cell (World.block_lt_of_cell? w _ hx510_0)).trans hx510_0; replace hx510_1 := (HB.out.cell (World.block_lt_of_cell? w _ hx510_1)).trans hx510_1; replace hx510_0 := (cell_far (p := ⟨gb508, 0, none⟩) (by first | (rw [add_block]; exact hn510_0) | (show (Addr.add _ _).block ≠ _; rw [add_block]; exact hn510_0) | exact hn510_0) (.int .u64 ((rd_T52 l1 x16_1).f0))).trans hx510_0; replace hx510_1 := (cell_far (p := ⟨gb508, 0, none⟩) (by first | (rw [add_block]; exact hn510_0) | (show (Addr.add _ _).block ≠ _; rw [add_block]; exact hn510_0) | exact hn510_0) (.int .u64 ((rd_T52 l1 x16_1).f0))).trans hx510_1; replace hx510_0 := (cell_far (p := ⟨gb508, 1, none⟩) (by first | (rw [add_block]; exact hn510_1) | (show (Addr.add _ _).block ≠ _; rw [add_block]; exact hn510_1) | exact hn510_1) (.int .u64 ((rd_T52 l1 x16_1).f1))).trans hx510_0; replace hx510_1 := (cell_far (p := ⟨gb508, 1, none⟩) (by first | (rw [add_block]; exact hn510_1) | (show (Addr.add _ _).block ≠ _; rw [add_block]; exact hn510_1) | exact hn510_1) (.int .u64 ((rd_T52 l1 x16_1).f1))).trans hx510_1; (try have hy510_0 := fun (n_ : Nat) => (show ((((w20.drewN n_).setCell ⟨gb508, 0, none⟩ (.int .u64 ((rd_T52 l1 x16_1).f0))).setCell ⟨gb508, 1, none⟩ (.int .u64 ((rd_T52 l1 x16_1).f1)))).cell? _ = some _ from hx510_0)); (try have hy510_1 := fun (n_ : Nat) => (show ((((w20.drewN n_).setCell ⟨gb508, 0, none⟩ (.int .u64 ((rd_T52 l1 x16_1).f0))).setCell ⟨gb508, 1, none⟩ (.int .u64 ((rd_T52 l1 x16_1).f1)))).cell? _ = some _ from hx510_1)); clear hn510_0; clear hn510_1; replace p510 := eq_true p510; replace q510 := eq_true q510))
                          repeat (go_quiet (first | ((with_reducible refine gate_dst (N := 8) rfl ?_); refine box_event ?hg (N := 8) ?hd (cs := #[.int .u64 0, .int .u64 0]) (t := 52) ?hr ?_; (case hd => rfl); (case hg => rfl); (case hr => first | (go_simp; done) | (go_simp; rfl)); intro gb508 hg w20 hbox hb; have n0_ := Aside0.mk (below_step (by repeat (first | (with_reducible first | exact HB.out | apply below_alloc | apply pw_below_drewN | apply below_drew1) | exact HB.out)) hb); have n1_ := Aside0.mk (hbox); have n2_ := Aside0.mk ((by rw [hg]; exact (below_size (by repeat (first | (with_reducible first | exact HB.out | apply below_alloc | apply pw_below_drewN | apply below_drew1) | exact HB.out))) : w.heap.size ≤ gb508)); have n3_ := Aside0.mk ((by rw [hg]; exact (below_size (by repeat (first | (with_reducible first | exact HB.out | apply below_alloc | apply pw_below_drewN | apply below_drew1) | exact HB.out))) : w.heap.size ≤ gb508)); clear HB; have HB := n0_; have BK508 := n1_; have GW508 := n2_; have GE508 := n3_; clear n0_ n1_ n2_ n3_; clear hb hbox hg; have hcz21_0 : w20.cell? ⟨gb508, 0, none⟩ = some (.int .u64 0) := (blk_cell BK508.out 0).trans rfl; have hcz21_1 : w20.cell? ⟨gb508, 1, none⟩ = some (.int .u64 0) := (blk_cell BK508.out 1).trans rfl; have hfz21_0 := blk_frozen BK508.out 0; have hfz21_1 := blk_frozen BK508.out 1) | (go_at_call 65; (with_reducible refine (leaf_is.calls a0 ((rd_T52 l1 x16_1).f1) true _ A11.out).mono ?_); rintro e w' ⟨rfl, ⟨nd, rfl⟩⟩; (try first | exact ⟨rfl, _, World.drewN_drewN _ _ _⟩ | exact ⟨rfl, _, Eq.trans (World.drewN_drewN _ _ _) (congrArg (World.drewN _) (Nat.add_assoc _ _ _))⟩); have p510 : 0 ≤ ((ji14) : Int) := of_decide_eq_true (by first | (with_reducible assumption) | assumption); have q510 : (ji14) < (l1.length : Int) := of_decide_eq_true (by first | (with_reducible assumption) | assumption); obtain ⟨ad510, e510, hx510_0, hx510_1⟩ := at_T52 HR1.out (ji14) p510 q510; obtain rfl : ad507 = ad510 := (by injection e510); have hn510_0 : ad507.block ≠ gb508 := Nat.ne_of_lt (Nat.lt_of_lt_of_le (by have := World.block_lt_of_cell? _ _ hx510_0; first | rwa [add_block] at this | exact this) GW508.out); have hn510_1 : ad507.block ≠ gb508 := Nat.ne_of_lt (Nat.lt_of_lt_of_le (by have := World.block_lt_of_cell? _ _ hx510_0; first | rwa [add_block] at this | exact this) GW508.out); replace hx510_0 := (HB.out.cell (World.block_lt_of_cell? w _ hx510_0)).trans hx510_0; replace hx510_1 := (HB.out.cell (World.block_lt_of_cell? w _ hx510_1)).trans hx510_1; replace hx510_0 := (cell_far (p := ⟨gb508, 0, none⟩) (by first | (rw [add_block]; exact hn510_0) | (show (Addr.add _ _).block ≠ _; rw [add_block]; exact hn510_0) | exact hn510_0) (.int .u64 ((rd_T52 l1 x16_1).f0))).trans hx510_0; replace hx510_1 := (cell_far (p := ⟨gb508, 0, none⟩) (by first | (rw [add_block]; exact hn510_0) | (show (Addr.add _ _).block ≠ _; rw [add_block]; exact hn510_0) | exact hn510_0) (.int .u64 ((rd_T52 l1 x16_1).f0))).trans hx510_1; replace hx510_0 := (cell_far (p := ⟨gb508, 1, none⟩) (by first | (rw [add_block]; exact hn510_1) | (show (Addr.add _ _).block ≠ _; rw [add_block]; exact hn510_1) | exact hn510_1) (.int .u64 ((rd_T52 l1 x16_1).f1))).trans hx510_0; replace hx510_1 := (cell_far (p := ⟨gb508, 1, none⟩) (by first | (rw [add_block]; exact hn510_1) | (show (Addr.add _ _).block ≠ _; rw [add_block]; exact hn510_1) | exact hn510_1) (.int .u64 ((rd_T52 l1 x16_1).f1))).trans hx510_1; (try have hy510_0 := fun (n_ : Nat) => (show ((((w20.drewN n_).setCell ⟨gb508, 0, none⟩ (.int .u64 ((rd_T52 l1 x16_1).f0))).setCell ⟨gb508, 1, none⟩ (.int .u64 ((rd_T52 l1 x16_1).f1)))).cell? _ = some _ from hx510_0)); (try have hy510_1 := fun (n_ : Nat) => (show ((((w20.drewN n_).setCell ⟨gb508, 0, none⟩ (.int .u64 ((rd_T52 l1 x16_1).f0))).setCell ⟨gb508, 1, none⟩ (.int .u64 ((rd_T52 l1 x16_1).f1)))).cell? _ = some _ from hx510_1)); clear hn510_0; clear hn510_1; replace p510 := eq_true p510; replace q510 := eq_true q510)); try go_wp2_with (first | ((with_reducible refine gate_dst (N := 8) rfl ?_); refine box_event ?hg (N := 8) ?hd (cs := #[.int .u64 0, .int .u64 0]) (t := 52) ?hr ?_; (case hd => rfl); (case hg => rfl); (case hr => first | (go_simp; done) | (go_simp; rfl)); intro gb508 hg w20 hbox hb; have n0_ := Aside0.mk (below_step (by repeat (first | (with_reducible first | exact HB.out | apply below_alloc | apply pw_below_drewN | apply below_drew1) | exact HB.out)) hb); have n1_ := Aside0.mk (hbox); have n2_ := Aside0.mk ((by rw [hg]; exact (below_size (by repeat (first | (with_reducible first | exact HB.out | apply below_alloc | apply pw_below_drewN | apply below_drew1) | exact HB.out))) : w.heap.size ≤ gb508)); have n3_ := Aside0.mk ((by rw [hg]; exact (below_size (by repeat (first | (with_reducible first | exact HB.out | apply below_alloc | apply pw_below_drewN | apply below_drew1) | exact HB.out))) : w.heap.size ≤ gb508)); clear HB; have HB := n0_; have BK508 := n1_; have GW508 := n2_; have GE508 := n3_; clear n0_ n1_ n2_ n3_; clear hb hbox hg; have hcz21_0 : w20.cell? ⟨gb508, 0, none⟩ = some (.int .u64 0) := (blk_cell BK508.out 0).trans rfl; have hcz21_1 : w20.cell? ⟨gb508, 1, none⟩ = some (.int .u64 0) := (blk_cell BK508.out 1).trans rfl; have hfz21_0 := blk_frozen BK508.out 0; have hfz21_1 := blk_frozen BK508.out 1) | (go_at_call 65; (with_reducible refine (leaf_is.calls a0 ((rd_T52 l1 x16_1).f1) true _ A11.out).mono ?_); rintro e w' ⟨rfl, ⟨nd, rfl⟩⟩; (try first | exact ⟨rfl, _, World.drewN_drewN _ _ _⟩ | exact ⟨rfl, _, Eq.trans (World.drewN_drewN _ _ _) (congrArg (World.drewN _) (Nat.add_assoc _ _ _))⟩); have p510 : 0 ≤ ((ji14) : Int) := of_decide_eq_true (by first | (with_reducible assumption) | assumption); have q510 : (ji14) < (l1.length : Int) := of_decide_eq_true (by first | (with_reducible assumption) | assumption); obtain ⟨ad510, e510, hx510_0, hx510_1⟩ := at_T52 HR1.out (ji14) p510 q510; obtain rfl : ad507 = ad510 := (by injection e510); have hn510_0 : ad507.block ≠ gb508 := Nat.ne_of_lt (Nat.lt_of_lt_of_le (by have := World.block_lt_of_cell? _ _ hx510_0; first | rwa [add_block] at this | exact this) GW508.out); have hn510_1 : ad507.block ≠ gb508 := Nat.ne_of_lt (Nat.lt_of_lt_of_le (by have := World.block_lt_of_cell? _ _ hx510_0; first | rwa [add_block] at this | exact this) GW508.out); replace hx510_0 := (HB.out.cell (World.block_lt_of_cell? w _ hx510_0)).trans hx510_0; replace hx510_1 := (HB.out.cell (World.block_lt_of_cell? w _ hx510_1)).trans hx510_1; replace hx510_0 := (cell_far (p := ⟨gb508, 0, none⟩) (by first | (rw [add_block]; exact hn510_0) | (show (Addr.add _ _).block ≠ _; rw [add_block]; exact hn510_0) | exact hn510_0) (.int .u64 ((rd_T52 l1 x16_1).f0))).trans hx510_0; replace hx510_1 := (cell_far (p := ⟨gb508, 0, none⟩) (by first | (rw [add_block]; exact hn510_0) | (show (Addr.add _ _).block ≠ _; rw [add_block]; exact hn510_0) | exact hn510_0) (.int .u64 ((rd_T52 l1 x16_1).f0))).trans hx510_1; replace hx510_0 := (cell_far (p := ⟨gb508, 1, none⟩) (by first | (rw [add_block]; exact hn510_1) | (show (Addr.add _ _).block ≠ _; rw [add_block]; exact hn510_1) | exact hn510_1) (.int .u64 ((rd_T52 l1 x16_1).f1))).trans hx510_0; replace hx510_1 := (cell_far (p := ⟨gb508, 1, none⟩) (by first | (rw [add_block]; exact hn510_1) | (show (Addr.add _ _).block ≠ _; rw [add_block]; exact hn510_1) | exact hn510_1) (.int .u64 ((rd_T52 l1 x16_1).f1))).trans hx510_1; (try have hy510_0 := fun (n_ : Nat) => (show ((((w20.drewN n_).setCell ⟨gb508, 0, none⟩ (.int .u64 ((rd_T52 l1 x16_1).f0))).setCell ⟨gb508, 1, none⟩ (.int .u64 ((rd_T52 l1 x16_1).f1)))).cell? _ = some _ from hx510_0)); (try have hy510_1 := fun (n_ : Nat) => (show ((((w20.drewN n_).setCell ⟨gb508, 0, none⟩ (.int .u64 ((rd_T52 l1 x16_1).f0))).setCell ⟨gb508, 1, none⟩ (.int .u64 ((rd_T52 l1 x16_1).f1)))).cell? _ = some _ from hx510_1)); clear hn510_0; clear hn510_1; replace p510 := eq_true p510; replace q510 := eq_true q510)))
                          go_roundg k1
                          case measure => have := HK1.out; omega
                          case rel => exact ⟨(IntKind.u64.wrap (x4_1 + (IntKind.u64.wrap ((IntKind.u64.wrap (((rd_T52 l1 x16_1).f1) - ((rd_T52 l1 x16_1).f0))) + 1)))), (wrap64 (x16_1 + 1)), (by first | rfl | (simp; done) | (simp [*]; done)), (by first | rfl | (simp; done) | (simp [*]; done)), H', ⟨by have := HK1.out; omega⟩, ⟨by repeat (first | (with_reducible first | exact HB.out | apply below_alloc | apply pw_below_drewN | apply below_drew1 | refine below_set ?_ GE508.out) | exact HB.out)⟩⟩
                      · rw [if_neg c16] at H
                        exact absurd H (by simp)
                    · rw [if_neg c15] at H
                      exact absurd H (by simp)
                  · rw [if_neg c13] at H
                    have c13b0 : decide (0 < x16_1) = false := decide_eq_false c13
                    clear c13
                    have H' := Aside0.mk H
                    clear H
                    have p507 : 0 ≤ (x16_1 : Int) := of_decide_eq_true (by first | (with_reducible assumption) | assumption)
                    have q507 : x16_1 < (l1.length : Int) := of_decide_eq_true (by first | (with_reducible assumption) | assumption)
                    obtain ⟨ad507, e507, hx507_0, hx507_1⟩ := at_T52 HR1.out x16_1 p507 q507
                    cases e507
                    replace hx507_0 := (HB.out.cell (World.block_lt_of_cell? w _ hx507_0)).trans hx507_0
                    replace hx507_1 := (HB.out.cell (World.block_lt_of_cell? w _ hx507_1)).trans hx507_1
                    replace p507 := eq_true p507
                    replace q507 := eq_true q507
                    go_wp2_with (first | ((with_reducible refine gate_dst (N := 8) rfl ?_); refine box_event ?hg (N := 8) ?hd (cs := #[.int .u64 0, .int .u64 0]) (t := 52) ?hr ?_; (case hd => rfl); (case hg => rfl); (case hr => first | (go_simp; done) | (go_simp; rfl)); intro gb508 hg w22 hbox hb; have n0_ := Aside0.mk (below_step (by repeat (first | (with_reducible first | exact HB.out | apply below_alloc | apply pw_below_drewN | apply below_drew1) | exact HB.out)) hb); have n1_ := Aside0.mk (hbox); have n2_ := Aside0.mk ((by rw [hg]; exact (below_size (by repeat (first | (with_reducible first | exact HB.out | apply below_alloc | apply pw_below_drewN | apply below_drew1) | exact HB.out))) : w.heap.size ≤ gb508)); have n3_ := Aside0.mk ((by rw [hg]; exact (below_size (by repeat (first | (with_reducible first | exact HB.out | apply below_alloc | apply pw_below_drewN | apply below_drew1) | exact HB.out))) : w.heap.size ≤ gb508)); clear HB; have HB := n0_; have BK508 := n1_; have GW508 := n2_; have GE508 := n3_; clear n0_ n1_ n2_ n3_; clear hb hbox hg; have hcz23_0 : w22.cell? ⟨gb508, 0, none⟩ = some (.int .u64 0) := (blk_cell BK508.out 0).trans rfl; have hcz23_1 : w22.cell? ⟨gb508, 1, none⟩ = some (.int .u64 0) := (blk_cell BK508.out 1).trans rfl; have hfz23_0 := blk_frozen BK508.out 0; have hfz23_1 := blk_frozen BK508.out 1) | (go_at_call 65; (with_reducible refine (leaf_is.calls a0 ((rd_T52 l1 x16_1).f1) true _ A11.out).mono ?_); rintro e w' ⟨rfl, ⟨nd, rfl⟩⟩; (try first | exact ⟨rfl, _, World.drewN_drewN _ _ _⟩ | exact ⟨rfl, _, Eq.trans (World.drewN_drewN _ _ _) (congrArg (World.drewN _) (Nat.add_assoc _ _ _))⟩)))
                    repeat (go_quiet (first | ((with_reducible refine gate_dst (N := 8) rfl ?_); refine box_event ?hg (N := 8) ?hd (cs := #[.int .u64 0, .int .u64 0]) (t := 52) ?hr ?_; (case hd => rfl); (case hg => rfl); (case hr => first | (go_simp; done) | (go_simp; rfl)); intro gb508 hg w22 hbox hb; have n0_ := Aside0.mk (below_step (by repeat (first | (with_reducible first | exact HB.out | apply below_alloc | apply pw_below_drewN | apply below_drew1) | exact HB.out)) hb); have n1_ := Aside0.mk (hbox); have n2_ := Aside0.mk ((by rw [hg]; exact (below_size (by repeat (first | (with_reducible first | exact HB.out | apply below_alloc | apply pw_below_drewN | apply below_drew1) | exact HB.out))) : w.heap.size ≤ gb508)); have n3_ := Aside0.mk ((by rw [hg]; exact (below_size (by repeat (first | (with_reducible first | exact HB.out | apply below_alloc | apply pw_below_drewN | apply below_drew1) | exact HB.out))) : w.heap.size ≤ gb508)); clear HB; have HB := n0_; have BK508 := n1_; have GW508 := n2_; have GE508 := n3_; clear n0_ n1_ n2_ n3_; clear hb hbox hg; have hcz23_0 : w22.cell? ⟨gb508, 0, none⟩ = some (.int .u64 0) := (blk_cell BK508.out 0).trans rfl; have hcz23_1 : w22.cell? ⟨gb508, 1, none⟩ = some (.int .u64 0) := (blk_cell BK508.out 1).trans rfl; have hfz23_0 := blk_frozen BK508.out 0; have hfz23_1 := blk_frozen BK508.out 1) | (go_at_call 65; (with_reducible refine (leaf_is.calls a0 ((rd_T52 l1 x16_1).f1) true _ A11.out).mono ?_); rintro e w' ⟨rfl, ⟨nd, rfl⟩⟩; (try first | exact ⟨rfl, _, World.drewN_drewN _ _ _⟩ | exact ⟨rfl, _, Eq.trans (World.drewN_drewN _ _ _) (congrArg (World.drewN _) (Nat.add_assoc _ _ _))⟩))); try go_wp2_with (first | ((with_reducible refine gate_dst (N := 8) rfl ?_); refine box_event ?hg (N := 8) ?hd (cs := #[.int .u64 0, .int .u64 0]) (t := 52) ?hr ?_; (case hd => rfl); (case hg => rfl); (case hr => first | (go_simp; done) | (go_simp; rfl)); intro gb508 hg w22 hbox hb; have n0_ := Aside0.mk (below_step (by repeat (first | (with_reducible first | exact HB.out | apply below_alloc | apply pw_below_drewN | apply below_drew1) | exact HB.out)) hb); have n1_ := Aside0.mk (hbox); have n2_ := Aside0.mk ((by rw [hg]; exact (below_size (by repeat (first | (with_reducible first | exact HB.out | apply below_alloc | apply pw_below_drewN | apply below_drew1) | exact HB.out))) : w.heap.size ≤ gb508)); have n3_ := Aside0.mk ((by rw [hg]; exact (below_size (by repeat (first | (with_reducible first | exact HB.out | apply below_alloc | apply pw_below_drewN | apply below_drew1) | exact HB.out))) : w.heap.size ≤ gb508)); clear HB; have HB := n0_; have BK508 := n1_; have GW508 := n2_; have GE508 := n3_; clear n0_ n1_ n2_ n3_; clear hb hbox hg; have hcz23_0 : w22.cell? ⟨gb508, 0, none⟩ = some (.int .u64 0) := (blk_cell BK508.out 0).trans rfl; have hcz23_1 : w22.cell? ⟨gb508, 1, none⟩ = some (.int .u64 0) := (blk_cell BK508.out 1).trans rfl; have hfz23_0 := blk_frozen BK508.out 0; have hfz23_1 := blk_frozen BK508.out 1) | (go_at_call 65; (with_reducible refine (leaf_is.calls a0 ((rd_T52 l1 x16_1).f1) true _ A11.out).mono ?_); rintro e w' ⟨rfl, ⟨nd, rfl⟩⟩; (try first | exact ⟨rfl, _, World.drewN_drewN _ _ _⟩ | exact ⟨rfl, _, Eq.trans (World.drewN_drewN _ _ _) (congrArg (World.drewN _) (Nat.add_assoc _ _ _))⟩))))
                    go_roundg k1
                    case measure => have := HK1.out; omega
                    case rel => exact ⟨(IntKind.u64.wrap (x4_1 + (IntKind.u64.wrap ((IntKind.u64.wrap (((rd_T52 l1 x16_1).f1) - ((rd_T52 l1 x16_1).f0))) + 1)))), (wrap64 (x16_1 + 1)), (by first | rfl | (simp; done) | (simp [*]; done)), (by first | rfl | (simp; done) | (simp [*]; done)), H', ⟨by have := HK1.out; omega⟩, ⟨by repeat (first | (with_reducible first | exact HB.out | apply below_alloc | apply pw_below_drewN | apply below_drew1 | refine below_set ?_ GE508.out) | exact HB.out)⟩⟩
                · replace c12 := Bool.eq_false_iff.mpr c12
                  subst c12
                  have H1 : (some (0, 1)) = some (r1, r2) := by rw [if_neg (show ¬ (false = true) by decide)] at H; exact H
                  clear H
                  have H := H1
                  clear H1
                  simp only [Option.some.injEq, Prod.mk.injEq] at H
                  obtain ⟨rfl, rfl⟩ := H
                  have p507 : 0 ≤ (x16_1 : Int) := of_decide_eq_true (by first | (with_reducible assumption) | assumption)
                  have q507 : x16_1 < (l1.length : Int) := of_decide_eq_true (by first | (with_reducible assumption) | assumption)
                  obtain ⟨ad507, e507, hx507_0, hx507_1⟩ := at_T52 HR1.out x16_1 p507 q507
                  cases e507
                  replace hx507_0 := (HB.out.cell (World.block_lt_of_cell? w _ hx507_0)).trans hx507_0
                  replace hx507_1 := (HB.out.cell (World.block_lt_of_cell? w _ hx507_1)).trans hx507_1
                  replace p507 := eq_true p507
                  replace q507 := eq_true q507
                  go_wp2_with (first | ((with_reducible refine gate_dst (N := 8) rfl ?_); refine box_event ?hg (N := 8) ?hd (cs := #[.int .u64 0, .int .u64 0]) (t := 52) ?hr ?_; (case hd => rfl); (case hg => rfl); (case hr => first | (go_simp; done) | (go_simp; rfl)); intro gb508 hg w24 hbox hb; have n0_ := Aside0.mk (below_step (by repeat (first | (with_reducible first | exact HB.out | apply below_alloc | apply pw_below_drewN | apply below_drew1) | exact HB.out)) hb); have n1_ := Aside0.mk (hbox); have n2_ := Aside0.mk ((by rw [hg]; exact (below_size (by repeat (first | (with_reducible first | exact HB.out | apply below_alloc | apply pw_below_drewN | apply below_drew1) | exact HB.out))) : w.heap.size ≤ gb508)); have n3_ := Aside0.mk ((by rw [hg]; exact (below_size (by repeat (first | (with_reducible first | exact HB.out | apply below_alloc | apply pw_below_drewN | apply below_drew1) | exact HB.out))) : w.heap.size ≤ gb508)); clear HB; have HB := n0_; have BK508 := n1_; have GW508 := n2_; have GE508 := n3_; clear n0_ n1_ n2_ n3_; clear hb hbox hg; have hcz25_0 : w24.cell? ⟨gb508, 0, none⟩ = some (.int .u64 0) := (blk_cell BK508.out 0).trans rfl; have hcz25_1 : w24.cell? ⟨gb508, 1, none⟩ = some (.int .u64 0) := (blk_cell BK508.out 1).trans rfl; have hfz25_0 := blk_frozen BK508.out 0; have hfz25_1 := blk_frozen BK508.out 1) | (go_at_call 65; (with_reducible refine (leaf_is.calls a0 ((rd_T52 l1 x16_1).f1) false _ A11.out).mono ?_); rintro e w' ⟨rfl, ⟨nd, rfl⟩⟩; (try first | exact ⟨rfl, _, World.drewN_drewN _ _ _⟩ | exact ⟨rfl, _, Eq.trans (World.drewN_drewN _ _ _) (congrArg (World.drewN _) (Nat.add_assoc _ _ _))⟩)))
                  repeat (go_quiet (first | ((with_reducible refine gate_dst (N := 8) rfl ?_); refine box_event ?hg (N := 8) ?hd (cs := #[.int .u64 0, .int .u64 0]) (t := 52) ?hr ?_; (case hd => rfl); (case hg => rfl); (case hr => first | (go_simp; done) | (go_simp; rfl)); intro gb508 hg w24 hbox hb; have n0_ := Aside0.mk (below_step (by repeat (first | (with_reducible first | exact HB.out | apply below_alloc | apply pw_below_drewN | apply below_drew1) | exact HB.out)) hb); have n1_ := Aside0.mk (hbox); have n2_ := Aside0.mk ((by rw [hg]; exact (below_size (by repeat (first | (with_reducible first | exact HB.out | apply below_alloc | apply pw_below_drewN | apply below_drew1) | exact HB.out))) : w.heap.size ≤ gb508)); have n3_ := Aside0.mk ((by rw [hg]; exact (below_size (by repeat (first | (with_reducible first | exact HB.out | apply below_alloc | apply pw_below_drewN | apply below_drew1) | exact HB.out))) : w.heap.size ≤ gb508)); clear HB; have HB := n0_; have BK508 := n1_; have GW508 := n2_; have GE508 := n3_; clear n0_ n1_ n2_ n3_; clear hb hbox hg; have hcz25_0 : w24.cell? ⟨gb508, 0, none⟩ = some (.int .u64 0) := (blk_cell BK508.out 0).trans rfl; have hcz25_1 : w24.cell? ⟨gb508, 1, none⟩ = some (.int .u64 0) := (blk_cell BK508.out 1).trans rfl; have hfz25_0 := blk_frozen BK508.out 0; have hfz25_1 := blk_frozen BK508.out 1) | (go_at_call 65; (with_reducible refine (leaf_is.calls a0 ((rd_T52 l1 x16_1).f1) false _ A11.out).mono ?_); rintro e w' ⟨rfl, ⟨nd, rfl⟩⟩; (try first | exact ⟨rfl, _, World.drewN_drewN _ _ _⟩ | exact ⟨rfl, _, Eq.trans (World.drewN_drewN _ _ _) (congrArg (World.drewN _) (Nat.add_assoc _ _ _))⟩))); try go_wp2_with (first | ((with_reducible refine gate_dst (N := 8) rfl ?_); refine box_event ?hg (N := 8) ?hd (cs := #[.int .u64 0, .int .u64 0]) (t := 52) ?hr ?_; (case hd => rfl); (case hg => rfl); (case hr => first | (go_simp; done) | (go_simp; rfl)); intro gb508 hg w24 hbox hb; have n0_ := Aside0.mk (below_step (by repeat (first | (with_reducible first | exact HB.out | apply below_alloc | apply pw_below_drewN | apply below_drew1) | exact HB.out)) hb); have n1_ := Aside0.mk (hbox); have n2_ := Aside0.mk ((by rw [hg]; exact (below_size (by repeat (first | (with_reducible first | exact HB.out | apply below_alloc | apply pw_below_drewN | apply below_drew1) | exact HB.out))) : w.heap.size ≤ gb508)); have n3_ := Aside0.mk ((by rw [hg]; exact (below_size (by repeat (first | (with_reducible first | exact HB.out | apply below_alloc | apply pw_below_drewN | apply below_drew1) | exact HB.out))) : w.heap.size ≤ gb508)); clear HB; have HB := n0_; have BK508 := n1_; have GW508 := n2_; have GE508 := n3_; clear n0_ n1_ n2_ n3_; clear hb hbox hg; have hcz25_0 : w24.cell? ⟨gb508, 0, none⟩ = some (.int .u64 0) := (blk_cell BK508.out 0).trans rfl; have hcz25_1 : w24.cell? ⟨gb508, 1, none⟩ = some (.int .u64 0) := (blk_cell BK508.out 1).trans rfl; have hfz25_0 := blk_frozen BK508.out 0; have hfz25_1 := blk_frozen BK508.out 1) | (go_at_call 65; (with_reducible refine (leaf_is.calls a0 ((rd_T52 l1 x16_1).f1) false _ A11.out).mono ?_); rintro e w' ⟨rfl, ⟨nd, rfl⟩⟩; (try first | exact ⟨rfl, _, World.drewN_drewN _ _ _⟩ | exact ⟨rfl, _, Eq.trans (World.drewN_drewN _ _ _) (congrArg (World.drewN _) (Nat.add_assoc _ _ _))⟩))))
                  go_ret2
                  exact ⟨by first | rfl | (simp [errW_none, errW_some] <;> rfl) | (simp [*, errW_none, errW_some] <;> rfl), by repeat (first | (with_reducible first | exact HB.out | apply below_alloc | apply pw_below_drewN | apply below_drew1 | refine below_set ?_ GE508.out) | exact HB.out)⟩
            · rw [if_neg c7] at H
              exact absurd H (by simp)
          · rw [if_neg c6] at H
            exact absurd H (by simp)
        · rw [if_neg c5] at H
          have c5b0 : decide (x16_1 < (l1.length : Int)) = false := decide_eq_false c5
          clear c5
          simp only [Option.some.injEq, Prod.mk.injEq] at H
          obtain ⟨rfl, rfl⟩ := H
          go_wp2
          repeat (go_quiet (fail); try go_wp2)
          go_ret2
          exact ⟨by first | rfl | (simp [errW_none, errW_some] <;> rfl) | (simp [*, errW_none, errW_some] <;> rfl), by repeat (first | (with_reducible first | exact HB.out | apply below_alloc | apply pw_below_drewN | apply below_drew1) | exact HB.out)⟩
  · rw [if_neg c4] at H
    have c4b0 : (t506 == 0) = false := beq_eq_false_iff_ne.mpr c4
    have c4b1 : (t506 != 0) = true := bne_iff_ne.mpr c4
    simp only [Option.some.injEq, Prod.mk.injEq] at H
    obtain ⟨rfl, rfl⟩ := H
    go_enter Try.func27, Try.ntmps27
    go_wp2_with (first | (go_at_call 64; (with_reducible refine (node_Check.calls k a0 1 t506 _ A3.out).mono ?_); rintro e w' ⟨rfl, ⟨nd, rfl⟩⟩; (try first | exact ⟨rfl, _, World.drewN_drewN _ _ _⟩ | exact ⟨rfl, _, Eq.trans (World.drewN_drewN _ _ _) (congrArg (World.drewN _) (Nat.add_assoc _ _ _))⟩)))
    repeat (go_quiet (first | (go_at_call 64; (with_reducible refine (node_Check.calls k a0 1 t506 _ A3.out).mono ?_); rintro e w' ⟨rfl, ⟨nd, rfl⟩⟩; (try first | exact ⟨rfl, _, World.drewN_drewN _ _ _⟩ | exact ⟨rfl, _, Eq.trans (World.drewN_drewN _ _ _) (congrArg (World.drewN _) (Nat.add_assoc _ _ _))⟩))); try go_wp2_with (first | (go_at_call 64; (with_reducible refine (node_Check.calls k a0 1 t506 _ A3.out).mono ?_); rintro e w' ⟨rfl, ⟨nd, rfl⟩⟩; (try first | exact ⟨rfl, _, World.drewN_drewN _ _ _⟩ | exact ⟨rfl, _, Eq.trans (World.drewN_drewN _ _ _) (congrArg (World.drewN _) (Nat.add_assoc _ _ _))⟩))))
    go_ret2
    exact ⟨by first | rfl | (simp [errW_none, errW_some] <;> rfl) | (simp [*, errW_none, errW_some] <;> rfl), by repeat (first | (with_reducible first | exact HB.out | apply below_alloc | apply pw_below_drewN | apply below_drew1) | exact HB.out)⟩

/-! ### leaf_Gaps: function 28 -/
section
open Go.Shelf
attribute [local go_sem] Oper.semAt_some
def leaf_gapl (last : Int) : Int → List Int → List S52
  | fr, [] => if fr ≤ last then [⟨fr, last⟩] else []
  | fr, i :: l => (if fr < i then [⟨fr, IntKind.u64.wrap (i - 1)⟩] else []) ++ leaf_gapl last (IntKind.u64.wrap (i + 1)) l
set_option maxRecDepth 100000 in
set_option maxHeartbeats 2000000 in
theorem leaf_between1_in (n : Nat) (hn : 1 ≤ n) (l Bs Bl : Nat) (w : World) (A : Option Addr) (c : Nat) (zs : List Int) (last : Int) (hR : Kd.C (Kd.int .u64) w A zs.length zs) (hlen : zs.length ≤ 1000000) (J Jx : List S52 → World → Prop)
    (hY : ∀ pre x W, J pre W → pre.length < zs.length + 1 → YieldAt Fence.wide (n - 1) Try.prog l #[.agg #[.int .u64 x.f0, .int .u64 x.f1]] W fun e W' =>
      (e = .returned (.bool true) ∧ J (pre ++ [x]) W' ∧ (Below w.heap.size W W' ∧ (W.cell? ⟨Bl, 0, none⟩ = some (.int .u64 last) → W'.cell? ⟨Bl, 0, none⟩ = some (.int .u64 last)))) ∨ (e = .returned (.bool false) ∧ Jx (pre ++ [x]) W'))
    (W : World) (hB : Below w.heap.size w W) (hBs : W.cell? ⟨Bs, 0, none⟩ = some (.slice A zs.length c)) (hBl : W.cell? ⟨Bl, 0, none⟩ = some (.int .u64 last)) (h0 : J [] W) :
    CallsIn Fence.wide n Try.prog 109 #[.func (.yield l) #[] #[], .pointer (some ⟨Bs, 0, none⟩), .pointer (some ⟨Bl, 0, none⟩)] W fun e W' => (∃ v, e = .returned v) ∧ ((∃ ys, ys = leaf_gapl last 0 zs ∧ J ys W') ∨ (∃ pre, True ∧ Jx pre W')) := by
  refine callsIn_of_wp Try.func109 rfl trivial ?_ rfl
  simp only [Try.ntmps109, List.size_toArray, List.length_cons, List.length_nil, Nat.reduceAdd, Nat.reduceSub, Array.replicate_succ, Array.replicate_zero, List.push_toArray, List.append_toArray, List.nil_append, List.cons_append]
  gi_wp2
  gi_loopw [4, 9] (fun fr i wr => ∃ (k : Nat) (f : Int) (pre : List S52), k ≤ zs.length ∧ i = .int .i64 k ∧ fr = .int .u64 f ∧ J pre wr ∧ Below w.heap.size w wr ∧ wr.cell? ⟨Bl, 0, none⟩ = some (.int .u64 last) ∧ pre.length ≤ k ∧ pre ++ leaf_gapl last f (zs.drop k) = leaf_gapl last 0 zs)
    (fun _ i _ => zs.length - (intOf i).toNat)
  case atStart => exact ⟨0, 0, [], Nat.zero_le _, rfl, rfl, h0, hB, hBl, by simp, rfl⟩
  case round =>
    obtain ⟨k, f, pre, hk, rfl, rfl, hJ, hBr, hL, hpl, hpre⟩ := hrel
    have HP := Aside0.mk hpre
    have HR := Aside0.mk (Kd.C_below hR hBr)
    have HBr := Aside0.mk hBr
    clear hpre
    by_cases hlt : k < zs.length
    · obtain ⟨ad, e1, hx⟩ := Kd.at_int HR.out (k : Int) (by omega) (by omega)
      cases e1
      rw [Int.toNat_natCast] at hx
      have hd : zs.drop k = rd zs (k : Int) :: zs.drop (k + 1) := by
        rw [List.drop_eq_getElem_cons hlt]; congr 1
        unfold rd; simp [hlt]
      rw [hd] at HP
      generalize rd zs (k : Int) = x at *
      clear hd
      have hkd : decide ((k : Int) < (zs.length : Int)) = true := decide_eq_true (by omega)
      by_cases hf : f < x
      · obtain ⟨fn, tmps, assign, body, hy, hRn⟩ := hY pre ⟨f, IntKind.u64.wrap (x - 1)⟩ wr hJ (by omega)
        dsimp only at hy
        have hfd : decide (f < x) = true := decide_eq_true hf
        rw [leaf_gapl, if_pos hf] at HP
        clear hf
        gi_wp2
        refine hRn.mono ?_
        rintro e W3 (⟨rfl, hJ3, hk3, hl3⟩ | ⟨rfl, hJx3⟩)
        · gi_wp2
          go_roundw
          case rel => exact ⟨k + 1, _, _, by omega, by go_num, rfl, hJ3, HBr.out.trans hk3, hl3 hL, by simp; omega, by rw [← HP.out]; simp⟩
          case measure => simp [intOf]; omega
        · gi_wp2
          refine bodyPost_ret (results_none rfl _ _ _) rfl ?_
          exact ⟨⟨_, rfl⟩, .inr ⟨_, trivial, hJx3⟩⟩
      · have hfd : decide (f < x) = false := decide_eq_false hf
        rw [leaf_gapl, if_neg hf] at HP
        clear hf
        gi_wp2
        refine ⟨fun _ h => (by cases h), ?_⟩
        gi_wp2
        go_roundw
        case rel => exact ⟨k + 1, _, _, by omega, by go_num, rfl, hJ, HBr.out, hL, by omega, by rw [← HP.out]; simp⟩
        case measure => simp [intOf]; omega
    · obtain rfl : k = zs.length := by omega
      have hkd : decide ((zs.length : Int) < (zs.length : Int)) = false := decide_eq_false (by omega)
      rw [List.drop_length, leaf_gapl] at HP
      by_cases hf : f ≤ last
      · rw [if_pos hf] at HP
        have hfd : decide (f ≤ last) = true := decide_eq_true hf
        obtain ⟨fn, tmps, assign, body, hy, hRn⟩ := hY pre ⟨f, last⟩ wr hJ (by omega)
        dsimp only at hy
        clear hf
        gi_wp2
        refine hRn.mono ?_
        rintro e W3 (⟨rfl, hJ3, hk3, hl3⟩ | ⟨rfl, hJx3⟩)
        · gi_wp2
          go_end0
          exact ⟨⟨_, rfl⟩, .inl ⟨_, HP.out, hJ3⟩⟩
        · gi_wp2
          go_end0
          exact ⟨⟨_, rfl⟩, .inr ⟨_, trivial, hJx3⟩⟩
      · rw [if_neg hf, List.append_nil] at HP
        have hfd : decide (f ≤ last) = false := decide_eq_false hf
        clear hf
        gi_wp2
        go_end0
        exact ⟨⟨_, rfl⟩, .inl ⟨_, HP.out, hJ⟩⟩

theorem leaf_gapl_len (last : Int) : ∀ (l : List Int) (fr : Int), (leaf_gapl last fr l).length ≤ l.length + 1
  | [], fr => by unfold leaf_gapl; split <;> simp
  | i :: l, fr => by
    have := leaf_gapl_len last l (IntKind.u64.wrap (i + 1))
    unfold leaf_gapl; rw [List.length_append, List.length_cons]; split <;> simp <;> omega
theorem leaf_between.calls (A : Option Addr) (n c : Nat) (last : Int) (w : World) : Calls Try.prog 66 #[.slice A n c, .int .u64 last] w fun e w' => e = .returned (.func (.func 109) #[] #[.pointer (some ⟨w.heap.size, 0, none⟩), .pointer (some ⟨w.heap.size + 1, 0, none⟩)]) ∧ w' = (w.alloc (.cells #[.slice A n c] 22)).alloc (.cells #[.int .u64 last] 28) := by
  have hmf : ∀ (fn : Fn) (first cap : Array Value) (w : World), (Instr.makeFunc fn first cap).run Try.prog w = .ok (.func fn first cap) w := fun _ _ _ _ => rfl
  go_enter Try.func66, Try.ntmps66
  go_wp2
  go_ret
  exact ⟨by simp, rfl⟩

def cs_span (x : S52) : List Value := [.int .u64 x.f0, .int .u64 x.f1]
theorem reps_span {R : S52 → List Value → Prop} (hR : ∀ x, R x (cs_span x)) : ∀ xs : List S52, Reps R 2 xs (xs.flatMap cs_span)
  | [] => Reps.none _ _
  | x :: xs => Reps.c2 (hR x) (reps_span hR xs)
theorem R_span {e : Nat} {w : World} {base : Nat} {v : Value} {xs : List S52} (h : w.ownsRow base e 2 v xs.length (xs.flatMap cs_span)) : Kd.R k52 e w base (fun _ => True) v xs :=
  ⟨fun _ _ => trivial, _, h, reps_span (fun x => k52_mkM _ _ _ x) xs⟩
def GapsI (w : World) (B : Nat) (hi : Int) (pre : List S52) (W : World) : Prop := ((∃ v, Boxed W B 45 v ∧ W.ownsRow w.heap.size 52 2 v pre.length (pre.flatMap cs_span) ∧ True) ∧ Boxed W (B + 1 + 1) 28 (.int .u64 hi)) ∧ Below w.heap.size w W
theorem gapsI_own (w : World) (B : Nat) (hi : Int) (B0 : Nat) (h : w.heap.size ≤ B0) : OwnFrom B0 (GapsI w B hi) :=
  OwnFrom.and (Own.from (fun s X Y row hs hg hr => ⟨holdsRow_own w.heap.size B 45 52 2 (fun pre : List S52 => pre.length) (fun pre => pre.flatMap cs_span) (fun _ _ => True) s X Y row hs.1 hg hr, boxed_own (B + 1 + 1) 28 (fun _ : List S52 => Value.int .u64 hi) s X Y row hs.2 hg hr⟩) _) (ownFrom_below (Nat.le_refl _) h)
theorem cell_two_new (W : World) (a b : Value) (ty : TypeId) : ∀ j u, [a, b][j]? = some u → (W.alloc (.cells #[a, b] ty)).cell? ((⟨W.heap.size, 0, none⟩ : Addr).add j) = some u := by
  intro j u hj
  rw [add_plain]
  match j with
  | 0 => simp at hj; subst hj; simp
  | 1 => simp at hj; subst hj; simp
  | j + 2 => simp at hj
def leaf_Gaps.f (k : Nat) (a0 : Int) (l1 : List Int) : Option (List S52 × Int) := (node_Leaves.f k a0 1).bind fun b => if b.2.2 = 0 then ((leaf_Check.f k a0 l1).bind fun t => if t = 0 then (if l1.length ≤ 1000000 then some (leaf_gapl b.2.1 0 l1, 0) else none) else some ([], 1)) else some ([], 1)
theorem leaf_Gaps.mono : ∀ a0 a1 k, LeO (leaf_Gaps.f k a0 a1) (leaf_Gaps.f (k + 1) a0 a1) := by
  intro a0 a1 k
  unfold leaf_Gaps.f
  repeat' first
      | (with_reducible exact node_Leaves.mono _ _ _)
      | (with_reducible exact leaf_Check.mono _ _ _)
      | (with_reducible exact LeO.refl _)
      | (with_reducible exact LeO.none _)
      | (with_reducible refine LeO.ite ?_ ?_)
      | (with_reducible refine LeO.bind ?_ (fun _ => ?_))
set_option maxHeartbeats 8000000 in
set_option maxRecDepth 100000 in
theorem leaf_Gaps.calls (k : Nat) (a0 : Int) (A1 : Option Addr) (c1 : Nat) (l1 : List Int) (r1 : List S52) (r2 : Int) (w : World) (hr1 : Kd.C (Kd.int .u64) w A1 l1.length l1) (hc1 : l1.length ≤ c1) (h : leaf_Gaps.f k a0 l1 = some (r1, r2)) :
    Calls Try.prog 28 #[.int .i64 a0, .slice A1 l1.length c1] w fun e w' => ∃ v0_ : Value, e = .returned (.tuple #[v0_, .int .i64 r2]) ∧ Kd.R k52 52 w' w.heap.size (fun _ => True) v0_ r1 ∧ Below w.heap.size w w' := by
  obtain ⟨⟨lo, hi, e1⟩, A30, H⟩ := Option.bind_eq_some_iff.mp h
  clear h
  replace H : (if e1 = 0 then ((leaf_Check.f k a0 l1).bind fun t => if t = 0 then (if l1.length ≤ 1000000 then some (leaf_gapl hi 0 l1, 0) else none) else some ([], 1)) else some ([], 1)) = some (r1, r2) := H
  have A3 := Aside0.mk A30
  clear A30
  have HR1 := Aside0.mk hr1
  have HC1 := Aside0.mk hc1
  clear hr1 hc1
  have hu34 := Try.underlying52
  by_cases c1_ : e1 = 0
  · rw [if_pos c1_] at H
    have c1b0 : (e1 != 0) = false := bne_eq_false_iff_eq.mpr c1_
    clear c1_
    obtain ⟨t, A40, H⟩ := Option.bind_eq_some_iff.mp H
    have A4 := Aside0.mk A40
    clear A40
    by_cases c2 : t = 0
    · rw [if_pos c2] at H
      have c2b0 : (t != 0) = false := bne_eq_false_iff_eq.mpr c2
      clear c2
      by_cases c3 : l1.length ≤ 1000000
      · rw [if_pos c3] at H
        simp only [Option.some.injEq, Prod.mk.injEq] at H
        obtain ⟨rfl, rfl⟩ := H
        have HL := Aside0.mk c3
        clear c3
        refine (callsIn_wide (n := 5)).1 ?_
        refine callsIn_of_wp_marks Try.func28 rfl trivial ?_ rfl
        simp only [Try.ntmps28, List.size_toArray, List.length_cons, List.length_nil, Nat.reduceAdd, Nat.reduceSub, Array.replicate_succ, Array.replicate_zero, List.push_toArray, List.append_toArray, List.nil_append, List.cons_append]
        gi_wp2
        refine ⟨trivial, ?_⟩
        refine (callsIn_wide.2 (node_Leaves.calls k a0 1 lo hi e1 _ A3.out)).mono ?_
        rintro e w1 ⟨rfl, hb1⟩
        have HB1 := Aside0.mk hb1
        have HRc := Aside0.mk (Kd.C_below HR1.out hb1)
        clear hb1
        gi_wp2
        refine ⟨trivial, ?_⟩
        refine (callsIn_wide.2 (leaf_Check.calls k a0 _ _ l1 t _ ?s1 HC1.out A4.out)).mono ?_
        case s1 => exact Kd.C_alloc HRc.out _
        rintro e w2 ⟨rfl, ⟨nd, rfl⟩⟩
        gi_wp2
        refine ⟨trivial, ?_⟩
        refine (callsIn_wide.2 (leaf_between.calls A1 l1.length c1 hi _)).mono ?_
        rintro e w3 ⟨rfl, rfl⟩
        have hb2 : Below w.heap.size w ((w1.alloc (.cells #[.int .u64 lo, .int .u64 hi] 52)).drewN nd) := pw_below_drewN (below_alloc HB1.out _) nd
        have hsz2 : ((w1.alloc (.cells #[.int .u64 lo, .int .u64 hi] 52)).drewN nd).heap.size = w1.heap.size + 1 := by simp
        generalize ((w1.alloc (.cells #[.int .u64 lo, .int .u64 hi] 52)).drewN nd) = W2 at hb2 hsz2 ⊢
        have hs1 : (W2.alloc (.cells #[.slice none 0 0] 45)).heap.size = W2.heap.size + 1 := by simp
        have bO := Boxed.new W2 45 (.slice none 0 0)
        have bS := Boxed.new (W2.alloc (.cells #[.slice none 0 0] 45)) 22 (.slice A1 l1.length c1)
        have bL := Boxed.new ((W2.alloc (.cells #[.slice none 0 0] 45)).alloc (.cells #[.slice A1 l1.length c1] 22)) 28 (.int .u64 hi)
        rw [hs1] at bS
        have hs2 : ((W2.alloc (.cells #[.slice none 0 0] 45)).alloc (.cells #[.slice A1 l1.length c1] 22)).heap.size = W2.heap.size + 1 + 1 := by simp
        rw [hs2] at bL
        have bO' := (bO.alloc (.cells #[.slice A1 l1.length c1] 22)).alloc (.cells #[.int .u64 hi] 28)
        have bS' := bS.alloc (.cells #[.int .u64 hi] 28)
        have hb3 := ((hb2.alloc hb2.size (.cells #[.slice none 0 0] 45)).alloc (by have := hb2.size; simp; omega) (.cells #[.slice A1 l1.length c1] 22)).alloc (by have := hb2.size; simp; omega) (.cells #[.int .u64 hi] 28)
        obtain ⟨W0, hW0⟩ : ∃ W0, ((W2.alloc (.cells #[.slice none 0 0] 45)).alloc (.cells #[.slice A1 l1.length c1] 22)).alloc (.cells #[.int .u64 hi] 28) = W0 := ⟨_, rfl⟩
        have hz0 : W0.heap.size = W2.heap.size + 3 := by rw [← hW0]; simp
        rw [hW0] at bL bO' bS' hb3
        rw [hs1, hW0, hsz2]
        rw [hsz2] at hz0 bL bO' bS'
        have HB3 := Aside0.mk hb3
        have hw2 := hb2.size
        clear bO bS hs1 hs2 hb2 hb3
        gi_wp2
        have hbb : W0.heap.size = w.heap.size + (W0.heap.size - w.heap.size) := by omega
        refine wpIn_rangeFunc_ownH (α := S52) (encs := fun x => #[.agg #[.int .u64 x.f0, .int .u64 x.f1]]) (Kp := fun X Y => Below w.heap.size X Y ∧ (X.cell? ⟨(w1.heap.size + 1) + 1 + 1, 0, none⟩ = some (.int .u64 hi) → Y.cell? ⟨(w1.heap.size + 1) + 1 + 1, 0, none⟩ = some (.int .u64 hi)))
          (S := fun ys => ys = leaf_gapl hi 0 l1) (Sp := fun _ => True) (N := l1.length + 1) (w0 := W0) rfl (by omega) (gf := 109) (lb := #[.pointer (some ⟨(w1.heap.size + 1) + 1, 0, none⟩), .pointer (some ⟨(w1.heap.size + 1) + 1 + 1, 0, none⟩)]) rfl trivial (enters_of Try.func109 (by kernel_rfl) rfl)
          (fun l J Jx W hW _ _ hY h0 => leaf_between1_in (5 - 1) (by omega) l ((w1.heap.size + 1) + 1) ((w1.heap.size + 1) + 1 + 1) w A1 c1 l1 hi HR1.out HL.out J Jx hY W (HB3.out.trans (hW.mono (by omega))) ((hW.cell (p := ⟨(w1.heap.size + 1) + 1, 0, none⟩) (by show (w1.heap.size + 1) + 1 < _; omega)).trans bS'.cell) ((hW.cell (p := ⟨(w1.heap.size + 1) + 1 + 1, 0, none⟩) (by show (w1.heap.size + 1) + 1 + 1 < _; omega)).trans bL.cell) h0)
          (fun h1 h2 => ⟨h1.1.trans h2.1, fun z => h2.2 (h1.2 z)⟩)
          (fun W l o o' h1 h2 h3 h4 => ⟨belowK_b (w := W0) (by omega) W l o o' h1 h2 h3 h4, fun z => ((belowK_b (w := W0) (Nat.le_refl _) W l o o' h1 h2 h3 h4).cell (p := ⟨(w1.heap.size + 1) + 1 + 1, 0, none⟩) (by show (w1.heap.size + 1) + 1 + 1 < _; omega)).trans z⟩)
          (Below.refl _ _) (fun _ => rfl)
          (GapsI w (w1.heap.size + 1) hi)
          (fun _ _ _ => False)
          (gapsI_own w _ hi _ (by omega))
          (fun _ _ _ _ _ hs _ _ => hs)
          ⟨⟨⟨_, bO', World.ownsRow_nil _ _ _ _, trivial⟩, bL⟩, HB3.out⟩
          (fun x a' W => ∃ Bx, W.heap[Bx]? = some (.cells #[.int .u64 x.f0, .int .u64 x.f1] 52 (0, 0)) ∧ a' = { tmps := #[.int .i64 a0, .slice A1 l1.length c1, undef, undef, .slice none 0 0, .int .i64 0, .pointer (some ⟨w1.heap.size, 0, none⟩), .int .i64 e1, .pointer (some ⟨w1.heap.size + 1, 0, none⟩), .pointer (some ⟨Bx, 0, none⟩), .tuple #[.agg #[.int .u64 lo, .int .u64 hi], .int .i64 e1], .int .i64 a0, .tuple #[.agg #[.int .u64 lo, .int .u64 hi], .int .i64 e1], .agg #[.int .u64 lo, .int .u64 hi], .int .i64 e1, .int .i64 e1, .bool false, .bool false, .int .i64 a0, .slice A1 l1.length c1, .int .i64 t, .bool false, .bool false, .slice A1 l1.length c1, .pointer (some ⟨w1.heap.size, 1, none⟩), .int .u64 hi, .func (.func 109) #[] #[.pointer (some ⟨w1.heap.size + 1 + 1, 0, none⟩), .pointer (some ⟨w1.heap.size + 1 + 1 + 1, 0, none⟩)], .agg #[.int .u64 x.f0, .int .u64 x.f1], undef, undef, undef, undef, undef], defers := [] })
          ?hAx ?assign ?body ?done ?stop
        case hAx =>
          rintro x a' _ X Y row ⟨Bx, hx, rfl⟩ hg hr
          refine ⟨Bx, (hg.block Bx (Array.getElem?_eq_some_iff.1 hx).1 (fun e => ?_)).trans hx, rfl⟩
          obtain ⟨_, o, ho, hc⟩ := hr Bx e.symm
          rw [hx] at ho; cases ho; cases hc
        case assign =>
          intro l pre x W K hI hK
          have hsz : w.heap.size ≤ W.heap.size := hI.2.size
          gi_wp2
          exact hK _ _ ((KeepsOthers.alloc _ _).from _) ⟨(Below.refl _ W).alloc hsz _, fun z => ((Below.refl W.heap.size W).alloc (Nat.le_refl _) _).cell (World.block_lt_of_cell? W _ z) |>.trans z⟩ ((gapsI_own w _ hi _ (Nat.le_refl _)).alloc _ hI) ⟨W.heap.size, blk_new _ _, rfl⟩
        case body =>
          rintro l pre x a' W hl ⟨r, hr⟩ ⟨⟨⟨v, hbo, hrow, _⟩, hbl⟩, hB⟩ ⟨Bx, hx, rfl⟩ hlt
          obtain ⟨i0, hi0, hz0_, hz1_, hz2_⟩ := info_parts info52
          have hlen := HL.out
          have hx0 := blk_cell hx 0
          have hx1 := blk_cell hx 1
          have hbc := hbo.cell
          simp at hx0 hx1
          have HBO := Aside0.mk hbo
          have HBL := Aside0.mk hbl
          have HROW := Aside0.mk hrow
          have HB := Aside0.mk hB
          clear hbo hbl hB
          gi_wp2_with (gi_at_builtin; refine wpListIn_append_own _ rfl _ _ 45 rfl w.heap.size 52 i0 (.agg #[.int .u64 0, .int .u64 0]) 2 16 Try.underlying45 hi0 hz0_ hz1_ hz2_ rfl (by decide) _ _ _ rfl (hrow.alloc _) ⟨W.heap.size, 0, none⟩ 1 1 (cs_span x) rfl rfl (cell_two_new _ _ _ _) (by simp [cs_span, Value.oneCell']) (by unfold maxLen; omega) (by omega) (by have := HB.out.size; simp; omega) ?_; intro v' w1' hown' hgrow _; obtain ⟨g', cap', rfl⟩ := ownsRow_succ hown'; obtain ⟨hv1, hv2, hr2, hk2, hb2⟩ := HBO.out.appended (by decide) HROW.out HB.out.size (by omega) hown' hgrow; have hbl1 := ((HBL.out.alloc _).kept hgrow (HBL.out.not_row (by decide) HROW.out)).other (B' := w1.heap.size + 1) (by omega) (.slice (some ⟨g', 0, none⟩) (pre.length + 1) cap'); have hc1 := hv1.cell; have hf1 := hv1.frozen)
          exact ⟨hk2.from _, ⟨hb2, fun _ => hbl1.cell⟩, ⟨⟨_, hv2, by simpa [List.flatMap_append] using hr2, trivial⟩, hbl1⟩, HB.out.trans hb2⟩
        case done =>
          rintro D ys W hD rfl ⟨⟨⟨v, hbo, hrow, _⟩, hbl⟩, hB⟩ hK
          have hbc := hbo.cell
          gi_wp2
          refine ⟨by simp, .inl ⟨_, _, rfl, run_takeDeferred hK, ?_⟩⟩
          exact ⟨_, results_tmp2 rfl _ _ _, v, rfl, R_span (ownsRow_putObj hrow _ hK rfl), hB.trans (belowK_b (w := W0) (by omega) W D _ _ hD hK rfl rfl)⟩
        case stop =>
          rintro D c pre W hD _ h _
          exact h.elim
      · rw [if_neg c3] at H; cases H
    · rw [if_neg c2] at H
      have c2b0 : (t != 0) = true := bne_iff_ne.mpr c2
      clear c2
      simp only [Option.some.injEq, Prod.mk.injEq] at H
      obtain ⟨rfl, rfl⟩ := H
      refine (callsIn_wide (n := 5)).1 ?_
      refine callsIn_of_wp Try.func28 rfl trivial ?_ rfl
      simp only [Try.ntmps28, List.size_toArray, List.length_cons, List.length_nil, Nat.reduceAdd, Nat.reduceSub, Array.replicate_succ, Array.replicate_zero, List.push_toArray, List.append_toArray, List.nil_append, List.cons_append]
      gi_wp2
      refine ⟨trivial, ?_⟩
      refine (callsIn_wide.2 (node_Leaves.calls k a0 1 lo hi e1 _ A3.out)).mono ?_
      rintro e w1 ⟨rfl, hb1⟩
      have HB1 := Aside0.mk hb1
      have HRc := Aside0.mk (Kd.C_below HR1.out hb1)
      clear hb1
      gi_wp2
      refine ⟨trivial, ?_⟩
      refine (callsIn_wide.2 (leaf_Check.calls k a0 _ _ l1 t _ ?s1 HC1.out A4.out)).mono ?_
      case s1 => exact Kd.C_alloc HRc.out _
      rintro e w2 ⟨rfl, ⟨nd, rfl⟩⟩
      gi_wp2
      go_ret2
      exact ⟨_, rfl, Kd.R_nil _ _ _ _ _, pw_below_drewN (below_alloc HB1.out _) nd⟩
  · rw [if_neg c1_] at H
    have c1b0 : (e1 != 0) = true := bne_iff_ne.mpr c1_
    clear c1_
    simp only [Option.some.injEq, Prod.mk.injEq] at H
    obtain ⟨rfl, rfl⟩ := H
    go_enter Try.func28, Try.ntmps28
    go_wp2_with (go_at_call 54; (with_reducible refine (node_Leaves.calls k a0 1 lo hi e1 _ A3.out).mono ?_); rintro e w1 ⟨rfl, hb1⟩; have HB1 := Aside0.mk hb1; clear hb1)
    go_ret2
    exact ⟨_, rfl, Kd.R_nil _ _ _ _ _, below_alloc HB1.out _⟩
end

end Go.Proofs.Ytmffkfakcbopcaa.MP
