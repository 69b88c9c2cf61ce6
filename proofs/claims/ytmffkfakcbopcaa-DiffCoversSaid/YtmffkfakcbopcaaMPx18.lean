-- written by a program of this session (wip/tools/mprint.sh) for this seat
import Derived.Test.YtmffkfakcbopcaaMPx0
import Derived.Test.YtmffkfakcbopcaaMPx17
namespace Go.Proofs.Ytmffkfakcbopcaa.MP
open Go.RowKit Go.Proofs.YtmffkfakcbopcaaW.PrintWords Go.Proofs.YtmffkfakcbopcaaW.PrintLast Go.Proofs.YtmffkfakcbopcaaW.PrintMore
attribute [local go_sem] max2_int min2_int max_two min_two max_three min_three max_four min_four   -- for this text's walks alone
set_option linter.unusedVariables false
set_option linter.unusedSimpArgs false

/-! ### sub_Touch: function 25 -/
mutual
def sub_Touch.j0 : Nat → List (S52) → List (S52) → Bool → Option (Bool × Int)
  | 0, _, _, _ => none
  | k + 1, x8, x10, x31 => if x31 = true then (some (false, 1)) else (sub_Touch.l0 k x8 x10 0 0)
def sub_Touch.l0 : Nat → List (S52) → List (S52) → Int → Int → Option (Bool × Int)
  | 0, _, _, _, _ => none
  | k + 1, x8, x10, x12, x13 => if x12 < (x8.length : Int) then (sub_Touch.j2 k x8 x10 x12 x13 (decide (x13 < (x10.length : Int)))) else (sub_Touch.j2 k x8 x10 x12 x13 false)
def sub_Touch.j2 : Nat → List (S52) → List (S52) → Int → Int → Bool → Option (Bool × Int)
  | 0, _, _, _, _, _ => none
  | k + 1, x8, x10, x12, x13, x41 => if x41 = true then (if 0 ≤ x12 then (if x12 < (x8.length : Int) then (if 0 ≤ x13 then (if x13 < (x10.length : Int) then (if ((rd_T52 x8 x12).f1) < ((rd_T52 x10 x13).f0) then (sub_Touch.l0 k x8 x10 (wrap64 (x12 + 1)) x13) else (if ((rd_T52 x10 x13).f1) < ((rd_T52 x8 x12).f0) then (sub_Touch.l0 k x8 x10 x12 (wrap64 (x13 + 1))) else (some (true, 0)))) else (none)) else (none)) else (none)) else (none)) else (some (false, 0))
end
def sub_Touch.f (k : Nat) (a0 : Int) (a1_0 : Int) (a1_1 : Int) (a2_0 : Int) (a2_1 : Int) : Option (Bool × Int) := (sub_Leaves.f k a0 a1_0 a1_1).bind fun bt494 => ((sub_Leaves.f k a0 a2_0 a2_1).bind fun bt498 => (if bt494.2 = 0 then (sub_Touch.j0 k bt494.1 bt498.1 (bt498.2 != 0)) else (sub_Touch.j0 k bt494.1 bt498.1 true)))
theorem sub_Touch.mono_l : ∀ k, (∀ y0 y1 y2, LeO (sub_Touch.j0 k y0 y1 y2) (sub_Touch.j0 (k + 1) y0 y1 y2)) ∧ (∀ y0 y1 y2 y3, LeO (sub_Touch.l0 k y0 y1 y2 y3) (sub_Touch.l0 (k + 1) y0 y1 y2 y3)) ∧ (∀ y0 y1 y2 y3 y4, LeO (sub_Touch.j2 k y0 y1 y2 y3 y4) (sub_Touch.j2 (k + 1) y0 y1 y2 y3 y4))
  | 0 => ⟨fun _ _ _ r h => by simp [sub_Touch.j0] at h, fun _ _ _ _ r h => by simp [sub_Touch.l0] at h, fun _ _ _ _ _ r h => by simp [sub_Touch.j2] at h⟩
  | k + 1 => by
    obtain ⟨ih0, ih1, ih2⟩ := sub_Touch.mono_l k
    refine ⟨?_, ?_, ?_⟩
    · intro y0 y1 y2
      unfold sub_Touch.j0
      repeat' first
      | (with_reducible exact ih0 _ _ _)
      | (with_reducible exact ih1 _ _ _ _)
      | (with_reducible exact ih2 _ _ _ _ _)
      | (with_reducible exact sub_Leaves.mono _ _ _ _)
      | (with_reducible exact LeO.refl _)
      | (with_reducible exact LeO.none _)
      | (with_reducible refine LeO.ite ?_ ?_)
      | (with_reducible refine LeO.bind ?_ (fun _ => ?_))
      | exact ih0 _ _ _
      | exact ih1 _ _ _ _
      | exact ih2 _ _ _ _ _
      | exact sub_Leaves.mono _ _ _ _
      | exact LeO.none _
      | refine LeO.ite ?_ ?_
      | refine LeO.bind ?_ (fun _ => ?_)
    · intro y0 y1 y2 y3
      unfold sub_Touch.l0
      repeat' first
      | (with_reducible exact ih0 _ _ _)
      | (with_reducible exact ih1 _ _ _ _)
      | (with_reducible exact ih2 _ _ _ _ _)
      | (with_reducible exact sub_Leaves.mono _ _ _ _)
      | (with_reducible exact LeO.refl _)
      | (with_reducible exact LeO.none _)
      | (with_reducible refine LeO.ite ?_ ?_)
      | (with_reducible refine LeO.bind ?_ (fun _ => ?_))
      | exact ih0 _ _ _
      | exact ih1 _ _ _ _
      | exact ih2 _ _ _ _ _
      | exact sub_Leaves.mono _ _ _ _
      | exact LeO.none _
      | refine LeO.ite ?_ ?_
      | refine LeO.bind ?_ (fun _ => ?_)
    · intro y0 y1 y2 y3 y4
      unfold sub_Touch.j2
      repeat' first
      | (with_reducible exact ih0 _ _ _)
      | (with_reducible exact ih1 _ _ _ _)
      | (with_reducible exact ih2 _ _ _ _ _)
      | (with_reducible exact sub_Leaves.mono _ _ _ _)
      | (with_reducible exact LeO.refl _)
      | (with_reducible exact LeO.none _)
      | (with_reducible refine LeO.ite ?_ ?_)
      | (with_reducible refine LeO.bind ?_ (fun _ => ?_))
      | exact ih0 _ _ _
      | exact ih1 _ _ _ _
      | exact ih2 _ _ _ _ _
      | exact sub_Leaves.mono _ _ _ _
      | exact LeO.none _
      | refine LeO.ite ?_ ?_
      | refine LeO.bind ?_ (fun _ => ?_)
theorem sub_Touch.mono : ∀ a0 a1 a2 a3 a4 k, LeO (sub_Touch.f k a0 a1 a2 a3 a4) (sub_Touch.f (k + 1) a0 a1 a2 a3 a4) := by
  intro a0 a1 a2 a3 a4 k
  obtain ⟨ih0, ih1, ih2⟩ := sub_Touch.mono_l k
  unfold sub_Touch.f
  repeat' first
      | (with_reducible exact ih0 _ _ _)
      | (with_reducible exact ih1 _ _ _ _)
      | (with_reducible exact ih2 _ _ _ _ _)
      | (with_reducible exact sub_Leaves.mono _ _ _ _)
      | (with_reducible exact LeO.refl _)
      | (with_reducible exact LeO.none _)
      | (with_reducible refine LeO.ite ?_ ?_)
      | (with_reducible refine LeO.bind ?_ (fun _ => ?_))
      | exact ih0 _ _ _
      | exact ih1 _ _ _ _
      | exact ih2 _ _ _ _ _
      | exact sub_Leaves.mono _ _ _ _
      | exact LeO.none _
      | refine LeO.ite ?_ ?_
      | refine LeO.bind ?_ (fun _ => ?_)
set_option maxHeartbeats 8000000 in
set_option maxRecDepth 100000 in
theorem sub_Touch.calls (k : Nat) (a0 : Int) (a1_0 : Int) (a1_1 : Int) (a2_0 : Int) (a2_1 : Int) (r1 : Bool) (r2 : Int) (w : World) (h : sub_Touch.f k a0 a1_0 a1_1 a2_0 a2_1 = some (r1, r2)) :
    Calls Try.prog 25 #[.int .i64 a0, .agg #[.int .u64 a1_0, .int .u64 a1_1], .agg #[.int .u64 a2_0, .int .u64 a2_1]] w fun e w' => e = .returned (.tuple #[.bool r1, .int .i64 r2]) ∧ Below w.heap.size w w' := by
  have hu34 := Try.underlying34
  have HB := Aside0.mk (Below.refl w.heap.size w)
  have H : ((sub_Leaves.f k a0 a1_0 a1_1).bind fun bt494 => ((sub_Leaves.f k a0 a2_0 a2_1).bind fun bt498 => (if bt494.2 = 0 then (sub_Touch.j0 k bt494.1 bt498.1 (bt498.2 != 0)) else (sub_Touch.j0 k bt494.1 bt498.1 true)))) = some (r1, r2) := h
  clear h
  replace H := Option.bind_eq_some_iff.mp H
  obtain ⟨⟨t494, t497⟩, A40, H⟩ := H
  replace H : ((sub_Leaves.f k a0 a2_0 a2_1).bind fun bt498 => (if t497 = 0 then (sub_Touch.j0 k t494 bt498.1 (bt498.2 != 0)) else (sub_Touch.j0 k t494 bt498.1 true))) = some (r1, r2) := H
  have A4 := Aside0.mk A40
  clear A40
  replace H := Option.bind_eq_some_iff.mp H
  obtain ⟨⟨t498, t501⟩, A50, H⟩ := H
  replace H : (if t497 = 0 then (sub_Touch.j0 k t494 t498 (t501 != 0)) else (sub_Touch.j0 k t494 t498 true)) = some (r1, r2) := H
  have A5 := Aside0.mk A50
  clear A50
  have HC6 := Aside0.mk H
  clear H
  go_enter Try.func25, Try.ntmps25
  go_upto_region 3 with (first | ((with_reducible refine gate_dst (N := 4) rfl ?_); (try (refine gate_guard (by rfl) ?_; dsimp only)); refine box_event ?hg (N := 4) ?hd (cs := #[.int .u64 a1_0, .int .u64 a1_1]) (t := 34) ?hr ?_; (case hd => rfl); (case hg => rfl); (case hr => first | (go_simp; done) | (go_simp; rfl)); intro gb492 hg w7 hbox hb; have n0_ := Aside0.mk (below_step (by repeat (first | (with_reducible first | exact HB.out | apply below_alloc | apply pw_below_drewN | apply below_drew1) | exact HB.out)) hb); have n1_ := Aside0.mk (hbox); have n2_ := Aside0.mk ((by rw [hg]; exact (below_size (by repeat (first | (with_reducible first | exact HB.out | apply below_alloc | apply pw_below_drewN | apply below_drew1) | exact HB.out))) : w.heap.size ≤ gb492)); have n3_ := Aside0.mk ((by rw [hg]; exact (below_size (by repeat (first | (with_reducible first | exact HB.out | apply below_alloc | apply pw_below_drewN | apply below_drew1) | exact HB.out))) : w.heap.size ≤ gb492)); clear HB; have HB := n0_; have BK492 := n1_; have GW492 := n2_; have GE492 := n3_; clear n0_ n1_ n2_ n3_; clear hb hbox hg) | ((with_reducible refine gate_dst (N := 5) rfl ?_); (try (refine gate_guard (by rfl) ?_; dsimp only)); refine box_event ?hg (N := 5) ?hd (cs := #[.int .u64 a2_0, .int .u64 a2_1]) (t := 34) ?hr ?_; (case hd => rfl); (case hg => rfl); (case hr => first | (go_simp; done) | (go_simp; rfl)); intro gb493 hg w8 hbox hb; have n0_ := Aside0.mk (blk_below (g := gb492) (o := .cells #[.int .u64 a1_0, .int .u64 a1_1] 34 (0, 0)) (by (with_reducible repeat (first | refine blk_drewN ?_ _ | refine blk_drew ?_ | refine blk_alloc ?_ _)); exact BK492.out) hb); have n1_ := Aside0.mk (below_step (by repeat (first | (with_reducible first | exact HB.out | apply below_alloc | apply pw_below_drewN | apply below_drew1 | refine below_set ?_ GE492.out) | exact HB.out)) hb); have n2_ := Aside0.mk (hbox); have n3_ := Aside0.mk ((by rw [hg]; exact (below_size (by repeat (first | (with_reducible first | exact HB.out | apply below_alloc | apply pw_below_drewN | apply below_drew1 | refine below_set ?_ GE492.out) | exact HB.out))) : w.heap.size ≤ gb493)); have n4_ := Aside0.mk ((by rw [hg]; exact (below_size (by repeat (first | (with_reducible first | exact HB.out | apply below_alloc | apply pw_below_drewN | apply below_drew1 | refine below_set ?_ GE492.out) | exact HB.out))) : w.heap.size ≤ gb493)); have n5_ := Aside0.mk ((by rw [hg]; exact Nat.ne_of_lt (blk_lt (g := gb492) (o := .cells #[.int .u64 a1_0, .int .u64 a1_1] 34 (0, 0)) (by (with_reducible repeat (first | refine blk_drewN ?_ _ | refine blk_drew ?_ | refine blk_alloc ?_ _)); exact BK492.out)) : gb492 ≠ gb493)); have n6_ := Aside0.mk ((by rw [hg]; exact Nat.ne_of_gt (blk_lt (g := gb492) (o := .cells #[.int .u64 a1_0, .int .u64 a1_1] 34 (0, 0)) (by (with_reducible repeat (first | refine blk_drewN ?_ _ | refine blk_drew ?_ | refine blk_alloc ?_ _)); exact BK492.out)) : gb493 ≠ gb492)); clear BK492; clear HB; have BK492 := n0_; have HB := n1_; have BK493 := n2_; have GW493 := n3_; have GE493 := n4_; have NB492_493 := n5_; have NB493_492 := n6_; clear n0_ n1_ n2_ n3_ n4_ n5_ n6_; clear hb hbox hg; have hnb9 := NB492_493.out; have hnc9 := NB493_492.out; have hcz10_0 : w8.cell? ⟨gb492, 0, none⟩ = some (.int .u64 a1_0) := (blk_cell BK492.out 0).trans rfl; have hcz10_1 : w8.cell? ⟨gb492, 1, none⟩ = some (.int .u64 a1_1) := (blk_cell BK492.out 1).trans rfl; have hfz10_0 := blk_frozen BK492.out 0; have hfz10_1 := blk_frozen BK492.out 1) | (go_at_call 26; (with_reducible refine (sub_Leaves.calls k a0 a1_0 a1_1 t494 t497 _ A4.out).mono ?_); rintro e w11 ⟨v495, rfl, ho0, hb⟩; have n0_ := Aside0.mk (Kd.R_lower ho0 (below_size (by repeat (first | (with_reducible first | exact HB.out | apply below_alloc | apply pw_below_drewN | apply below_drew1 | refine below_set ?_ GE492.out | refine below_set ?_ GE493.out) | exact HB.out)))); have n1_ := Aside0.mk (blk_below (g := gb492) (o := .cells #[.int .u64 a1_0, .int .u64 a1_1] 34 (0, 0)) (by (with_reducible repeat (first | refine blk_drewN ?_ _ | refine blk_drew ?_ | refine blk_alloc ?_ _)); exact BK492.out) hb); have n2_ := Aside0.mk (blk_below (g := gb493) (o := .cells #[.int .u64 a2_0, .int .u64 a2_1] 34 (0, 0)) (by (with_reducible repeat (first | refine blk_drewN ?_ _ | refine blk_drew ?_ | refine blk_alloc ?_ _)); exact BK493.out) hb); have n3_ := Aside0.mk (below_step (by repeat (first | (with_reducible first | exact HB.out | apply below_alloc | apply pw_below_drewN | apply below_drew1 | refine below_set ?_ GE492.out | refine below_set ?_ GE493.out) | exact HB.out)) hb); clear BK492; clear BK493; clear HB; have HO496 := n0_; have BK492 := n1_; have BK493 := n2_; have HB := n3_; clear n0_ n1_ n2_ n3_; (try clear hb); (try clear hb2); (try clear hk); (try clear hi); (try clear ho0); have hcz12_0 : w11.cell? ⟨gb493, 0, none⟩ = some (.int .u64 a2_0) := (blk_cell BK493.out 0).trans rfl; have hcz12_1 : w11.cell? ⟨gb493, 1, none⟩ = some (.int .u64 a2_1) := (blk_cell BK493.out 1).trans rfl; have hfz12_0 := blk_frozen BK493.out 0; have hfz12_1 := blk_frozen BK493.out 1) | (go_at_call 26; (with_reducible refine (sub_Leaves.calls k a0 a2_0 a2_1 t498 t501 _ A5.out).mono ?_); rintro e w13 ⟨v499, rfl, ho0, hb⟩; have n0_ := Aside0.mk (Kd.R_elder' (by (with_reducible repeat (first | apply Kd.R_alloc | apply Kd.R_drewN | apply Kd.R_drew)); exact HO496.out) (Kd.R_base ho0) hb); have n1_ := Aside0.mk (Kd.R_lower (Kd.R_new' ho0 (Kd.R_lt (by (with_reducible repeat (first | apply Kd.R_alloc | apply Kd.R_drewN | apply Kd.R_drew)); exact HO496.out))) (below_size (by repeat (first | (with_reducible first | exact HB.out | apply below_alloc | apply pw_below_drewN | apply below_drew1 | refine below_set ?_ GE492.out | refine below_set ?_ GE493.out) | exact HB.out)))); have n2_ := Aside0.mk (blk_below (g := gb492) (o := .cells #[.int .u64 a1_0, .int .u64 a1_1] 34 (0, 0)) (by (with_reducible repeat (first | refine blk_drewN ?_ _ | refine blk_drew ?_ | refine blk_alloc ?_ _)); exact BK492.out) hb); have n3_ := Aside0.mk (blk_below (g := gb493) (o := .cells #[.int .u64 a2_0, .int .u64 a2_1] 34 (0, 0)) (by (with_reducible repeat (first | refine blk_drewN ?_ _ | refine blk_drew ?_ | refine blk_alloc ?_ _)); exact BK493.out) hb); have n4_ := Aside0.mk (below_step (by repeat (first | (with_reducible first | exact HB.out | apply below_alloc | apply pw_below_drewN | apply below_drew1 | refine below_set ?_ GE492.out | refine below_set ?_ GE493.out) | exact HB.out)) hb); clear HO496; clear BK492; clear BK493; clear HB; have HO496 := n0_; have HO500 := n1_; have BK492 := n2_; have BK493 := n3_; have HB := n4_; clear n0_ n1_ n2_ n3_ n4_; (try clear hb); (try clear hb2); (try clear hk); (try clear hi); (try clear ho0)))
  repeat (go_quiet (first | ((with_reducible refine gate_dst (N := 4) rfl ?_); (try (refine gate_guard (by rfl) ?_; dsimp only)); refine box_event ?hg (N := 4) ?hd (cs := #[.int .u64 a1_0, .int .u64 a1_1]) (t := 34) ?hr ?_; (case hd => rfl); (case hg => rfl); (case hr => first | (go_simp; done) | (go_simp; rfl)); intro gb492 hg w7 hbox hb; have n0_ := Aside0.mk (below_step (by repeat (first | (with_reducible first | exact HB.out | apply below_alloc | apply pw_below_drewN | apply below_drew1) | exact HB.out)) hb); have n1_ := Aside0.mk (hbox); have n2_ := Aside0.mk ((by rw [hg]; exact (below_size (by repeat (first | (with_reducible first | exact HB.out | apply below_alloc | apply pw_below_drewN | apply below_drew1) | exact HB.out))) : w.heap.size ≤ gb492)); have n3_ := Aside0.mk ((by rw [hg]; exact (below_size (by repeat (first | (with_reducible first | exact HB.out | apply below_alloc | apply pw_below_drewN | apply below_drew1) | exact HB.out))) : w.heap.size ≤ gb492)); clear HB; have HB := n0_; have BK492 := n1_; have GW492 := n2_; have GE492 := n3_; clear n0_ n1_ n2_ n3_; clear hb hbox hg) | ((with_reducible refine gate_dst (N := 5) rfl ?_); (try (refine gate_guard (by rfl) ?_; dsimp only)); refine box_event ?hg (N := 5) ?hd (cs := #[.int .u64 a2_0, .int .u64 a2_1]) (t := 34) ?hr ?_; (case hd => rfl); (case hg => rfl); (case hr => first | (go_simp; done) | (go_simp; rfl)); intro gb493 hg w8 hbox hb; have n0_ := Aside0.mk (blk_below (g := gb492) (o := .cells #[.int .u64 a1_0, .int .u64 a1_1] 34 (0, 0)) (by (with_reducible repeat (first | refine blk_drewN ?_ _ | refine blk_drew ?_ | refine blk_alloc ?_ _)); exact BK492.out) hb); have n1_ := Aside0.mk (below_step (by repeat (first | (with_reducible first | exact HB.out | apply below_alloc | apply pw_below_drewN | apply below_drew1 | refine below_set ?_ GE492.out) | exact HB.out)) hb); have n2_ := Aside0.mk (hbox); have n3_ := Aside0.mk ((by rw [hg]; exact (below_size (by repeat (first | (with_reducible first | exact HB.out | apply below_alloc | apply pw_below_drewN | apply below_drew1 | refine below_set ?_ GE492.out) | exact HB.out))) : w.heap.size ≤ gb493)); have n4_ := Aside0.mk ((by rw [hg]; exact (below_size (by repeat (first | (with_reducible first | exact HB.out | apply below_alloc | apply pw_below_drewN | apply below_drew1 | refine below_set ?_ GE492.out) | exact HB.out))) : w.heap.size ≤ gb493)); have n5_ := Aside0.mk ((by rw [hg]; exact Nat.ne_of_lt (blk_lt (g := gb492) (o := .cells #[.int .u64 a1_0, .int .u64 a1_1] 34 (0, 0)) (by (with_reducible repeat (first | refine blk_drewN ?_ _ | refine blk_drew ?_ | refine blk_alloc ?_ _)); exact BK492.out)) : gb492 ≠ gb493)); have n6_ := Aside0.mk ((by rw [hg]; exact Nat.ne_of_gt (blk_lt (g := gb492) (o := .cells #[.int .u64 a1_0, .int .u64 a1_1] 34 (0, 0)) (by (with_reducible repeat (first | refine blk_drewN ?_ _ | refine blk_drew ?_ | refine blk_alloc ?_ _)); exact BK492.out)) : gb493 ≠ gb492)); clear BK492; clear HB; have BK492 := n0_; have HB := n1_; have BK493 := n2_; have GW493 := n3_; have GE493 := n4_; have NB492_493 := n5_; have NB493_492 := n6_; clear n0_ n1_ n2_ n3_ n4_ n5_ n6_; clear hb hbox hg; have hnb9 := NB492_493.out; have hnc9 := NB493_492.out; have hcz10_0 : w8.cell? ⟨gb492, 0, none⟩ = some (.int .u64 a1_0) := (blk_cell BK492.out 0).trans rfl; have hcz10_1 : w8.cell? ⟨gb492, 1, none⟩ = some (.int .u64 a1_1) := (blk_cell BK492.out 1).trans rfl; have hfz10_0 := blk_frozen BK492.out 0; have hfz10_1 := blk_frozen BK492.out 1) | (go_at_call 26; (with_reducible refine (sub_Leaves.calls k a0 a1_0 a1_1 t494 t497 _ A4.out).mono ?_); rintro e w11 ⟨v495, rfl, ho0, hb⟩; have n0_ := Aside0.mk (Kd.R_lower ho0 (below_size (by repeat (first | (with_reducible first | exact HB.out | apply below_alloc | apply pw_below_drewN | apply below_drew1 | refine below_set ?_ GE492.out | refine below_set ?_ GE493.out) | exact HB.out)))); have n1_ := Aside0.mk (blk_below (g := gb492) (o := .cells #[.int .u64 a1_0, .int .u64 a1_1] 34 (0, 0)) (by (with_reducible repeat (first | refine blk_drewN ?_ _ | refine blk_drew ?_ | refine blk_alloc ?_ _)); exact BK492.out) hb); have n2_ := Aside0.mk (blk_below (g := gb493) (o := .cells #[.int .u64 a2_0, .int .u64 a2_1] 34 (0, 0)) (by (with_reducible repeat (first | refine blk_drewN ?_ _ | refine blk_drew ?_ | refine blk_alloc ?_ _)); exact BK493.out) hb); have n3_ := Aside0.mk (below_step (by repeat (first | (with_reducible first | exact HB.out | apply below_alloc | apply pw_below_drewN | apply below_drew1 | refine below_set ?_ GE492.out | refine below_set ?_ GE493.out) | exact HB.out)) hb); clear BK492; clear BK493; clear HB; have HO496 := n0_; have BK492 := n1_; have BK493 := n2_; have HB := n3_; clear n0_ n1_ n2_ n3_; (try clear hb); (try clear hb2); (try clear hk); (try clear hi); (try clear ho0); have hcz12_0 : w11.cell? ⟨gb493, 0, none⟩ = some (.int .u64 a2_0) := (blk_cell BK493.out 0).trans rfl; have hcz12_1 : w11.cell? ⟨gb493, 1, none⟩ = some (.int .u64 a2_1) := (blk_cell BK493.out 1).trans rfl; have hfz12_0 := blk_frozen BK493.out 0; have hfz12_1 := blk_frozen BK493.out 1) | (go_at_call 26; (with_reducible refine (sub_Leaves.calls k a0 a2_0 a2_1 t498 t501 _ A5.out).mono ?_); rintro e w13 ⟨v499, rfl, ho0, hb⟩; have n0_ := Aside0.mk (Kd.R_elder' (by (with_reducible repeat (first | apply Kd.R_alloc | apply Kd.R_drewN | apply Kd.R_drew)); exact HO496.out) (Kd.R_base ho0) hb); have n1_ := Aside0.mk (Kd.R_lower (Kd.R_new' ho0 (Kd.R_lt (by (with_reducible repeat (first | apply Kd.R_alloc | apply Kd.R_drewN | apply Kd.R_drew)); exact HO496.out))) (below_size (by repeat (first | (with_reducible first | exact HB.out | apply below_alloc | apply pw_below_drewN | apply below_drew1 | refine below_set ?_ GE492.out | refine below_set ?_ GE493.out) | exact HB.out)))); have n2_ := Aside0.mk (blk_below (g := gb492) (o := .cells #[.int .u64 a1_0, .int .u64 a1_1] 34 (0, 0)) (by (with_reducible repeat (first | refine blk_drewN ?_ _ | refine blk_drew ?_ | refine blk_alloc ?_ _)); exact BK492.out) hb); have n3_ := Aside0.mk (blk_below (g := gb493) (o := .cells #[.int .u64 a2_0, .int .u64 a2_1] 34 (0, 0)) (by (with_reducible repeat (first | refine blk_drewN ?_ _ | refine blk_drew ?_ | refine blk_alloc ?_ _)); exact BK493.out) hb); have n4_ := Aside0.mk (below_step (by repeat (first | (with_reducible first | exact HB.out | apply below_alloc | apply pw_below_drewN | apply below_drew1 | refine below_set ?_ GE492.out | refine below_set ?_ GE493.out) | exact HB.out)) hb); clear HO496; clear BK492; clear BK493; clear HB; have HO496 := n0_; have HO500 := n1_; have BK492 := n2_; have BK493 := n3_; have HB := n4_; clear n0_ n1_ n2_ n3_ n4_; (try clear hb); (try clear hb2); (try clear hk); (try clear hi); (try clear ho0))); go_upto_region 3 with (first | ((with_reducible refine gate_dst (N := 4) rfl ?_); (try (refine gate_guard (by rfl) ?_; dsimp only)); refine box_event ?hg (N := 4) ?hd (cs := #[.int .u64 a1_0, .int .u64 a1_1]) (t := 34) ?hr ?_; (case hd => rfl); (case hg => rfl); (case hr => first | (go_simp; done) | (go_simp; rfl)); intro gb492 hg w7 hbox hb; have n0_ := Aside0.mk (below_step (by repeat (first | (with_reducible first | exact HB.out | apply below_alloc | apply pw_below_drewN | apply below_drew1) | exact HB.out)) hb); have n1_ := Aside0.mk (hbox); have n2_ := Aside0.mk ((by rw [hg]; exact (below_size (by repeat (first | (with_reducible first | exact HB.out | apply below_alloc | apply pw_below_drewN | apply below_drew1) | exact HB.out))) : w.heap.size ≤ gb492)); have n3_ := Aside0.mk ((by rw [hg]; exact (below_size (by repeat (first | (with_reducible first | exact HB.out | apply below_alloc | apply pw_below_drewN | apply below_drew1) | exact HB.out))) : w.heap.size ≤ gb492)); clear HB; have HB := n0_; have BK492 := n1_; have GW492 := n2_; have GE492 := n3_; clear n0_ n1_ n2_ n3_; clear hb hbox hg) | ((with_reducible refine gate_dst (N := 5) rfl ?_); (try (refine gate_guard (by rfl) ?_; dsimp only)); refine box_event ?hg (N := 5) ?hd (cs := #[.int .u64 a2_0, .int .u64 a2_1]) (t := 34) ?hr ?_; (case hd => rfl); (case hg => rfl); (case hr => first | (go_simp; done) | (go_simp; rfl)); intro gb493 hg w8 hbox hb; have n0_ := Aside0.mk (blk_below (g := gb492) (o := .cells #[.int .u64 a1_0, .int .u64 a1_1] 34 (0, 0)) (by (with_reducible repeat (first | refine blk_drewN ?_ _ | refine blk_drew ?_ | refine blk_alloc ?_ _)); exact BK492.out) hb); have n1_ := Aside0.mk (below_step (by repeat (first | (with_reducible first | exact HB.out | apply below_alloc | apply pw_below_drewN | apply below_drew1 | refine below_set ?_ GE492.out) | exact HB.out)) hb); have n2_ := Aside0.mk (hbox); have n3_ := Aside0.mk ((by rw [hg]; exact (below_size (by repeat (first | (with_reducible first | exact HB.out | apply below_alloc | apply pw_below_drewN | apply below_drew1 | refine below_set ?_ GE492.out) | exact HB.out))) : w.heap.size ≤ gb493)); have n4_ := Aside0.mk ((by rw [hg]; exact (below_size (by repeat (first | (with_reducible first | exact HB.out | apply below_alloc | apply pw_below_drewN | apply below_drew1 | refine below_set ?_ GE492.out) | exact HB.out))) : w.heap.size ≤ gb493)); have n5_ := Aside0.mk ((by rw [hg]; exact Nat.ne_of_lt (blk_lt (g := gb492) (o := .cells #[.int .u64 a1_0, .int .u64 a1_1] 34 (0, 0)) (by (with_reducible repeat (first | refine blk_drewN ?_ _ | refine blk_drew ?_ | refine blk_alloc ?_ _)); exact BK492.out)) : gb492 ≠ gb493)); have n6_ := Aside0.mk ((by rw [hg]; exact Nat.ne_of_gt (blk_lt (g := gb492) (o := .cells #[.int .u64 a1_0, .int .u64 a1_1] 34 (0, 0)) (by (with_reducible repeat (first | refine blk_drewN ?_ _ | refine blk_drew ?_ | refine blk_alloc ?_ _)); exact BK492.out)) : gb493 ≠ gb492)); clear BK492; clear HB; have BK492 := n0_; have HB := n1_; have BK493 := n2_; have GW493 := n3_; have GE493 := n4_; have NB492_493 := n5_; have NB493_492 := n6_; clear n0_ n1_ n2_ n3_ n4_ n5_ n6_; clear hb hbox hg; have hnb9 := NB492_493.out; have hnc9 := NB493_492.out; have hcz10_0 : w8.cell? ⟨gb492, 0, none⟩ = some (.int .u64 a1_0) := (blk_cell BK492.out 0).trans rfl; have hcz10_1 : w8.cell? ⟨gb492, 1, none⟩ = some (.int .u64 a1_1) := (blk_cell BK492.out 1).trans rfl; have hfz10_0 := blk_frozen BK492.out 0; have hfz10_1 := blk_frozen BK492.out 1) | (go_at_call 26; (with_reducible refine (sub_Leaves.calls k a0 a1_0 a1_1 t494 t497 _ A4.out).mono ?_); rintro e w11 ⟨v495, rfl, ho0, hb⟩; have n0_ := Aside0.mk (Kd.R_lower ho0 (below_size (by repeat (first | (with_reducible first | exact HB.out | apply below_alloc | apply pw_below_drewN | apply below_drew1 | refine below_set ?_ GE492.out | refine below_set ?_ GE493.out) | exact HB.out)))); have n1_ := Aside0.mk (blk_below (g := gb492) (o := .cells #[.int .u64 a1_0, .int .u64 a1_1] 34 (0, 0)) (by (with_reducible repeat (first | refine blk_drewN ?_ _ | refine blk_drew ?_ | refine blk_alloc ?_ _)); exact BK492.out) hb); have n2_ := Aside0.mk (blk_below (g := gb493) (o := .cells #[.int .u64 a2_0, .int .u64 a2_1] 34 (0, 0)) (by (with_reducible repeat (first | refine blk_drewN ?_ _ | refine blk_drew ?_ | refine blk_alloc ?_ _)); exact BK493.out) hb); have n3_ := Aside0.mk (below_step (by repeat (first | (with_reducible first | exact HB.out | apply below_alloc | apply pw_below_drewN | apply below_drew1 | refine below_set ?_ GE492.out | refine below_set ?_ GE493.out) | exact HB.out)) hb); clear BK492; clear BK493; clear HB; have HO496 := n0_; have BK492 := n1_; have BK493 := n2_; have HB := n3_; clear n0_ n1_ n2_ n3_; (try clear hb); (try clear hb2); (try clear hk); (try clear hi); (try clear ho0); have hcz12_0 : w11.cell? ⟨gb493, 0, none⟩ = some (.int .u64 a2_0) := (blk_cell BK493.out 0).trans rfl; have hcz12_1 : w11.cell? ⟨gb493, 1, none⟩ = some (.int .u64 a2_1) := (blk_cell BK493.out 1).trans rfl; have hfz12_0 := blk_frozen BK493.out 0; have hfz12_1 := blk_frozen BK493.out 1) | (go_at_call 26; (with_reducible refine (sub_Leaves.calls k a0 a2_0 a2_1 t498 t501 _ A5.out).mono ?_); rintro e w13 ⟨v499, rfl, ho0, hb⟩; have n0_ := Aside0.mk (Kd.R_elder' (by (with_reducible repeat (first | apply Kd.R_alloc | apply Kd.R_drewN | apply Kd.R_drew)); exact HO496.out) (Kd.R_base ho0) hb); have n1_ := Aside0.mk (Kd.R_lower (Kd.R_new' ho0 (Kd.R_lt (by (with_reducible repeat (first | apply Kd.R_alloc | apply Kd.R_drewN | apply Kd.R_drew)); exact HO496.out))) (below_size (by repeat (first | (with_reducible first | exact HB.out | apply below_alloc | apply pw_below_drewN | apply below_drew1 | refine below_set ?_ GE492.out | refine below_set ?_ GE493.out) | exact HB.out)))); have n2_ := Aside0.mk (blk_below (g := gb492) (o := .cells #[.int .u64 a1_0, .int .u64 a1_1] 34 (0, 0)) (by (with_reducible repeat (first | refine blk_drewN ?_ _ | refine blk_drew ?_ | refine blk_alloc ?_ _)); exact BK492.out) hb); have n3_ := Aside0.mk (blk_below (g := gb493) (o := .cells #[.int .u64 a2_0, .int .u64 a2_1] 34 (0, 0)) (by (with_reducible repeat (first | refine blk_drewN ?_ _ | refine blk_drew ?_ | refine blk_alloc ?_ _)); exact BK493.out) hb); have n4_ := Aside0.mk (below_step (by repeat (first | (with_reducible first | exact HB.out | apply below_alloc | apply pw_below_drewN | apply below_drew1 | refine below_set ?_ GE492.out | refine below_set ?_ GE493.out) | exact HB.out)) hb); clear HO496; clear BK492; clear BK493; clear HB; have HO496 := n0_; have HO500 := n1_; have BK492 := n2_; have BK493 := n3_; have HB := n4_; clear n0_ n1_ n2_ n3_ n4_; (try clear hb); (try clear hb2); (try clear hk); (try clear hi); (try clear ho0))))
  (try simp only [Act.put, List.setIfInBounds_toArray, List.set_cons_zero, List.set_cons_succ])
  go_cut [31] (fun v31 wc => ∃ (kq : Nat) (x31_5 : Bool), v31 = .bool x31_5 ∧ Aside0 (sub_Touch.j0 kq t494 t498 x31_5 = some (r1, r2)) ∧ Aside0 (kq ≤ k) ∧ Aside0 (Kd.R k52 52 wc w.heap.size (fun k_ => some k_ ≠ (v499 : Value).ownBlock) v495 t494) ∧ Aside0 (Kd.R k52 52 wc w.heap.size (fun k_ => some k_ ≠ (v495 : Value).ownBlock) v499 t498) ∧ Aside0 (wc.heap[gb492]? = some (.cells #[.int .u64 a1_0, .int .u64 a1_1] 34 (0, 0))) ∧ Aside0 (wc.heap[gb493]? = some (.cells #[.int .u64 a2_0, .int .u64 a2_1] 34 (0, 0))) ∧ Aside0 (Below w.heap.size w wc))
  case first =>
    have H := HC6.out
    clear HC6
    by_cases c14 : t497 = 0
    · rw [if_pos c14] at H
      have c14b0 : (t497 == 0) = true := beq_iff_eq.mpr c14
      have c14b1 : (t497 != 0) = false := bne_eq_false_iff_eq.mpr c14
      clear c14
      (first | rw [c14b0] | (simp only [i64_w, i32_w]; rw [c14b0]) | skip)
      have H' := Aside0.mk H
      clear H
      go_wp2
      repeat (go_quiet (fail); try go_wp2)
      go_meet
      case rel => exact ⟨_, ((t501 != 0)), (by first | rfl | (simp; done) | (simp [*]; done)), H', ⟨by first | omega | exact Nat.le_refl _⟩, ⟨by (with_reducible repeat (first | apply Kd.R_alloc | apply Kd.R_drewN | apply Kd.R_drew)); exact Kd.R_mono HO496.out (fun _ hk => hk.2)⟩, ⟨by (with_reducible repeat (first | apply Kd.R_alloc | apply Kd.R_drewN | apply Kd.R_drew)); exact Kd.R_mono HO500.out (fun _ hk => hk.2)⟩, ⟨by (with_reducible repeat (first | refine blk_drewN ?_ _ | refine blk_drew ?_ | refine blk_alloc ?_ _)); exact BK492.out⟩, ⟨by (with_reducible repeat (first | refine blk_drewN ?_ _ | refine blk_drew ?_ | refine blk_alloc ?_ _)); exact BK493.out⟩, ⟨by repeat (first | (with_reducible first | exact HB.out | apply below_alloc | apply pw_below_drewN | apply below_drew1 | refine below_set ?_ GE492.out | refine below_set ?_ GE493.out) | exact HB.out)⟩⟩
    · rw [if_neg c14] at H
      have c14b0 : (t497 == 0) = false := beq_eq_false_iff_ne.mpr c14
      have c14b1 : (t497 != 0) = true := bne_iff_ne.mpr c14
      (first | rw [c14b0] | (simp only [i64_w, i32_w]; rw [c14b0]) | skip)
      have H' := Aside0.mk H
      clear H
      go_wp2
      repeat (go_quiet (fail); try go_wp2)
      go_meet
      case rel => exact ⟨_, (true), (by first | rfl | (simp; done) | (simp [*]; done)), H', ⟨by first | omega | exact Nat.le_refl _⟩, ⟨by (with_reducible repeat (first | apply Kd.R_alloc | apply Kd.R_drewN | apply Kd.R_drew)); exact Kd.R_mono HO496.out (fun _ hk => hk.2)⟩, ⟨by (with_reducible repeat (first | apply Kd.R_alloc | apply Kd.R_drewN | apply Kd.R_drew)); exact Kd.R_mono HO500.out (fun _ hk => hk.2)⟩, ⟨by (with_reducible repeat (first | refine blk_drewN ?_ _ | refine blk_drew ?_ | refine blk_alloc ?_ _)); exact BK492.out⟩, ⟨by (with_reducible repeat (first | refine blk_drewN ?_ _ | refine blk_drew ?_ | refine blk_alloc ?_ _)); exact BK493.out⟩, ⟨by repeat (first | (with_reducible first | exact HB.out | apply below_alloc | apply pw_below_drewN | apply below_drew1 | refine below_set ?_ GE492.out | refine below_set ?_ GE493.out) | exact HB.out)⟩⟩
  case rest =>
    clear HC6
    try clear c1
    try clear c2
    try clear p2
    try clear c9
    try clear c14
    try clear c14b0
    try clear c14b1
    try clear hcz10_0
    try clear hcz10_1
    try clear hcz12_0
    try clear hcz12_1
    try clear hfz10_0
    try clear hfz10_1
    try clear hfz12_0
    try clear hfz12_1
    obtain ⟨kq, x31_5, rfl, HA, HJ5, HO_8, HO_10, BK492, BK493, HB⟩ := hcut
    cases kq with
    | zero => exact absurd HA.out (by simp [sub_Touch.j0])
    | succ kj5 =>
      have H := HA.out
      clear HA
      simp only [sub_Touch.j0] at H
      by_cases c15 : x31_5 = true
      · subst c15
        have H1 : (some (false, 1)) = some (r1, r2) := by rw [if_pos rfl] at H; exact H
        clear H
        have H := H1
        clear H1
        simp only [Option.some.injEq, Prod.mk.injEq] at H
        obtain ⟨rfl, rfl⟩ := H
        go_wp2
        repeat (go_quiet (fail); try go_wp2)
        go_ret2
        exact ⟨by first | rfl | (simp [errW_none, errW_some] <;> rfl) | (simp [*, errW_none, errW_some] <;> rfl), by repeat (first | (with_reducible first | exact HB.out | apply below_alloc | apply pw_below_drewN | apply below_drew1 | refine below_set ?_ GE492.out | refine below_set ?_ GE493.out) | exact HB.out)⟩
      · replace c15 := Bool.eq_false_iff.mpr c15
        subst c15
        have H1 : (sub_Touch.l0 kj5 t494 t498 0 0) = some (r1, r2) := by rw [if_neg (show ¬ (false = true) by decide)] at H; exact H
        clear H
        have H := H1
        clear H1
        have H' := Aside0.mk H
        clear H
        go_wp2
        repeat (go_quiet (fail); try go_wp2)
        go_loopg [12, 13] kj5 (fun kq v12 v13 w' => ∃ (x12_2 : Int) (x13_2 : Int), v12 = .int .i64 x12_2 ∧ v13 = .int .i64 x13_2 ∧ Aside0 (sub_Touch.l0 kq t494 t498 x12_2 x13_2 = some (r1, r2)) ∧ Aside0 (kq ≤ kj5) ∧ Aside0 (Kd.R k52 52 w' w.heap.size (fun k_ => some k_ ≠ (v499 : Value).ownBlock) v495 t494) ∧ Aside0 (Kd.R k52 52 w' w.heap.size (fun k_ => some k_ ≠ (v495 : Value).ownBlock) v499 t498) ∧ Aside0 (w'.heap[gb492]? = some (.cells #[.int .u64 a1_0, .int .u64 a1_1] 34 (0, 0))) ∧ Aside0 (w'.heap[gb493]? = some (.cells #[.int .u64 a2_0, .int .u64 a2_1] 34 (0, 0))) ∧ Aside0 (Below w.heap.size w w'))
        case atStart => exact ⟨(0), (0), (by first | rfl | (simp; done) | (simp [*]; done)), (by first | rfl | (simp; done) | (simp [*]; done)), H', ⟨Nat.le_refl _⟩, ⟨by (with_reducible repeat (first | apply Kd.R_alloc | apply Kd.R_drewN | apply Kd.R_drew)); exact HO_8.out⟩, ⟨by (with_reducible repeat (first | apply Kd.R_alloc | apply Kd.R_drewN | apply Kd.R_drew)); exact HO_10.out⟩, ⟨by (with_reducible repeat (first | refine blk_drewN ?_ _ | refine blk_drew ?_ | refine blk_alloc ?_ _)); exact BK492.out⟩, ⟨by (with_reducible repeat (first | refine blk_drewN ?_ _ | refine blk_drew ?_ | refine blk_alloc ?_ _)); exact BK493.out⟩, ⟨by repeat (first | (with_reducible first | exact HB.out | apply below_alloc | apply pw_below_drewN | apply below_drew1 | refine below_set ?_ GE492.out | refine below_set ?_ GE493.out) | exact HB.out)⟩⟩
        case round =>
          clear H'
          try clear c1
          try clear c2
          try clear p2
          try clear c9
          try clear c14
          try clear c14b0
          try clear c14b1
          try clear c15
          try clear hcz10_0
          try clear hcz10_1
          try clear hcz12_0
          try clear hcz12_1
          try clear hfz10_0
          try clear hfz10_1
          try clear hfz12_0
          try clear hfz12_1
          try clear p2
          obtain ⟨x12_2, x13_2, rfl, rfl, HA, HK2, HO_8, HO_10, BK492, BK493, HB⟩ := hrel
          cases gk with
          | zero => exact absurd HA.out (by simp [sub_Touch.l0])
          | succ k2 =>
            have H := HA.out
            clear HA
            simp only [sub_Touch.l0] at H
            have HC16 := Aside0.mk H
            clear H
            go_upto_region 6 with (fail)
            repeat (go_quiet (fail); go_upto_region 6 with (fail))
            go_cut [41] (fun v41 wc => ∃ (kq : Nat) (x41_15 : Bool), v41 = .bool x41_15 ∧ Aside0 (sub_Touch.j2 kq t494 t498 x12_2 x13_2 x41_15 = some (r1, r2)) ∧ Aside0 (kq ≤ k2) ∧ Aside0 (Kd.R k52 52 wc w.heap.size (fun k_ => some k_ ≠ (v499 : Value).ownBlock) v495 t494) ∧ Aside0 (Kd.R k52 52 wc w.heap.size (fun k_ => some k_ ≠ (v495 : Value).ownBlock) v499 t498) ∧ Aside0 (wc.heap[gb492]? = some (.cells #[.int .u64 a1_0, .int .u64 a1_1] 34 (0, 0))) ∧ Aside0 (wc.heap[gb493]? = some (.cells #[.int .u64 a2_0, .int .u64 a2_1] 34 (0, 0))) ∧ Aside0 (Below w.heap.size w wc))
            case first =>
              have H := HC16.out
              clear HC16
              by_cases c17 : x12_2 < (t494.length : Int)
              · rw [if_pos c17] at H
                have c17b0 : decide (x12_2 < (t494.length : Int)) = true := decide_eq_true c17
                clear c17
                (first | rw [c17b0] | (simp only [i64_w, i32_w]; rw [c17b0]) | skip)
                have H' := Aside0.mk H
                clear H
                obtain ⟨Ao18, co18, eo18⟩ := Kd.R_slice HO_8.out
                subst eo18
                obtain ⟨Ao19, co19, eo19⟩ := Kd.R_slice HO_10.out
                subst eo19
                go_wp2
                repeat (go_quiet (fail); try go_wp2)
                go_meet
                case rel => exact ⟨_, (decide (x13_2 < (t498.length : Int))), (by first | rfl | (simp; done) | (simp [*]; done)), H', ⟨by have := HJ5.out; have := HK2.out; first | omega | exact Nat.le_refl _⟩, ⟨by (with_reducible repeat (first | apply Kd.R_alloc | apply Kd.R_drewN | apply Kd.R_drew)); exact HO_8.out⟩, ⟨by (with_reducible repeat (first | apply Kd.R_alloc | apply Kd.R_drewN | apply Kd.R_drew)); exact HO_10.out⟩, ⟨by (with_reducible repeat (first | refine blk_drewN ?_ _ | refine blk_drew ?_ | refine blk_alloc ?_ _)); exact BK492.out⟩, ⟨by (with_reducible repeat (first | refine blk_drewN ?_ _ | refine blk_drew ?_ | refine blk_alloc ?_ _)); exact BK493.out⟩, ⟨by repeat (first | (with_reducible first | exact HB.out | apply below_alloc | apply pw_below_drewN | apply below_drew1 | refine below_set ?_ GE492.out | refine below_set ?_ GE493.out) | exact HB.out)⟩⟩
              · rw [if_neg c17] at H
                have c17b0 : decide (x12_2 < (t494.length : Int)) = false := decide_eq_false c17
                clear c17
                (first | rw [c17b0] | (simp only [i64_w, i32_w]; rw [c17b0]) | skip)
                have H' := Aside0.mk H
                clear H
                obtain ⟨Ao20, co20, eo20⟩ := Kd.R_slice HO_8.out
                subst eo20
                go_wp2
                repeat (go_quiet (fail); try go_wp2)
                go_meet
                case rel => exact ⟨_, (false), (by first | rfl | (simp; done) | (simp [*]; done)), H', ⟨by have := HJ5.out; have := HK2.out; first | omega | exact Nat.le_refl _⟩, ⟨by (with_reducible repeat (first | apply Kd.R_alloc | apply Kd.R_drewN | apply Kd.R_drew)); exact HO_8.out⟩, ⟨by (with_reducible repeat (first | apply Kd.R_alloc | apply Kd.R_drewN | apply Kd.R_drew)); exact HO_10.out⟩, ⟨by (with_reducible repeat (first | refine blk_drewN ?_ _ | refine blk_drew ?_ | refine blk_alloc ?_ _)); exact BK492.out⟩, ⟨by (with_reducible repeat (first | refine blk_drewN ?_ _ | refine blk_drew ?_ | refine blk_alloc ?_ _)); exact BK493.out⟩, ⟨by repeat (first | (with_reducible first | exact HB.out | apply below_alloc | apply pw_below_drewN | apply below_drew1 | refine below_set ?_ GE492.out | refine below_set ?_ GE493.out) | exact HB.out)⟩⟩
            case rest =>
              clear HC16
              try clear c1
              try clear c2
              try clear p2
              try clear c9
              try clear c14
              try clear c14b0
              try clear c14b1
              try clear c15
              try clear c17
              try clear c17b0
              try clear hcz10_0
              try clear hcz10_1
              try clear hcz12_0
              try clear hcz12_1
              try clear hfz10_0
              try clear hfz10_1
              try clear hfz12_0
              try clear hfz12_1
              try clear p2
              obtain ⟨kq, x41_15, rfl, HA, HJ15, HO_8, HO_10, BK492, BK493, HB⟩ := hcut
              cases kq with
              | zero => exact absurd HA.out (by simp [sub_Touch.j2])
              | succ kj15 =>
                have H := HA.out
                clear HA
                simp only [sub_Touch.j2] at H
                by_cases c21 : x41_15 = true
                · subst c21
                  have H1 : (if 0 ≤ x12_2 then (if x12_2 < (t494.length : Int) then (if 0 ≤ x13_2 then (if x13_2 < (t498.length : Int) then (if ((rd_T52 t494 x12_2).f1) < ((rd_T52 t498 x13_2).f0) then (sub_Touch.l0 kj15 t494 t498 (wrap64 (x12_2 + 1)) x13_2) else (if ((rd_T52 t498 x13_2).f1) < ((rd_T52 t494 x12_2).f0) then (sub_Touch.l0 kj15 t494 t498 x12_2 (wrap64 (x13_2 + 1))) else (some (true, 0)))) else (none)) else (none)) else (none)) else (none)) = some (r1, r2) := by rw [if_pos rfl] at H; exact H
                  clear H
                  have H := H1
                  clear H1
                  by_cases c22 : 0 ≤ x12_2
                  · rw [if_pos c22] at H
                    have c22b0 : decide (0 ≤ x12_2) = true := decide_eq_true c22
                    clear c22
                    by_cases c23 : x12_2 < (t494.length : Int)
                    · rw [if_pos c23] at H
                      have c23b0 : decide (x12_2 < (t494.length : Int)) = true := decide_eq_true c23
                      clear c23
                      by_cases c24 : 0 ≤ x13_2
                      · rw [if_pos c24] at H
                        have c24b0 : decide (0 ≤ x13_2) = true := decide_eq_true c24
                        clear c24
                        by_cases c25 : x13_2 < (t498.length : Int)
                        · rw [if_pos c25] at H
                          have c25b0 : decide (x13_2 < (t498.length : Int)) = true := decide_eq_true c25
                          clear c25
                          by_cases c26 : ((rd_T52 t494 x12_2).f1) < ((rd_T52 t498 x13_2).f0)
                          · rw [if_pos c26] at H
                            have c26b0 : decide (((rd_T52 t494 x12_2).f1) < ((rd_T52 t498 x13_2).f0)) = true := decide_eq_true c26
                            clear c26
                            have H' := Aside0.mk H
                            clear H
                            obtain ⟨Ao27, co27, eo27⟩ := Kd.R_slice HO_8.out
                            subst eo27
                            have p502 : 0 ≤ (x12_2 : Int) := of_decide_eq_true (by first | (with_reducible assumption) | assumption)
                            have q502 : x12_2 < (t494.length : Int) := of_decide_eq_true (by first | (with_reducible assumption) | assumption)
                            obtain ⟨ad502, e502, hx502_0, hx502_1⟩ := at_T52 (Kd.R_reads' HO_8.out).2.2 x12_2 p502 q502
                            cases e502
                            replace p502 := eq_true p502
                            replace q502 := eq_true q502
                            obtain ⟨Ao28, co28, eo28⟩ := Kd.R_slice HO_10.out
                            subst eo28
                            have p503 : 0 ≤ (x13_2 : Int) := of_decide_eq_true (by first | (with_reducible assumption) | assumption)
                            have q503 : x13_2 < (t498.length : Int) := of_decide_eq_true (by first | (with_reducible assumption) | assumption)
                            obtain ⟨ad503, e503, hx503_0, hx503_1⟩ := at_T52 (Kd.R_reads' HO_10.out).2.2 x13_2 p503 q503
                            cases e503
                            replace p503 := eq_true p503
                            replace q503 := eq_true q503
                            go_wp2
                            repeat (go_quiet (fail); try go_wp2)
                            go_roundg kj15
                            case measure => have := HJ5.out; have := HK2.out; have := HJ15.out; omega
                            case rel => exact ⟨(wrap64 (x12_2 + 1)), (x13_2), (by first | rfl | (simp; done) | (simp [*]; done)), (by first | rfl | (simp; done) | (simp [*]; done)), H', ⟨by have := HJ5.out; have := HK2.out; have := HJ15.out; omega⟩, ⟨by (with_reducible repeat (first | apply Kd.R_alloc | apply Kd.R_drewN | apply Kd.R_drew)); exact HO_8.out⟩, ⟨by (with_reducible repeat (first | apply Kd.R_alloc | apply Kd.R_drewN | apply Kd.R_drew)); exact HO_10.out⟩, ⟨by (with_reducible repeat (first | refine blk_drewN ?_ _ | refine blk_drew ?_ | refine blk_alloc ?_ _)); exact BK492.out⟩, ⟨by (with_reducible repeat (first | refine blk_drewN ?_ _ | refine blk_drew ?_ | refine blk_alloc ?_ _)); exact BK493.out⟩, ⟨by repeat (first | (with_reducible first | exact HB.out | apply below_alloc | apply pw_below_drewN | apply below_drew1 | refine below_set ?_ GE492.out | refine below_set ?_ GE493.out) | exact HB.out)⟩⟩
                          · rw [if_neg c26] at H
                            have c26b0 : decide (((rd_T52 t494 x12_2).f1) < ((rd_T52 t498 x13_2).f0)) = false := decide_eq_false c26
                            clear c26
                            by_cases c29 : ((rd_T52 t498 x13_2).f1) < ((rd_T52 t494 x12_2).f0)
                            · rw [if_pos c29] at H
                              have c29b0 : decide (((rd_T52 t498 x13_2).f1) < ((rd_T52 t494 x12_2).f0)) = true := decide_eq_true c29
                              clear c29
                              have H' := Aside0.mk H
                              clear H
                              obtain ⟨Ao30, co30, eo30⟩ := Kd.R_slice HO_8.out
                              subst eo30
                              have p502 : 0 ≤ (x12_2 : Int) := of_decide_eq_true (by first | (with_reducible assumption) | assumption)
                              have q502 : x12_2 < (t494.length : Int) := of_decide_eq_true (by first | (with_reducible assumption) | assumption)
                              obtain ⟨ad502, e502, hx502_0, hx502_1⟩ := at_T52 (Kd.R_reads' HO_8.out).2.2 x12_2 p502 q502
                              cases e502
                              replace p502 := eq_true p502
                              replace q502 := eq_true q502
                              obtain ⟨Ao31, co31, eo31⟩ := Kd.R_slice HO_10.out
                              subst eo31
                              have p503 : 0 ≤ (x13_2 : Int) := of_decide_eq_true (by first | (with_reducible assumption) | assumption)
                              have q503 : x13_2 < (t498.length : Int) := of_decide_eq_true (by first | (with_reducible assumption) | assumption)
                              obtain ⟨ad503, e503, hx503_0, hx503_1⟩ := at_T52 (Kd.R_reads' HO_10.out).2.2 x13_2 p503 q503
                              cases e503
                              replace p503 := eq_true p503
                              replace q503 := eq_true q503
                              have p504 : 0 ≤ (x13_2 : Int) := of_decide_eq_true (by first | (with_reducible assumption) | assumption)
                              have q504 : x13_2 < (t498.length : Int) := of_decide_eq_true (by first | (with_reducible assumption) | assumption)
                              obtain ⟨ad504, e504, hx504_0, hx504_1⟩ := at_T52 (Kd.R_reads' HO_10.out).2.2 x13_2 p504 q504
                              obtain rfl : ad503 = ad504 := (by injection e504)
                              replace p504 := eq_true p504
                              replace q504 := eq_true q504
                              have p505 : 0 ≤ (x12_2 : Int) := of_decide_eq_true (by first | (with_reducible assumption) | assumption)
                              have q505 : x12_2 < (t494.length : Int) := of_decide_eq_true (by first | (with_reducible assumption) | assumption)
                              obtain ⟨ad505, e505, hx505_0, hx505_1⟩ := at_T52 (Kd.R_reads' HO_8.out).2.2 x12_2 p505 q505
                              obtain rfl : ad502 = ad505 := (by injection e505)
                              replace p505 := eq_true p505
                              replace q505 := eq_true q505
                              go_wp2
                              repeat (go_quiet (fail); try go_wp2)
                              go_roundg kj15
                              case measure => have := HJ5.out; have := HK2.out; have := HJ15.out; omega
                              case rel => exact ⟨(x12_2), (wrap64 (x13_2 + 1)), (by first | rfl | (simp; done) | (simp [*]; done)), (by first | rfl | (simp; done) | (simp [*]; done)), H', ⟨by have := HJ5.out; have := HK2.out; have := HJ15.out; omega⟩, ⟨by (with_reducible repeat (first | apply Kd.R_alloc | apply Kd.R_drewN | apply Kd.R_drew)); exact HO_8.out⟩, ⟨by (with_reducible repeat (first | apply Kd.R_alloc | apply Kd.R_drewN | apply Kd.R_drew)); exact HO_10.out⟩, ⟨by (with_reducible repeat (first | refine blk_drewN ?_ _ | refine blk_drew ?_ | refine blk_alloc ?_ _)); exact BK492.out⟩, ⟨by (with_reducible repeat (first | refine blk_drewN ?_ _ | refine blk_drew ?_ | refine blk_alloc ?_ _)); exact BK493.out⟩, ⟨by repeat (first | (with_reducible first | exact HB.out | apply below_alloc | apply pw_below_drewN | apply below_drew1 | refine below_set ?_ GE492.out | refine below_set ?_ GE493.out) | exact HB.out)⟩⟩
                            · rw [if_neg c29] at H
                              have c29b0 : decide (((rd_T52 t498 x13_2).f1) < ((rd_T52 t494 x12_2).f0)) = false := decide_eq_false c29
                              clear c29
                              simp only [Option.some.injEq, Prod.mk.injEq] at H
                              obtain ⟨rfl, rfl⟩ := H
                              obtain ⟨Ao32, co32, eo32⟩ := Kd.R_slice HO_8.out
                              subst eo32
                              have p502 : 0 ≤ (x12_2 : Int) := of_decide_eq_true (by first | (with_reducible assumption) | assumption)
                              have q502 : x12_2 < (t494.length : Int) := of_decide_eq_true (by first | (with_reducible assumption) | assumption)
                              obtain ⟨ad502, e502, hx502_0, hx502_1⟩ := at_T52 (Kd.R_reads' HO_8.out).2.2 x12_2 p502 q502
                              cases e502
                              replace p502 := eq_true p502
                              replace q502 := eq_true q502
                              obtain ⟨Ao33, co33, eo33⟩ := Kd.R_slice HO_10.out
                              subst eo33
                              have p503 : 0 ≤ (x13_2 : Int) := of_decide_eq_true (by first | (with_reducible assumption) | assumption)
                              have q503 : x13_2 < (t498.length : Int) := of_decide_eq_true (by first | (with_reducible assumption) | assumption)
                              obtain ⟨ad503, e503, hx503_0, hx503_1⟩ := at_T52 (Kd.R_reads' HO_10.out).2.2 x13_2 p503 q503
                              cases e503
                              replace p503 := eq_true p503
                              replace q503 := eq_true q503
                              have p504 : 0 ≤ (x13_2 : Int) := of_decide_eq_true (by first | (with_reducible assumption) | assumption)
                              have q504 : x13_2 < (t498.length : Int) := of_decide_eq_true (by first | (with_reducible assumption) | assumption)
                              obtain ⟨ad504, e504, hx504_0, hx504_1⟩ := at_T52 (Kd.R_reads' HO_10.out).2.2 x13_2 p504 q504
                              obtain rfl : ad503 = ad504 := (by injection e504)
                              replace p504 := eq_true p504
                              replace q504 := eq_true q504
                              have p505 : 0 ≤ (x12_2 : Int) := of_decide_eq_true (by first | (with_reducible assumption) | assumption)
                              have q505 : x12_2 < (t494.length : Int) := of_decide_eq_true (by first | (with_reducible assumption) | assumption)
                              obtain ⟨ad505, e505, hx505_0, hx505_1⟩ := at_T52 (Kd.R_reads' HO_8.out).2.2 x12_2 p505 q505
                              obtain rfl : ad502 = ad505 := (by injection e505)
                              replace p505 := eq_true p505
                              replace q505 := eq_true q505
                              go_wp2
                              repeat (go_quiet (fail); try go_wp2)
                              go_ret2
                              exact ⟨by first | rfl | (simp [errW_none, errW_some] <;> rfl) | (simp [*, errW_none, errW_some] <;> rfl), by repeat (first | (with_reducible first | exact HB.out | apply below_alloc | apply pw_below_drewN | apply below_drew1 | refine below_set ?_ GE492.out | refine below_set ?_ GE493.out) | exact HB.out)⟩
                        · rw [if_neg c25] at H
                          exact absurd H (by simp)
                      · rw [if_neg c24] at H
                        exact absurd H (by simp)
                    · rw [if_neg c23] at H
                      exact absurd H (by simp)
                  · rw [if_neg c22] at H
                    exact absurd H (by simp)
                · replace c21 := Bool.eq_false_iff.mpr c21
                  subst c21
                  have H1 : (some (false, 0)) = some (r1, r2) := by rw [if_neg (show ¬ (false = true) by decide)] at H; exact H
                  clear H
                  have H := H1
                  clear H1
                  simp only [Option.some.injEq, Prod.mk.injEq] at H
                  obtain ⟨rfl, rfl⟩ := H
                  go_wp2
                  repeat (go_quiet (fail); try go_wp2)
                  go_ret2
                  exact ⟨by first | rfl | (simp [errW_none, errW_some] <;> rfl) | (simp [*, errW_none, errW_some] <;> rfl), by repeat (first | (with_reducible first | exact HB.out | apply below_alloc | apply pw_below_drewN | apply below_drew1 | refine below_set ?_ GE492.out | refine below_set ?_ GE493.out) | exact HB.out)⟩

end Go.Proofs.Ytmffkfakcbopcaa.MP
