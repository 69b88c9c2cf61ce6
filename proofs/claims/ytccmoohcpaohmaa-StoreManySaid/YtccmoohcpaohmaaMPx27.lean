-- written by a program of this session (wip/tools/mprint.sh) for this seat
import Derived.Test.YtccmoohcpaohmaaMPx0
import Derived.Test.YtccmoohcpaohmaaMPx2
namespace Go.Proofs.Ytccmoohcpaohmaa.MP
open Go.RowKit Go.Proofs.YtccmoohcpaohmaaW.PrintWords Go.Proofs.YtccmoohcpaohmaaW.PrintLast Go.Proofs.YtccmoohcpaohmaaW.PrintMore
attribute [local go_sem] max2_int min2_int max_two min_two max_three min_three max_four min_four   -- for this text's walks alone
set_option linter.unusedVariables false
set_option linter.unusedSimpArgs false

/-! ### layer_check: function 65 -/
def layer_check.f (k : Nat) (a0 : Int) (a1 : Int) : Option (Int) := if a1 < 1 then (some 1) else (if a1 > 3 then (some 1) else ((node_Check.f k a0 1).bind fun t618 => (some t618)))
theorem layer_check.mono : ∀ a0 a1 k, LeO (layer_check.f k a0 a1) (layer_check.f (k + 1) a0 a1) := by
  intro a0 a1 k
  unfold layer_check.f
  repeat' first
      | (with_reducible exact node_Check.mono _ _ _)
      | (with_reducible exact LeO.refl _)
      | (with_reducible exact LeO.none _)
      | (with_reducible refine LeO.ite ?_ ?_)
      | (with_reducible refine LeO.bind ?_ (fun _ => ?_))
      | exact node_Check.mono _ _ _
      | exact LeO.none _
      | refine LeO.ite ?_ ?_
      | refine LeO.bind ?_ (fun _ => ?_)
set_option maxHeartbeats 8000000 in
set_option maxRecDepth 100000 in
theorem layer_check.calls (k : Nat) (a0 : Int) (a1 : Int) (r : Int) (w : World) (h : layer_check.f k a0 a1 = some r) :
    Calls Try.prog 65 #[.int .i64 a0, .int .i64 a1] w fun e w' => e = .returned (.int .i64 r) ∧ Drawn0 w w' := by
  have H : (if a1 < 1 then (some 1) else (if a1 > 3 then (some 1) else ((node_Check.f k a0 1).bind fun t618 => (some t618)))) = some r := h
  clear h
  by_cases c3 : a1 < 1
  · rw [if_pos c3] at H
    have c3b0 : decide (a1 < 1) = true := decide_eq_true c3
    clear c3
    obtain rfl := Option.some.inj H
    go_enter Try.func65, Try.ntmps65
    go_wp2
    go_ret
    exact ⟨by first | rfl | (simp; done) | (simp [*]; done), by repeat (first | exact Drawn0.refl _ | apply Drawn0.step)⟩
  · rw [if_neg c3] at H
    have c3b0 : decide (a1 < 1) = false := decide_eq_false c3
    clear c3
    by_cases c4 : a1 > 3
    · rw [if_pos c4] at H
      have c4b0 : decide (3 < a1) = true := decide_eq_true c4
      clear c4
      obtain rfl := Option.some.inj H
      go_enter Try.func65, Try.ntmps65
      go_wp2
      go_ret
      exact ⟨by first | rfl | (simp; done) | (simp [*]; done), by repeat (first | exact Drawn0.refl _ | apply Drawn0.step)⟩
    · rw [if_neg c4] at H
      have c4b0 : decide (3 < a1) = false := decide_eq_false c4
      clear c4
      replace H := Option.bind_eq_some_iff.mp H
      obtain ⟨t618, A50, H⟩ := H
      replace H : (some t618) = some r := H
      have A5 := Aside0.mk A50
      clear A50
      obtain rfl := Option.some.inj H
      go_enter Try.func65, Try.ntmps65
      go_wp2_with (first | ((with_reducible refine gate_callee (f := 42) rfl ?_); refine goesL_ (some 12) rfl rfl Try.func42 (by kernel_rfl) rfl #[.int .i64 a0, .int .u64 1] rfl (by (try simp only [List.map_toArray, List.map_cons, List.map_nil]); first | done | rfl | (simp only [List.length_drop, List.length_take]; rfl)) ?_; (with_reducible refine (node_Check.calls k a0 1 t618 _ A5.out).mono ?_); rintro e w' ⟨rfl, ⟨nd, rfl⟩⟩; refine ⟨_, rfl, ?_⟩))
      go_ret
      exact ⟨by first | rfl | (simp; done) | (simp [*]; done), by repeat (first | exact Drawn0.refl _ | apply Drawn0.step)⟩

/-! ### layer_May: function 41 -/
def layer_May.j0 : Nat → Int → Int → Bool → Int → Int → Option (Bool × Int)
  | 0, _, _, _, _, _ => none
  | k + 1, x0, x1, x17, x620000, x620001 => if x17 = true then (some (false, 1)) else (if x1 = 1 then (some ((x620001 == 0), 0)) else (if x1 = 2 then (if x620001 = 0 then (some ((x620000 == 1), 0)) else (some (true, 0))) else ((sub_Useful.f k x0 x620000 x620001).bind fun bt622 => (some (bt622.1, bt622.2)))))
def layer_May.f (k : Nat) (a0 : Int) (a1 : Int) (a2_0 : Int) (a2_1 : Int) : Option (Bool × Int) := (layer_check.f k a0 a1).bind fun t620 => (if t620 = 0 then ((sub_Check.f k a0 a2_0 a2_1).bind fun t621 => (layer_May.j0 k a0 a1 (t621 != 0) a2_0 a2_1)) else (layer_May.j0 k a0 a1 true a2_0 a2_1))
theorem layer_May.mono_l : ∀ k, (∀ y0 y1 y2 y3 y4, LeO (layer_May.j0 k y0 y1 y2 y3 y4) (layer_May.j0 (k + 1) y0 y1 y2 y3 y4))
  | 0 => fun _ _ _ _ _ r h => by simp [layer_May.j0] at h
  | k + 1 => by
    have ih0 := layer_May.mono_l k
    · intro y0 y1 y2 y3 y4
      unfold layer_May.j0
      repeat' first
      | (with_reducible exact ih0 _ _ _ _ _)
      | (with_reducible exact layer_check.mono _ _ _)
      | (with_reducible exact sub_Check.mono _ _ _ _)
      | (with_reducible exact sub_Useful.mono _ _ _ _)
      | (with_reducible exact LeO.refl _)
      | (with_reducible exact LeO.none _)
      | (with_reducible refine LeO.ite ?_ ?_)
      | (with_reducible refine LeO.bind ?_ (fun _ => ?_))
      | exact ih0 _ _ _ _ _
      | exact layer_check.mono _ _ _
      | exact sub_Check.mono _ _ _ _
      | exact sub_Useful.mono _ _ _ _
      | exact LeO.none _
      | refine LeO.ite ?_ ?_
      | refine LeO.bind ?_ (fun _ => ?_)
theorem layer_May.mono : ∀ a0 a1 a2 a3 k, LeO (layer_May.f k a0 a1 a2 a3) (layer_May.f (k + 1) a0 a1 a2 a3) := by
  intro a0 a1 a2 a3 k
  have ih0 := layer_May.mono_l k
  unfold layer_May.f
  repeat' first
      | (with_reducible exact ih0 _ _ _ _ _)
      | (with_reducible exact layer_check.mono _ _ _)
      | (with_reducible exact sub_Check.mono _ _ _ _)
      | (with_reducible exact sub_Useful.mono _ _ _ _)
      | (with_reducible exact LeO.refl _)
      | (with_reducible exact LeO.none _)
      | (with_reducible refine LeO.ite ?_ ?_)
      | (with_reducible refine LeO.bind ?_ (fun _ => ?_))
      | exact ih0 _ _ _ _ _
      | exact layer_check.mono _ _ _
      | exact sub_Check.mono _ _ _ _
      | exact sub_Useful.mono _ _ _ _
      | exact LeO.none _
      | refine LeO.ite ?_ ?_
      | refine LeO.bind ?_ (fun _ => ?_)
set_option maxHeartbeats 8000000 in
set_option maxRecDepth 100000 in
theorem layer_May.calls (k : Nat) (a0 : Int) (a1 : Int) (a2_0 : Int) (a2_1 : Int) (r1 : Bool) (r2 : Int) (w : World) (h : layer_May.f k a0 a1 a2_0 a2_1 = some (r1, r2)) :
    Calls Try.prog 41 #[.int .i64 a0, .int .i64 a1, .agg #[.int .u64 a2_0, .int .u64 a2_1]] w fun e w' => e = .returned (.tuple #[.bool r1, .int .i64 r2]) ∧ Below w.heap.size w w' := by
  have hu24 := Try.underlying24
  have HB := Aside0.mk (Below.refl w.heap.size w)
  have H : ((layer_check.f k a0 a1).bind fun t620 => (if t620 = 0 then ((sub_Check.f k a0 a2_0 a2_1).bind fun t621 => (layer_May.j0 k a0 a1 (t621 != 0) a2_0 a2_1)) else (layer_May.j0 k a0 a1 true a2_0 a2_1))) = some (r1, r2) := h
  clear h
  have HC4 := Aside0.mk H
  clear H
  go_enter Try.func41, Try.ntmps41
  go_upto_region 1 with (first | ((with_reducible refine gate_dst (N := 5) rfl ?_); refine box_event ?hg (N := 5) ?hd (cs := #[.int .u64 a2_0, .int .u64 a2_1]) (t := 24) ?hr ?_; (case hd => rfl); (case hg => rfl); (case hr => first | (go_simp; done) | (go_simp; rfl)); intro gb619 hg w5 hbox hb; have n0_ := Aside0.mk (below_step (by repeat (first | (with_reducible first | exact HB.out | apply below_alloc | apply pw_below_drewN | apply below_drew1) | exact HB.out)) hb); have n1_ := Aside0.mk (hbox); have n2_ := Aside0.mk ((by rw [hg]; exact (below_size (by repeat (first | (with_reducible first | exact HB.out | apply below_alloc | apply pw_below_drewN | apply below_drew1) | exact HB.out))) : w.heap.size ≤ gb619)); have n3_ := Aside0.mk ((by rw [hg]; exact (below_size (by repeat (first | (with_reducible first | exact HB.out | apply below_alloc | apply pw_below_drewN | apply below_drew1) | exact HB.out))) : w.heap.size ≤ gb619)); clear HB; have HB := n0_; have BK619 := n1_; have GW619 := n2_; have GE619 := n3_; clear n0_ n1_ n2_ n3_; clear hb hbox hg))
  (try simp only [Act.put, List.setIfInBounds_toArray, List.set_cons_zero, List.set_cons_succ])
  go_cut [17] (fun v17 wc => ∃ (kq : Nat) (x17_3 : Bool), v17 = .bool x17_3 ∧ Aside0 (layer_May.j0 kq a0 a1 x17_3 a2_0 a2_1 = some (r1, r2)) ∧ Aside0 (kq ≤ k) ∧ Aside0 (wc.heap[gb619]? = some (.cells #[.int .u64 a2_0, .int .u64 a2_1] 24 (0, 0))) ∧ Aside0 (Below w.heap.size w wc))
  case first =>
    have H := HC4.out
    clear HC4
    replace H := Option.bind_eq_some_iff.mp H
    obtain ⟨t620, A60, H⟩ := H
    replace H : (if t620 = 0 then ((sub_Check.f k a0 a2_0 a2_1).bind fun t621 => (layer_May.j0 k a0 a1 (t621 != 0) a2_0 a2_1)) else (layer_May.j0 k a0 a1 true a2_0 a2_1)) = some (r1, r2) := H
    have A6 := Aside0.mk A60
    clear A60
    by_cases c7 : t620 = 0
    · rw [if_pos c7] at H
      have c7b0 : (t620 == 0) = true := beq_iff_eq.mpr c7
      have c7b1 : (t620 != 0) = false := bne_eq_false_iff_eq.mpr c7
      clear c7
      (first | rw [c7b0] | (simp only [i64_w, i32_w]; rw [c7b0]) | skip)
      replace H := Option.bind_eq_some_iff.mp H
      obtain ⟨t621, A80, H⟩ := H
      replace H : (layer_May.j0 k a0 a1 (t621 != 0) a2_0 a2_1) = some (r1, r2) := H
      have A8 := Aside0.mk A80
      clear A80
      have H' := Aside0.mk H
      clear H
      go_wp2_with (first | ((with_reducible refine gate_callee (f := 65) rfl ?_); refine goesL_ (some 10) rfl rfl Try.func65 (by kernel_rfl) rfl #[.int .i64 a0, .int .i64 a1] rfl (by (try simp only [List.map_toArray, List.map_cons, List.map_nil]); first | done | rfl | (simp only [List.length_drop, List.length_take]; rfl)) ?_; (with_reducible refine (layer_check.calls k a0 a1 t620 _ A6.out).mono ?_); rintro e w' ⟨rfl, ⟨nd, rfl⟩⟩; refine ⟨_, rfl, ?_⟩; have hcz9_0 : w5.cell? ⟨gb619, 0, none⟩ = some (.int .u64 a2_0) := (blk_cell BK619.out 0).trans rfl; have hcz9_1 : w5.cell? ⟨gb619, 1, none⟩ = some (.int .u64 a2_1) := (blk_cell BK619.out 1).trans rfl; have hfz9_0 := blk_frozen BK619.out 0; have hfz9_1 := blk_frozen BK619.out 1) | (go_at_call 32; (with_reducible refine (sub_Check.calls k a0 a2_0 a2_1 t621 _ A8.out).mono ?_); rintro e w10 ⟨rfl, hb⟩; have n0_ := Aside0.mk (blk_below (g := gb619) (o := .cells #[.int .u64 a2_0, .int .u64 a2_1] 24 (0, 0)) (by (with_reducible repeat (first | refine blk_drewN ?_ _ | refine blk_drew ?_ | refine blk_alloc ?_ _)); exact BK619.out) hb); have n1_ := Aside0.mk (below_step (by repeat (first | (with_reducible first | exact HB.out | apply below_alloc | apply pw_below_drewN | apply below_drew1 | refine below_set ?_ GE619.out) | exact HB.out)) hb); clear BK619; clear HB; have BK619 := n0_; have HB := n1_; clear n0_ n1_; (try clear hb); (try clear hb2); (try clear hk); (try clear hi)))
      go_meet
      case rel => exact ⟨_, ((t621 != 0)), (by first | rfl | (simp; done) | (simp [*]; done)), H', ⟨by first | omega | exact Nat.le_refl _⟩, ⟨by (with_reducible repeat (first | refine blk_drewN ?_ _ | refine blk_drew ?_ | refine blk_alloc ?_ _)); exact BK619.out⟩, ⟨by repeat (first | (with_reducible first | exact HB.out | apply below_alloc | apply pw_below_drewN | apply below_drew1 | refine below_set ?_ GE619.out) | exact HB.out)⟩⟩
    · rw [if_neg c7] at H
      have c7b0 : (t620 == 0) = false := beq_eq_false_iff_ne.mpr c7
      have c7b1 : (t620 != 0) = true := bne_iff_ne.mpr c7
      (first | rw [c7b0] | (simp only [i64_w, i32_w]; rw [c7b0]) | skip)
      have H' := Aside0.mk H
      clear H
      go_wp2_with (first | ((with_reducible refine gate_callee (f := 65) rfl ?_); refine goesL_ (some 10) rfl rfl Try.func65 (by kernel_rfl) rfl #[.int .i64 a0, .int .i64 a1] rfl (by (try simp only [List.map_toArray, List.map_cons, List.map_nil]); first | done | rfl | (simp only [List.length_drop, List.length_take]; rfl)) ?_; (with_reducible refine (layer_check.calls k a0 a1 t620 _ A6.out).mono ?_); rintro e w' ⟨rfl, ⟨nd, rfl⟩⟩; refine ⟨_, rfl, ?_⟩))
      go_meet
      case rel => exact ⟨_, (true), (by first | rfl | (simp; done) | (simp [*]; done)), H', ⟨by first | omega | exact Nat.le_refl _⟩, ⟨by (with_reducible repeat (first | refine blk_drewN ?_ _ | refine blk_drew ?_ | refine blk_alloc ?_ _)); exact BK619.out⟩, ⟨by repeat (first | (with_reducible first | exact HB.out | apply below_alloc | apply pw_below_drewN | apply below_drew1 | refine below_set ?_ GE619.out) | exact HB.out)⟩⟩
  case rest =>
    clear HC4
    try clear p2
    try clear c4
    try clear c6
    try clear c7
    try clear c7b0
    try clear c7b1
    try clear hcz9_0
    try clear hcz9_1
    try clear hfz9_0
    try clear hfz9_1
    obtain ⟨kq, x17_3, rfl, HA, HJ3, BK619, HB⟩ := hcut
    cases kq with
    | zero => exact absurd HA.out (by simp [layer_May.j0])
    | succ kj3 =>
      have H := HA.out
      clear HA
      simp only [layer_May.j0] at H
      by_cases c11 : x17_3 = true
      · subst c11
        have H1 : (some (false, 1)) = some (r1, r2) := by rw [if_pos rfl] at H; exact H
        clear H
        have H := H1
        clear H1
        simp only [Option.some.injEq, Prod.mk.injEq] at H
        obtain ⟨rfl, rfl⟩ := H
        go_wp2
        go_ret2
        exact ⟨by first | rfl | (simp [errW_none, errW_some] <;> rfl) | (simp [*, errW_none, errW_some] <;> rfl), by repeat (first | (with_reducible first | exact HB.out | apply below_alloc | apply pw_below_drewN | apply below_drew1 | refine below_set ?_ GE619.out) | exact HB.out)⟩
      · replace c11 := Bool.eq_false_iff.mpr c11
        subst c11
        have H1 : (if a1 = 1 then (some ((a2_1 == 0), 0)) else (if a1 = 2 then (if a2_1 = 0 then (some ((a2_0 == 1), 0)) else (some (true, 0))) else ((sub_Useful.f kj3 a0 a2_0 a2_1).bind fun bt622 => (some (bt622.1, bt622.2))))) = some (r1, r2) := by rw [if_neg (show ¬ (false = true) by decide)] at H; exact H
        clear H
        have H := H1
        clear H1
        by_cases c12 : a1 = 1
        · rw [if_pos c12] at H
          have c12b0 : (a1 == 1) = true := beq_iff_eq.mpr c12
          have c12b1 : (a1 != 1) = false := bne_eq_false_iff_eq.mpr c12
          clear c12
          simp only [Option.some.injEq, Prod.mk.injEq] at H
          obtain ⟨rfl, rfl⟩ := H
          have hcz13_0 : wc.cell? ⟨gb619, 0, none⟩ = some (.int .u64 a2_0) := (blk_cell BK619.out 0).trans rfl
          have hcz13_1 : wc.cell? ⟨gb619, 1, none⟩ = some (.int .u64 a2_1) := (blk_cell BK619.out 1).trans rfl
          have hfz13_0 := blk_frozen BK619.out 0
          have hfz13_1 := blk_frozen BK619.out 1
          go_wp2
          go_ret2
          exact ⟨by first | rfl | (simp [errW_none, errW_some] <;> rfl) | (simp [*, errW_none, errW_some] <;> rfl), by repeat (first | (with_reducible first | exact HB.out | apply below_alloc | apply pw_below_drewN | apply below_drew1 | refine below_set ?_ GE619.out) | exact HB.out)⟩
        · rw [if_neg c12] at H
          have c12b0 : (a1 == 1) = false := beq_eq_false_iff_ne.mpr c12
          have c12b1 : (a1 != 1) = true := bne_iff_ne.mpr c12
          by_cases c14 : a1 = 2
          · rw [if_pos c14] at H
            have c14b0 : (a1 == 2) = true := beq_iff_eq.mpr c14
            have c14b1 : (a1 != 2) = false := bne_eq_false_iff_eq.mpr c14
            clear c14
            by_cases c15 : a2_1 = 0
            · rw [if_pos c15] at H
              have c15b0 : (a2_1 == 0) = true := beq_iff_eq.mpr c15
              have c15b1 : (a2_1 != 0) = false := bne_eq_false_iff_eq.mpr c15
              clear c15
              simp only [Option.some.injEq, Prod.mk.injEq] at H
              obtain ⟨rfl, rfl⟩ := H
              have hcz16_0 : wc.cell? ⟨gb619, 0, none⟩ = some (.int .u64 a2_0) := (blk_cell BK619.out 0).trans rfl
              have hcz16_1 : wc.cell? ⟨gb619, 1, none⟩ = some (.int .u64 a2_1) := (blk_cell BK619.out 1).trans rfl
              have hfz16_0 := blk_frozen BK619.out 0
              have hfz16_1 := blk_frozen BK619.out 1
              go_wp2
              go_ret2
              exact ⟨by first | rfl | (simp [errW_none, errW_some] <;> rfl) | (simp [*, errW_none, errW_some] <;> rfl), by repeat (first | (with_reducible first | exact HB.out | apply below_alloc | apply pw_below_drewN | apply below_drew1 | refine below_set ?_ GE619.out) | exact HB.out)⟩
            · rw [if_neg c15] at H
              have c15b0 : (a2_1 == 0) = false := beq_eq_false_iff_ne.mpr c15
              have c15b1 : (a2_1 != 0) = true := bne_iff_ne.mpr c15
              simp only [Option.some.injEq, Prod.mk.injEq] at H
              obtain ⟨rfl, rfl⟩ := H
              have hcz17_0 : wc.cell? ⟨gb619, 0, none⟩ = some (.int .u64 a2_0) := (blk_cell BK619.out 0).trans rfl
              have hcz17_1 : wc.cell? ⟨gb619, 1, none⟩ = some (.int .u64 a2_1) := (blk_cell BK619.out 1).trans rfl
              have hfz17_0 := blk_frozen BK619.out 0
              have hfz17_1 := blk_frozen BK619.out 1
              go_wp2
              go_ret2
              exact ⟨by first | rfl | (simp [errW_none, errW_some] <;> rfl) | (simp [*, errW_none, errW_some] <;> rfl), by repeat (first | (with_reducible first | exact HB.out | apply below_alloc | apply pw_below_drewN | apply below_drew1 | refine below_set ?_ GE619.out) | exact HB.out)⟩
          · rw [if_neg c14] at H
            have c14b0 : (a1 == 2) = false := beq_eq_false_iff_ne.mpr c14
            have c14b1 : (a1 != 2) = true := bne_iff_ne.mpr c14
            replace H := Option.bind_eq_some_iff.mp H
            obtain ⟨⟨t622, t623⟩, A180, H⟩ := H
            replace H : (some (t622, t623)) = some (r1, r2) := H
            have A18 := Aside0.mk A180
            clear A180
            simp only [Option.some.injEq, Prod.mk.injEq] at H
            obtain ⟨rfl, rfl⟩ := H
            have hcz19_0 : wc.cell? ⟨gb619, 0, none⟩ = some (.int .u64 a2_0) := (blk_cell BK619.out 0).trans rfl
            have hcz19_1 : wc.cell? ⟨gb619, 1, none⟩ = some (.int .u64 a2_1) := (blk_cell BK619.out 1).trans rfl
            have hfz19_0 := blk_frozen BK619.out 0
            have hfz19_1 := blk_frozen BK619.out 1
            go_wp2_with (first | ((with_reducible refine gate_callee (f := 17) rfl ?_); refine goesL_ (some 36) rfl rfl Try.func17 (by kernel_rfl) rfl #[.int .i64 a0, .agg #[.int .u64 a2_0, .int .u64 a2_1]] rfl (by (try simp only [List.map_toArray, List.map_cons, List.map_nil]); first | done | rfl | (simp only [List.length_drop, List.length_take]; rfl)) ?_; (with_reducible refine (sub_Useful.calls kj3 a0 a2_0 a2_1 t622 t623 _ A18.out).mono ?_); rintro e w20 ⟨rfl, hb⟩; refine ⟨_, rfl, ?_⟩; have n0_ := Aside0.mk (blk_below (g := gb619) (o := .cells #[.int .u64 a2_0, .int .u64 a2_1] 24 (0, 0)) (by (with_reducible repeat (first | refine blk_drewN ?_ _ | refine blk_drew ?_ | refine blk_alloc ?_ _)); exact BK619.out) hb); have n1_ := Aside0.mk (below_step (by repeat (first | (with_reducible first | exact HB.out | apply below_alloc | apply pw_below_drewN | apply below_drew1 | refine below_set ?_ GE619.out) | exact HB.out)) hb); clear BK619; clear HB; have BK619 := n0_; have HB := n1_; clear n0_ n1_; (try clear hb); (try clear hb2); (try clear hk); (try clear hi)))
            go_ret2
            exact ⟨by first | rfl | (simp [errW_none, errW_some] <;> rfl) | (simp [*, errW_none, errW_some] <;> rfl), by repeat (first | (with_reducible first | exact HB.out | apply below_alloc | apply pw_below_drewN | apply below_drew1 | refine below_set ?_ GE619.out) | exact HB.out)⟩

end Go.Proofs.Ytccmoohcpaohmaa.MP
