-- written by a program of this session (wip/tools/mprint.sh) for this seat
import Derived.Test.YtmffkfakcbopcaaMPx0
import Derived.Test.YtmffkfakcbopcaaMPx2
namespace Go.Proofs.Ytmffkfakcbopcaa.MP
open Go.RowKit Go.Proofs.YtmffkfakcbopcaaW.PrintWords Go.Proofs.YtmffkfakcbopcaaW.PrintLast Go.Proofs.YtmffkfakcbopcaaW.PrintMore
attribute [local go_sem] max2_int min2_int max_two min_two max_three min_three max_four min_four   -- for this text's walks alone
set_option linter.unusedVariables false
set_option linter.unusedSimpArgs false

/-! ### node_above: function 138 -/
def node_above.f (k : Nat) (a0 : Int) (a1 : Int) : Option (Bool) := (node_depth.f k a0).bind fun t367 => ((node_depth.f k a1).bind fun t368 => (if t367 ≤ t368 then ((node_depth.f k a1).bind fun t369 => ((node_depth.f k a0).bind fun t370 => (if 0 ≤ (wrap64 (t369 - t370)) then (some ((shr .u64 a1 (wrap64 (t369 - t370))) == a0)) else (none)))) else (some false)))
theorem node_above.mono : ∀ a0 a1 k, LeO (node_above.f k a0 a1) (node_above.f (k + 1) a0 a1) := by
  intro a0 a1 k
  unfold node_above.f
  repeat' first
      | (with_reducible exact node_depth.mono _ _)
      | (with_reducible exact LeO.refl _)
      | (with_reducible exact LeO.none _)
      | (with_reducible refine LeO.ite ?_ ?_)
      | (with_reducible refine LeO.bind ?_ (fun _ => ?_))
      | exact node_depth.mono _ _
      | exact LeO.none _
      | refine LeO.ite ?_ ?_
      | refine LeO.bind ?_ (fun _ => ?_)
set_option maxHeartbeats 8000000 in
set_option maxRecDepth 100000 in
theorem node_above.calls (k : Nat) (a0 : Int) (a1 : Int) (r : Bool) (w : World) (h : node_above.f k a0 a1 = some r) :
    Calls Try.prog 138 #[.int .u64 a0, .int .u64 a1] w fun e w' => e = .returned (.bool r) ∧ Drawn0 w w' := by
  have H : ((node_depth.f k a0).bind fun t367 => ((node_depth.f k a1).bind fun t368 => (if t367 ≤ t368 then ((node_depth.f k a1).bind fun t369 => ((node_depth.f k a0).bind fun t370 => (if 0 ≤ (wrap64 (t369 - t370)) then (some ((shr .u64 a1 (wrap64 (t369 - t370))) == a0)) else (none)))) else (some false)))) = some r := h
  clear h
  replace H := Option.bind_eq_some_iff.mp H
  obtain ⟨t367, A30, H⟩ := H
  replace H : ((node_depth.f k a1).bind fun t368 => (if t367 ≤ t368 then ((node_depth.f k a1).bind fun t369 => ((node_depth.f k a0).bind fun t370 => (if 0 ≤ (wrap64 (t369 - t370)) then (some ((shr .u64 a1 (wrap64 (t369 - t370))) == a0)) else (none)))) else (some false))) = some r := H
  have A3 := Aside0.mk A30
  clear A30
  replace H := Option.bind_eq_some_iff.mp H
  obtain ⟨t368, A40, H⟩ := H
  replace H : (if t367 ≤ t368 then ((node_depth.f k a1).bind fun t369 => ((node_depth.f k a0).bind fun t370 => (if 0 ≤ (wrap64 (t369 - t370)) then (some ((shr .u64 a1 (wrap64 (t369 - t370))) == a0)) else (none)))) else (some false)) = some r := H
  have A4 := Aside0.mk A40
  clear A40
  by_cases c5 : t367 ≤ t368
  · rw [if_pos c5] at H
    have c5b0 : decide (t367 ≤ t368) = true := decide_eq_true c5
    clear c5
    replace H := Option.bind_eq_some_iff.mp H
    obtain ⟨t369, A60, H⟩ := H
    replace H : ((node_depth.f k a0).bind fun t370 => (if 0 ≤ (wrap64 (t369 - t370)) then (some ((shr .u64 a1 (wrap64 (t369 - t370))) == a0)) else (none))) = some r := H
    have A6 := Aside0.mk A60
    clear A60
    replace H := Option.bind_eq_some_iff.mp H
    obtain ⟨t370, A70, H⟩ := H
    replace H : (if 0 ≤ (wrap64 (t369 - t370)) then (some ((shr .u64 a1 (wrap64 (t369 - t370))) == a0)) else (none)) = some r := H
    have A7 := Aside0.mk A70
    clear A70
    obtain ⟨ji8, hji8⟩ : ∃ j_ : Int, (wrap64 (t369 - t370)) = j_ := ⟨_, rfl⟩
    replace H : (if 0 ≤ (ji8) then (some ((shr .u64 a1 (ji8)) == a0)) else (none)) = some r := by first | (rw [hji8] at H; exact H) | (simp only [hji8] at H ⊢; exact H)
    (try rw [hji8] at A3)
    (try rw [hji8] at A4)
    (try rw [hji8] at A6)
    (try rw [hji8] at A7)
    have hji8w : (IntKind.i64.wrap (t369 - t370)) = ji8 := (i64_w _).trans hji8
    by_cases c9 : 0 ≤ (ji8)
    · rw [if_pos c9] at H
      have c9b0 := eq_true c9
      have c9b1 : decide (0 ≤ (ji8)) = true := decide_eq_true c9
      clear c9
      obtain ⟨ji10, hji10⟩ : ∃ j_ : Int, (shr .u64 a1 (ji8)) = j_ := ⟨_, rfl⟩
      replace H : (some ((ji10) == a0)) = some r := by first | (rw [hji10] at H; exact H) | (simp only [hji10] at H ⊢; exact H)
      (try rw [hji10] at A3)
      (try rw [hji10] at A4)
      (try rw [hji10] at A6)
      (try rw [hji10] at A7)
      have hji10_ : (a1 / 2 ^ min (ji8).toNat 64) = ji10 := hji10
      have hji10z : (ji8) ≤ 64 → (a1 / 2 ^ (ji8).toNat) = ji10 := shr_small hji10
      obtain rfl := Option.some.inj H
      go_enter Try.func138, Try.ntmps138
      go_wp2_with (first | ((with_reducible refine gate_callee (f := 102) rfl ?_); refine goesL_ (some 6) rfl rfl Try.func102 (by kernel_rfl) rfl #[.int .u64 a0] rfl (by (try simp only [List.map_toArray, List.map_cons, List.map_nil]); first | done | rfl | (simp only [List.length_drop, List.length_take]; rfl)) ?_; (with_reducible refine (node_depth.calls k a0 t367 _ A3.out).mono ?_); rintro e w' ⟨rfl, ⟨nd, rfl⟩⟩; refine ⟨_, rfl, ?_⟩) | ((with_reducible refine gate_callee (f := 102) rfl ?_); refine goesL_ (some 8) rfl rfl Try.func102 (by kernel_rfl) rfl #[.int .u64 a1] rfl (by (try simp only [List.map_toArray, List.map_cons, List.map_nil]); first | done | rfl | (simp only [List.length_drop, List.length_take]; rfl)) ?_; (with_reducible refine (node_depth.calls k a1 t368 _ A4.out).mono ?_); rintro e w' ⟨rfl, ⟨nd, rfl⟩⟩; refine ⟨_, rfl, ?_⟩) | (go_at_call 102; (with_reducible refine (node_depth.calls k a1 t369 _ A6.out).mono ?_); rintro e w' ⟨rfl, ⟨nd, rfl⟩⟩) | (go_at_call 102; (with_reducible refine (node_depth.calls k a0 t370 _ A7.out).mono ?_); rintro e w' ⟨rfl, ⟨nd, rfl⟩⟩))
      go_ret
      exact ⟨by first | rfl | (simp; done) | (simp only [← hji8, ← hji10] <;> (first | rfl | simp)) | (simp [*]; done), by repeat (first | exact Drawn0.refl _ | apply Drawn0.step)⟩
    · rw [if_neg c9] at H
      exact absurd H (by simp)
  · rw [if_neg c5] at H
    have c5b0 : decide (t367 ≤ t368) = false := decide_eq_false c5
    clear c5
    obtain rfl := Option.some.inj H
    go_enter Try.func138, Try.ntmps138
    go_wp2_with (first | ((with_reducible refine gate_callee (f := 102) rfl ?_); refine goesL_ (some 6) rfl rfl Try.func102 (by kernel_rfl) rfl #[.int .u64 a0] rfl (by (try simp only [List.map_toArray, List.map_cons, List.map_nil]); first | done | rfl | (simp only [List.length_drop, List.length_take]; rfl)) ?_; (with_reducible refine (node_depth.calls k a0 t367 _ A3.out).mono ?_); rintro e w' ⟨rfl, ⟨nd, rfl⟩⟩; refine ⟨_, rfl, ?_⟩) | ((with_reducible refine gate_callee (f := 102) rfl ?_); refine goesL_ (some 8) rfl rfl Try.func102 (by kernel_rfl) rfl #[.int .u64 a1] rfl (by (try simp only [List.map_toArray, List.map_cons, List.map_nil]); first | done | rfl | (simp only [List.length_drop, List.length_take]; rfl)) ?_; (with_reducible refine (node_depth.calls k a1 t368 _ A4.out).mono ?_); rintro e w' ⟨rfl, ⟨nd, rfl⟩⟩; refine ⟨_, rfl, ?_⟩))
    go_ret
    exact ⟨by first | rfl | (simp; done) | (simp [*]; done), by repeat (first | exact Drawn0.refl _ | apply Drawn0.step)⟩

/-! ### node_Above: function 114 -/
def node_Above.f (k : Nat) (a0 : Int) (a1 : Int) (a2 : Int) : Option (Bool × Int) := (node_both.f k a0 a1 a2).bind fun t371 => (if t371 = 0 then ((node_above.f k a1 a2).bind fun t372 => (some (t372, 0))) else (some (false, t371)))
theorem node_Above.mono : ∀ a0 a1 a2 k, LeO (node_Above.f k a0 a1 a2) (node_Above.f (k + 1) a0 a1 a2) := by
  intro a0 a1 a2 k
  unfold node_Above.f
  repeat' first
      | (with_reducible exact node_above.mono _ _ _)
      | (with_reducible exact node_both.mono _ _ _ _)
      | (with_reducible exact LeO.refl _)
      | (with_reducible exact LeO.none _)
      | (with_reducible refine LeO.ite ?_ ?_)
      | (with_reducible refine LeO.bind ?_ (fun _ => ?_))
      | exact node_above.mono _ _ _
      | exact node_both.mono _ _ _ _
      | exact LeO.none _
      | refine LeO.ite ?_ ?_
      | refine LeO.bind ?_ (fun _ => ?_)
set_option maxHeartbeats 8000000 in
set_option maxRecDepth 100000 in
theorem node_Above.calls (k : Nat) (a0 : Int) (a1 : Int) (a2 : Int) (r1 : Bool) (r2 : Int) (w : World) (h : node_Above.f k a0 a1 a2 = some (r1, r2)) :
    Calls Try.prog 114 #[.int .i64 a0, .int .u64 a1, .int .u64 a2] w fun e w' => e = .returned (.tuple #[.bool r1, .int .i64 r2]) ∧ Drawn0 w w' := by
  have H : ((node_both.f k a0 a1 a2).bind fun t371 => (if t371 = 0 then ((node_above.f k a1 a2).bind fun t372 => (some (t372, 0))) else (some (false, t371)))) = some (r1, r2) := h
  clear h
  replace H := Option.bind_eq_some_iff.mp H
  obtain ⟨t371, A40, H⟩ := H
  replace H : (if t371 = 0 then ((node_above.f k a1 a2).bind fun t372 => (some (t372, 0))) else (some (false, t371))) = some (r1, r2) := H
  have A4 := Aside0.mk A40
  clear A40
  by_cases c5 : t371 = 0
  · rw [if_pos c5] at H
    have c5b0 : (t371 == 0) = true := beq_iff_eq.mpr c5
    have c5b1 : (t371 != 0) = false := bne_eq_false_iff_eq.mpr c5
    clear c5
    replace H := Option.bind_eq_some_iff.mp H
    obtain ⟨t372, A60, H⟩ := H
    replace H : (some (t372, 0)) = some (r1, r2) := H
    have A6 := Aside0.mk A60
    clear A60
    simp only [Option.some.injEq, Prod.mk.injEq] at H
    obtain ⟨rfl, rfl⟩ := H
    go_enter Try.func114, Try.ntmps114
    go_wp2_with (first | ((with_reducible refine gate_callee (f := 137) rfl ?_); refine goesL_ (some 12) rfl rfl Try.func137 (by kernel_rfl) rfl #[.int .i64 a0, .int .u64 a1, .int .u64 a2] rfl (by (try simp only [List.map_toArray, List.map_cons, List.map_nil]); first | done | rfl | (simp only [List.length_drop, List.length_take]; rfl)) ?_; (with_reducible refine (node_both.calls k a0 a1 a2 t371 _ A4.out).mono ?_); rintro e w' ⟨rfl, ⟨nd, rfl⟩⟩; refine ⟨_, rfl, ?_⟩) | ((with_reducible refine gate_callee (f := 138) rfl ?_); refine goesL_ (some 18) rfl rfl Try.func138 (by kernel_rfl) rfl #[.int .u64 a1, .int .u64 a2] rfl (by (try simp only [List.map_toArray, List.map_cons, List.map_nil]); first | done | rfl | (simp only [List.length_drop, List.length_take]; rfl)) ?_; (with_reducible refine (node_above.calls k a1 a2 t372 _ A6.out).mono ?_); rintro e w' ⟨rfl, ⟨nd, rfl⟩⟩; refine ⟨_, rfl, ?_⟩))
    go_ret2
    exact ⟨by first | rfl | (simp; done) | (simp [*]; done), by repeat (first | exact Drawn0.refl _ | apply Drawn0.step)⟩
  · rw [if_neg c5] at H
    have c5b0 : (t371 == 0) = false := beq_eq_false_iff_ne.mpr c5
    have c5b1 : (t371 != 0) = true := bne_iff_ne.mpr c5
    simp only [Option.some.injEq, Prod.mk.injEq] at H
    obtain ⟨rfl, rfl⟩ := H
    go_enter Try.func114, Try.ntmps114
    go_wp2_with (first | ((with_reducible refine gate_callee (f := 137) rfl ?_); refine goesL_ (some 12) rfl rfl Try.func137 (by kernel_rfl) rfl #[.int .i64 a0, .int .u64 a1, .int .u64 a2] rfl (by (try simp only [List.map_toArray, List.map_cons, List.map_nil]); first | done | rfl | (simp only [List.length_drop, List.length_take]; rfl)) ?_; (with_reducible refine (node_both.calls k a0 a1 a2 t371 _ A4.out).mono ?_); rintro e w' ⟨rfl, ⟨nd, rfl⟩⟩; refine ⟨_, rfl, ?_⟩))
    go_ret2
    exact ⟨by first | rfl | (simp; done) | (simp [*]; done), by repeat (first | exact Drawn0.refl _ | apply Drawn0.step)⟩

/-! ### sub_Check: function 75 -/
def sub_Check.f (k : Nat) (a0 : Int) (a1_0 : Int) (a1_1 : Int) : Option (Int) := if a1_1 = 0 then ((node_Check.f k a0 a1_0).bind fun t374 => (some t374)) else ((node_Above.f k a0 a1_0 a1_1).bind fun bt375 => (if bt375.2 = 0 then (if bt375.1 = true then (if a1_0 = a1_1 then (some 1) else (some 0)) else (some 1)) else (some 1)))
theorem sub_Check.mono : ∀ a0 a1 a2 k, LeO (sub_Check.f k a0 a1 a2) (sub_Check.f (k + 1) a0 a1 a2) := by
  intro a0 a1 a2 k
  unfold sub_Check.f
  repeat' first
      | (with_reducible exact node_Above.mono _ _ _ _)
      | (with_reducible exact node_Check.mono _ _ _)
      | (with_reducible exact LeO.refl _)
      | (with_reducible exact LeO.none _)
      | (with_reducible refine LeO.ite ?_ ?_)
      | (with_reducible refine LeO.bind ?_ (fun _ => ?_))
      | exact node_Above.mono _ _ _ _
      | exact node_Check.mono _ _ _
      | exact LeO.none _
      | refine LeO.ite ?_ ?_
      | refine LeO.bind ?_ (fun _ => ?_)
set_option maxHeartbeats 8000000 in
set_option maxRecDepth 100000 in
theorem sub_Check.calls (k : Nat) (a0 : Int) (a1_0 : Int) (a1_1 : Int) (r : Int) (w : World) (h : sub_Check.f k a0 a1_0 a1_1 = some r) :
    Calls Try.prog 75 #[.int .i64 a0, .agg #[.int .u64 a1_0, .int .u64 a1_1]] w fun e w' => e = .returned (.int .i64 r) ∧ Below w.heap.size w w' := by
  have hu34 := Try.underlying34
  have HB := Aside0.mk (Below.refl w.heap.size w)
  have H : (if a1_1 = 0 then ((node_Check.f k a0 a1_0).bind fun t374 => (some t374)) else ((node_Above.f k a0 a1_0 a1_1).bind fun bt375 => (if bt375.2 = 0 then (if bt375.1 = true then (if a1_0 = a1_1 then (some 1) else (some 0)) else (some 1)) else (some 1)))) = some r := h
  clear h
  by_cases c3 : a1_1 = 0
  · rw [if_pos c3] at H
    have c3b0 : (a1_1 == 0) = true := beq_iff_eq.mpr c3
    have c3b1 : (a1_1 != 0) = false := bne_eq_false_iff_eq.mpr c3
    clear c3
    replace H := Option.bind_eq_some_iff.mp H
    obtain ⟨t374, A40, H⟩ := H
    replace H : (some t374) = some r := H
    have A4 := Aside0.mk A40
    clear A40
    obtain rfl := Option.some.inj H
    go_enter Try.func75, Try.ntmps75
    go_wp2_with (first | ((with_reducible refine gate_dst (N := 3) rfl ?_); refine box_event ?hg (N := 3) ?hd (cs := #[.int .u64 a1_0, .int .u64 a1_1]) (t := 34) ?hr ?_; (case hd => rfl); (case hg => rfl); (case hr => first | (go_simp; done) | (go_simp; rfl)); intro gb373 hg w5 hbox hb; have n0_ := Aside0.mk (below_step (by repeat (first | (with_reducible first | exact HB.out | apply below_alloc | apply pw_below_drewN | apply below_drew1) | exact HB.out)) hb); have n1_ := Aside0.mk (hbox); have n2_ := Aside0.mk ((by rw [hg]; exact (below_size (by repeat (first | (with_reducible first | exact HB.out | apply below_alloc | apply pw_below_drewN | apply below_drew1) | exact HB.out))) : w.heap.size ≤ gb373)); have n3_ := Aside0.mk ((by rw [hg]; exact (below_size (by repeat (first | (with_reducible first | exact HB.out | apply below_alloc | apply pw_below_drewN | apply below_drew1) | exact HB.out))) : w.heap.size ≤ gb373)); clear HB; have HB := n0_; have BK373 := n1_; have GW373 := n2_; have GE373 := n3_; clear n0_ n1_ n2_ n3_; clear hb hbox hg; have hcz6_0 : w5.cell? ⟨gb373, 0, none⟩ = some (.int .u64 a1_0) := (blk_cell BK373.out 0).trans rfl; have hcz6_1 : w5.cell? ⟨gb373, 1, none⟩ = some (.int .u64 a1_1) := (blk_cell BK373.out 1).trans rfl; have hfz6_0 := blk_frozen BK373.out 0; have hfz6_1 := blk_frozen BK373.out 1) | ((with_reducible refine gate_callee (f := 64) rfl ?_); refine goesL_ (some 13) rfl rfl Try.func64 (by kernel_rfl) rfl #[.int .i64 a0, .int .u64 a1_0] rfl (by (try simp only [List.map_toArray, List.map_cons, List.map_nil]); first | done | rfl | (simp only [List.length_drop, List.length_take]; rfl)) ?_; (with_reducible refine (node_Check.calls k a0 a1_0 t374 _ A4.out).mono ?_); rintro e w' ⟨rfl, ⟨nd, rfl⟩⟩; refine ⟨_, rfl, ?_⟩))
    go_ret
    exact ⟨by first | rfl | (simp [errW_none, errW_some] <;> rfl) | (simp [*, errW_none, errW_some] <;> rfl), by repeat (first | (with_reducible first | exact HB.out | apply below_alloc | apply pw_below_drewN | apply below_drew1 | refine below_set ?_ GE373.out) | exact HB.out)⟩
  · rw [if_neg c3] at H
    have c3b0 : (a1_1 == 0) = false := beq_eq_false_iff_ne.mpr c3
    have c3b1 : (a1_1 != 0) = true := bne_iff_ne.mpr c3
    replace H := Option.bind_eq_some_iff.mp H
    obtain ⟨⟨t375, t376⟩, A70, H⟩ := H
    replace H : (if t376 = 0 then (if t375 = true then (if a1_0 = a1_1 then (some 1) else (some 0)) else (some 1)) else (some 1)) = some r := H
    have A7 := Aside0.mk A70
    clear A70
    by_cases c8 : t376 = 0
    · rw [if_pos c8] at H
      have c8b0 : (t376 == 0) = true := beq_iff_eq.mpr c8
      have c8b1 : (t376 != 0) = false := bne_eq_false_iff_eq.mpr c8
      clear c8
      by_cases c9 : t375 = true
      · subst c9
        have H1 : (if a1_0 = a1_1 then (some 1) else (some 0)) = some r := by rw [if_pos rfl] at H; exact H
        clear H
        have H := H1
        clear H1
        by_cases c10 : a1_0 = a1_1
        · rw [if_pos c10] at H
          have c10b0 : (a1_0 == a1_1) = true := beq_iff_eq.mpr c10
          have c10b1 : (a1_0 != a1_1) = false := bne_eq_false_iff_eq.mpr c10
          clear c10
          obtain rfl := Option.some.inj H
          go_enter Try.func75, Try.ntmps75
          go_wp2_with (first | ((with_reducible refine gate_dst (N := 3) rfl ?_); refine box_event ?hg (N := 3) ?hd (cs := #[.int .u64 a1_0, .int .u64 a1_1]) (t := 34) ?hr ?_; (case hd => rfl); (case hg => rfl); (case hr => first | (go_simp; done) | (go_simp; rfl)); intro gb373 hg w11 hbox hb; have n0_ := Aside0.mk (below_step (by repeat (first | (with_reducible first | exact HB.out | apply below_alloc | apply pw_below_drewN | apply below_drew1) | exact HB.out)) hb); have n1_ := Aside0.mk (hbox); have n2_ := Aside0.mk ((by rw [hg]; exact (below_size (by repeat (first | (with_reducible first | exact HB.out | apply below_alloc | apply pw_below_drewN | apply below_drew1) | exact HB.out))) : w.heap.size ≤ gb373)); have n3_ := Aside0.mk ((by rw [hg]; exact (below_size (by repeat (first | (with_reducible first | exact HB.out | apply below_alloc | apply pw_below_drewN | apply below_drew1) | exact HB.out))) : w.heap.size ≤ gb373)); clear HB; have HB := n0_; have BK373 := n1_; have GW373 := n2_; have GE373 := n3_; clear n0_ n1_ n2_ n3_; clear hb hbox hg; have hcz12_0 : w11.cell? ⟨gb373, 0, none⟩ = some (.int .u64 a1_0) := (blk_cell BK373.out 0).trans rfl; have hcz12_1 : w11.cell? ⟨gb373, 1, none⟩ = some (.int .u64 a1_1) := (blk_cell BK373.out 1).trans rfl; have hfz12_0 := blk_frozen BK373.out 0; have hfz12_1 := blk_frozen BK373.out 1) | ((with_reducible refine gate_callee (f := 114) rfl ?_); refine goesL_ (some 20) rfl rfl Try.func114 (by kernel_rfl) rfl #[.int .i64 a0, .int .u64 a1_0, .int .u64 a1_1] rfl (by (try simp only [List.map_toArray, List.map_cons, List.map_nil]); first | done | rfl | (simp only [List.length_drop, List.length_take]; rfl)) ?_; (with_reducible refine (node_Above.calls k a0 a1_0 a1_1 true t376 _ A7.out).mono ?_); rintro e w' ⟨rfl, ⟨nd, rfl⟩⟩; refine ⟨_, rfl, ?_⟩))
          go_ret
          exact ⟨by first | rfl | (simp [errW_none, errW_some] <;> rfl) | (simp [*, errW_none, errW_some] <;> rfl), by repeat (first | (with_reducible first | exact HB.out | apply below_alloc | apply pw_below_drewN | apply below_drew1 | refine below_set ?_ GE373.out) | exact HB.out)⟩
        · rw [if_neg c10] at H
          have c10b0 : (a1_0 == a1_1) = false := beq_eq_false_iff_ne.mpr c10
          have c10b1 : (a1_0 != a1_1) = true := bne_iff_ne.mpr c10
          obtain rfl := Option.some.inj H
          go_enter Try.func75, Try.ntmps75
          go_wp2_with (first | ((with_reducible refine gate_dst (N := 3) rfl ?_); refine box_event ?hg (N := 3) ?hd (cs := #[.int .u64 a1_0, .int .u64 a1_1]) (t := 34) ?hr ?_; (case hd => rfl); (case hg => rfl); (case hr => first | (go_simp; done) | (go_simp; rfl)); intro gb373 hg w13 hbox hb; have n0_ := Aside0.mk (below_step (by repeat (first | (with_reducible first | exact HB.out | apply below_alloc | apply pw_below_drewN | apply below_drew1) | exact HB.out)) hb); have n1_ := Aside0.mk (hbox); have n2_ := Aside0.mk ((by rw [hg]; exact (below_size (by repeat (first | (with_reducible first | exact HB.out | apply below_alloc | apply pw_below_drewN | apply below_drew1) | exact HB.out))) : w.heap.size ≤ gb373)); have n3_ := Aside0.mk ((by rw [hg]; exact (below_size (by repeat (first | (with_reducible first | exact HB.out | apply below_alloc | apply pw_below_drewN | apply below_drew1) | exact HB.out))) : w.heap.size ≤ gb373)); clear HB; have HB := n0_; have BK373 := n1_; have GW373 := n2_; have GE373 := n3_; clear n0_ n1_ n2_ n3_; clear hb hbox hg; have hcz14_0 : w13.cell? ⟨gb373, 0, none⟩ = some (.int .u64 a1_0) := (blk_cell BK373.out 0).trans rfl; have hcz14_1 : w13.cell? ⟨gb373, 1, none⟩ = some (.int .u64 a1_1) := (blk_cell BK373.out 1).trans rfl; have hfz14_0 := blk_frozen BK373.out 0; have hfz14_1 := blk_frozen BK373.out 1) | ((with_reducible refine gate_callee (f := 114) rfl ?_); refine goesL_ (some 20) rfl rfl Try.func114 (by kernel_rfl) rfl #[.int .i64 a0, .int .u64 a1_0, .int .u64 a1_1] rfl (by (try simp only [List.map_toArray, List.map_cons, List.map_nil]); first | done | rfl | (simp only [List.length_drop, List.length_take]; rfl)) ?_; (with_reducible refine (node_Above.calls k a0 a1_0 a1_1 true t376 _ A7.out).mono ?_); rintro e w' ⟨rfl, ⟨nd, rfl⟩⟩; refine ⟨_, rfl, ?_⟩))
          go_ret
          exact ⟨by first | rfl | (simp [errW_none, errW_some] <;> rfl) | (simp [*, errW_none, errW_some] <;> rfl), by repeat (first | (with_reducible first | exact HB.out | apply below_alloc | apply pw_below_drewN | apply below_drew1 | refine below_set ?_ GE373.out) | exact HB.out)⟩
      · replace c9 := Bool.eq_false_iff.mpr c9
        subst c9
        have H1 : (some 1) = some r := by rw [if_neg (show ¬ (false = true) by decide)] at H; exact H
        clear H
        have H := H1
        clear H1
        obtain rfl := Option.some.inj H
        go_enter Try.func75, Try.ntmps75
        go_wp2_with (first | ((with_reducible refine gate_dst (N := 3) rfl ?_); refine box_event ?hg (N := 3) ?hd (cs := #[.int .u64 a1_0, .int .u64 a1_1]) (t := 34) ?hr ?_; (case hd => rfl); (case hg => rfl); (case hr => first | (go_simp; done) | (go_simp; rfl)); intro gb373 hg w15 hbox hb; have n0_ := Aside0.mk (below_step (by repeat (first | (with_reducible first | exact HB.out | apply below_alloc | apply pw_below_drewN | apply below_drew1) | exact HB.out)) hb); have n1_ := Aside0.mk (hbox); have n2_ := Aside0.mk ((by rw [hg]; exact (below_size (by repeat (first | (with_reducible first | exact HB.out | apply below_alloc | apply pw_below_drewN | apply below_drew1) | exact HB.out))) : w.heap.size ≤ gb373)); have n3_ := Aside0.mk ((by rw [hg]; exact (below_size (by repeat (first | (with_reducible first | exact HB.out | apply below_alloc | apply pw_below_drewN | apply below_drew1) | exact HB.out))) : w.heap.size ≤ gb373)); clear HB; have HB := n0_; have BK373 := n1_; have GW373 := n2_; have GE373 := n3_; clear n0_ n1_ n2_ n3_; clear hb hbox hg; have hcz16_0 : w15.cell? ⟨gb373, 0, none⟩ = some (.int .u64 a1_0) := (blk_cell BK373.out 0).trans rfl; have hcz16_1 : w15.cell? ⟨gb373, 1, none⟩ = some (.int .u64 a1_1) := (blk_cell BK373.out 1).trans rfl; have hfz16_0 := blk_frozen BK373.out 0; have hfz16_1 := blk_frozen BK373.out 1) | ((with_reducible refine gate_callee (f := 114) rfl ?_); refine goesL_ (some 20) rfl rfl Try.func114 (by kernel_rfl) rfl #[.int .i64 a0, .int .u64 a1_0, .int .u64 a1_1] rfl (by (try simp only [List.map_toArray, List.map_cons, List.map_nil]); first | done | rfl | (simp only [List.length_drop, List.length_take]; rfl)) ?_; (with_reducible refine (node_Above.calls k a0 a1_0 a1_1 false t376 _ A7.out).mono ?_); rintro e w' ⟨rfl, ⟨nd, rfl⟩⟩; refine ⟨_, rfl, ?_⟩))
        go_ret
        exact ⟨by first | rfl | (simp [errW_none, errW_some] <;> rfl) | (simp [*, errW_none, errW_some] <;> rfl), by repeat (first | (with_reducible first | exact HB.out | apply below_alloc | apply pw_below_drewN | apply below_drew1 | refine below_set ?_ GE373.out) | exact HB.out)⟩
    · rw [if_neg c8] at H
      have c8b0 : (t376 == 0) = false := beq_eq_false_iff_ne.mpr c8
      have c8b1 : (t376 != 0) = true := bne_iff_ne.mpr c8
      obtain rfl := Option.some.inj H
      go_enter Try.func75, Try.ntmps75
      go_wp2_with (first | ((with_reducible refine gate_dst (N := 3) rfl ?_); refine box_event ?hg (N := 3) ?hd (cs := #[.int .u64 a1_0, .int .u64 a1_1]) (t := 34) ?hr ?_; (case hd => rfl); (case hg => rfl); (case hr => first | (go_simp; done) | (go_simp; rfl)); intro gb373 hg w17 hbox hb; have n0_ := Aside0.mk (below_step (by repeat (first | (with_reducible first | exact HB.out | apply below_alloc | apply pw_below_drewN | apply below_drew1) | exact HB.out)) hb); have n1_ := Aside0.mk (hbox); have n2_ := Aside0.mk ((by rw [hg]; exact (below_size (by repeat (first | (with_reducible first | exact HB.out | apply below_alloc | apply pw_below_drewN | apply below_drew1) | exact HB.out))) : w.heap.size ≤ gb373)); have n3_ := Aside0.mk ((by rw [hg]; exact (below_size (by repeat (first | (with_reducible first | exact HB.out | apply below_alloc | apply pw_below_drewN | apply below_drew1) | exact HB.out))) : w.heap.size ≤ gb373)); clear HB; have HB := n0_; have BK373 := n1_; have GW373 := n2_; have GE373 := n3_; clear n0_ n1_ n2_ n3_; clear hb hbox hg; have hcz18_0 : w17.cell? ⟨gb373, 0, none⟩ = some (.int .u64 a1_0) := (blk_cell BK373.out 0).trans rfl; have hcz18_1 : w17.cell? ⟨gb373, 1, none⟩ = some (.int .u64 a1_1) := (blk_cell BK373.out 1).trans rfl; have hfz18_0 := blk_frozen BK373.out 0; have hfz18_1 := blk_frozen BK373.out 1) | ((with_reducible refine gate_callee (f := 114) rfl ?_); refine goesL_ (some 20) rfl rfl Try.func114 (by kernel_rfl) rfl #[.int .i64 a0, .int .u64 a1_0, .int .u64 a1_1] rfl (by (try simp only [List.map_toArray, List.map_cons, List.map_nil]); first | done | rfl | (simp only [List.length_drop, List.length_take]; rfl)) ?_; (with_reducible refine (node_Above.calls k a0 a1_0 a1_1 t375 t376 _ A7.out).mono ?_); rintro e w' ⟨rfl, ⟨nd, rfl⟩⟩; refine ⟨_, rfl, ?_⟩))
      go_ret
      exact ⟨by first | rfl | (simp [errW_none, errW_some] <;> rfl) | (simp [*, errW_none, errW_some] <;> rfl), by repeat (first | (with_reducible first | exact HB.out | apply below_alloc | apply pw_below_drewN | apply below_drew1 | refine below_set ?_ GE373.out) | exact HB.out)⟩

end Go.Proofs.Ytmffkfakcbopcaa.MP
