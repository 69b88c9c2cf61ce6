-- written by a program of this session (wip/tools/mprint.sh) for this seat
import Derived.Test.YtnbiddloiiljjaaMPx0
import Derived.Test.YtnbiddloiiljjaaMPx4
import Derived.Test.YtnbiddloiiljjaaMPx7
import Derived.Test.YtnbiddloiiljjaaMPx10
namespace Go.Proofs.Ytnbiddloiiljjaa.MP
open Go.RowKit Go.Proofs.YtnbiddloiiljjaaW.PrintWords Go.Proofs.YtnbiddloiiljjaaW.PrintLast Go.Proofs.YtnbiddloiiljjaaW.PrintMore
attribute [local go_sem] max2_int min2_int max_two min_two max_three min_three max_four min_four   -- for this text's walks alone
set_option linter.unusedVariables false
set_option linter.unusedSimpArgs false

/-! ### medlarlaw23_TraceEnds: function 6 -/
mutual
def medlarlaw23_TraceEnds.j0 : Nat → Int → List (S24) → List Bool → Bool → Int → Int → Bool → Bool → Int → Int → Option (Bool)
  | 0, _, _, _, _, _, _, _, _, _, _ => none
  | k + 1, x0, x2, x3, x9, x13, x14, x15, x495000, x495001, x495002 => if (x3.length : Int) > 1 then (if 1 < (x3.length : Int) then (medlarlaw23_TraceEnds.j1 k x0 x2 x9 x13 x14 x15 (rdOf false x3 1) x495000 x495001 x495002) else (none)) else (medlarlaw23_TraceEnds.j1 k x0 x2 x9 x13 x14 x15 false x495000 x495001 x495002)
def medlarlaw23_TraceEnds.j1 : Nat → Int → List (S24) → Bool → Int → Int → Bool → Bool → Bool → Int → Int → Option (Bool)
  | 0, _, _, _, _, _, _, _, _, _, _ => none
  | k + 1, x0, x2, x9, x13, x14, x15, x16, x495000, x495001, x495002 => if x14 = 0 then (if x495002 < 1 then (medlarlaw23_TraceEnds.j2 k x0 x2 x9 true x495000 x495001 x495002) else (if x495002 > x13 then (medlarlaw23_TraceEnds.j2 k x0 x2 x9 true x495000 x495001 x495002) else (if x15 = true then (medlarlaw23_TraceEnds.j2 k x0 x2 x9 (x495000 != (!x16)) x495000 x495001 x495002) else (medlarlaw23_TraceEnds.j2 k x0 x2 x9 (x495000 != false) x495000 x495001 x495002)))) else (medlarlaw23_TraceEnds.j2 k x0 x2 x9 true x495000 x495001 x495002)
def medlarlaw23_TraceEnds.j2 : Nat → Int → List (S24) → Bool → Bool → Bool → Int → Int → Option (Bool)
  | 0, _, _, _, _, _, _, _ => none
  | k + 1, x0, x2, x9, x86, x495000, x495001, x495002 => if x86 = true then (some false) else (if x495000 = true then (medlarlaw23_TraceEnds.l0 k x0 x9 false x2 (x2.length : Int) 0 x495000 x495001 x495002) else (if x9 = true then (if x495001 = 0 then (some (decide (x495002 ≤ 2))) else (some false)) else (some false)))
def medlarlaw23_TraceEnds.l0 : Nat → Int → Bool → Bool → List (S24) → Int → Int → Bool → Int → Int → Option (Bool)
  | 0, _, _, _, _, _, _, _, _, _ => none
  | k + 1, x0, x9, x17, x101, x102, x103, x495000, x495001, x495002 => if x103 < x102 then (if 0 ≤ x103 then (if x103 < (x101.length : Int) then ((sub_Has.f k x0 ((rd_T24 x101 x103).f0) ((rd_T24 x101 x103).f1) x495001).bind fun bt501 => (if bt501.2 = 0 then (if x17 = true then (medlarlaw23_TraceEnds.l0 k x0 x9 true x101 x102 (wrap64 (x103 + 1)) x495000 x495001 x495002) else (medlarlaw23_TraceEnds.l0 k x0 x9 bt501.1 x101 x102 (wrap64 (x103 + 1)) x495000 x495001 x495002)) else (some false))) else (none)) else (none)) else (if x9 = true then (some x17) else (some false))
end
def medlarlaw23_TraceEnds.f (k : Nat) (a0 : Int) (a1 : Int) (l2 : List (S24)) (l3 : List Bool) : Option (Bool) := (medlarlaw23_live.f k).bind fun t487 => ((medlarlaw23_few.f true ([] : List Int) l3 l2).bind fun t489 => (if t489 = true then ((trace_Trace.f k a0 a1 l2 true ([] : List Int) l3).bind fun bt490 => ((trace_Bound.f k a0 (l2.length : Int)).bind fun bt495 => (if bt490.2.2.2 = 0 then (if (l3.length : Int) > 0 then (if 0 < (l3.length : Int) then (medlarlaw23_TraceEnds.j0 k a0 l2 l3 t487 bt495.1 bt495.2 (rdOf false l3 0) bt490.1 bt490.2.1 bt490.2.2.1) else (none)) else (medlarlaw23_TraceEnds.j0 k a0 l2 l3 t487 bt495.1 bt495.2 false bt490.1 bt490.2.1 bt490.2.2.1)) else (some t487)))) else (some t487)))
theorem medlarlaw23_TraceEnds.mono_l : ∀ k, (∀ y0 y1 y2 y3 y4 y5 y6 y7 y8 y9, LeO (medlarlaw23_TraceEnds.j0 k y0 y1 y2 y3 y4 y5 y6 y7 y8 y9) (medlarlaw23_TraceEnds.j0 (k + 1) y0 y1 y2 y3 y4 y5 y6 y7 y8 y9)) ∧ (∀ y0 y1 y2 y3 y4 y5 y6 y7 y8 y9, LeO (medlarlaw23_TraceEnds.j1 k y0 y1 y2 y3 y4 y5 y6 y7 y8 y9) (medlarlaw23_TraceEnds.j1 (k + 1) y0 y1 y2 y3 y4 y5 y6 y7 y8 y9)) ∧ (∀ y0 y1 y2 y3 y4 y5 y6, LeO (medlarlaw23_TraceEnds.j2 k y0 y1 y2 y3 y4 y5 y6) (medlarlaw23_TraceEnds.j2 (k + 1) y0 y1 y2 y3 y4 y5 y6)) ∧ (∀ y0 y1 y2 y3 y4 y5 y6 y7 y8, LeO (medlarlaw23_TraceEnds.l0 k y0 y1 y2 y3 y4 y5 y6 y7 y8) (medlarlaw23_TraceEnds.l0 (k + 1) y0 y1 y2 y3 y4 y5 y6 y7 y8))
  | 0 => ⟨fun _ _ _ _ _ _ _ _ _ _ r h => by simp [medlarlaw23_TraceEnds.j0] at h, fun _ _ _ _ _ _ _ _ _ _ r h => by simp [medlarlaw23_TraceEnds.j1] at h, fun _ _ _ _ _ _ _ r h => by simp [medlarlaw23_TraceEnds.j2] at h, fun _ _ _ _ _ _ _ _ _ r h => by simp [medlarlaw23_TraceEnds.l0] at h⟩
  | k + 1 => by
    obtain ⟨ih0, ih1, ih2, ih3⟩ := medlarlaw23_TraceEnds.mono_l k
    refine ⟨?_, ?_, ?_, ?_⟩
    · intro y0 y1 y2 y3 y4 y5 y6 y7 y8 y9
      unfold medlarlaw23_TraceEnds.j0
      repeat' first
      | (with_reducible exact ih0 _ _ _ _ _ _ _ _ _ _)
      | (with_reducible exact ih1 _ _ _ _ _ _ _ _ _ _)
      | (with_reducible exact ih2 _ _ _ _ _ _ _)
      | (with_reducible exact ih3 _ _ _ _ _ _ _ _ _)
      | (with_reducible exact medlarlaw23_live.mono _)
      | (with_reducible exact sub_Has.mono _ _ _ _ _)
      | (with_reducible exact trace_Bound.mono _ _ _)
      | (with_reducible exact trace_Trace.mono _ _ _ _ _ _ _)
      | (with_reducible exact LeO.refl _)
      | (with_reducible exact LeO.none _)
      | (with_reducible refine LeO.ite ?_ ?_)
      | (with_reducible refine LeO.bind ?_ (fun _ => ?_))
      | exact ih0 _ _ _ _ _ _ _ _ _ _
      | exact ih1 _ _ _ _ _ _ _ _ _ _
      | exact ih2 _ _ _ _ _ _ _
      | exact ih3 _ _ _ _ _ _ _ _ _
      | exact medlarlaw23_live.mono _
      | exact sub_Has.mono _ _ _ _ _
      | exact trace_Bound.mono _ _ _
      | exact trace_Trace.mono _ _ _ _ _ _ _
      | exact LeO.none _
      | refine LeO.ite ?_ ?_
      | refine LeO.bind ?_ (fun _ => ?_)
    · intro y0 y1 y2 y3 y4 y5 y6 y7 y8 y9
      unfold medlarlaw23_TraceEnds.j1
      repeat' first
      | (with_reducible exact ih0 _ _ _ _ _ _ _ _ _ _)
      | (with_reducible exact ih1 _ _ _ _ _ _ _ _ _ _)
      | (with_reducible exact ih2 _ _ _ _ _ _ _)
      | (with_reducible exact ih3 _ _ _ _ _ _ _ _ _)
      | (with_reducible exact medlarlaw23_live.mono _)
      | (with_reducible exact sub_Has.mono _ _ _ _ _)
      | (with_reducible exact trace_Bound.mono _ _ _)
      | (with_reducible exact trace_Trace.mono _ _ _ _ _ _ _)
      | (with_reducible exact LeO.refl _)
      | (with_reducible exact LeO.none _)
      | (with_reducible refine LeO.ite ?_ ?_)
      | (with_reducible refine LeO.bind ?_ (fun _ => ?_))
      | exact ih0 _ _ _ _ _ _ _ _ _ _
      | exact ih1 _ _ _ _ _ _ _ _ _ _
      | exact ih2 _ _ _ _ _ _ _
      | exact ih3 _ _ _ _ _ _ _ _ _
      | exact medlarlaw23_live.mono _
      | exact sub_Has.mono _ _ _ _ _
      | exact trace_Bound.mono _ _ _
      | exact trace_Trace.mono _ _ _ _ _ _ _
      | exact LeO.none _
      | refine LeO.ite ?_ ?_
      | refine LeO.bind ?_ (fun _ => ?_)
    · intro y0 y1 y2 y3 y4 y5 y6
      unfold medlarlaw23_TraceEnds.j2
      repeat' first
      | (with_reducible exact ih0 _ _ _ _ _ _ _ _ _ _)
      | (with_reducible exact ih1 _ _ _ _ _ _ _ _ _ _)
      | (with_reducible exact ih2 _ _ _ _ _ _ _)
      | (with_reducible exact ih3 _ _ _ _ _ _ _ _ _)
      | (with_reducible exact medlarlaw23_live.mono _)
      | (with_reducible exact sub_Has.mono _ _ _ _ _)
      | (with_reducible exact trace_Bound.mono _ _ _)
      | (with_reducible exact trace_Trace.mono _ _ _ _ _ _ _)
      | (with_reducible exact LeO.refl _)
      | (with_reducible exact LeO.none _)
      | (with_reducible refine LeO.ite ?_ ?_)
      | (with_reducible refine LeO.bind ?_ (fun _ => ?_))
      | exact ih0 _ _ _ _ _ _ _ _ _ _
      | exact ih1 _ _ _ _ _ _ _ _ _ _
      | exact ih2 _ _ _ _ _ _ _
      | exact ih3 _ _ _ _ _ _ _ _ _
      | exact medlarlaw23_live.mono _
      | exact sub_Has.mono _ _ _ _ _
      | exact trace_Bound.mono _ _ _
      | exact trace_Trace.mono _ _ _ _ _ _ _
      | exact LeO.none _
      | refine LeO.ite ?_ ?_
      | refine LeO.bind ?_ (fun _ => ?_)
    · intro y0 y1 y2 y3 y4 y5 y6 y7 y8
      unfold medlarlaw23_TraceEnds.l0
      repeat' first
      | (with_reducible exact ih0 _ _ _ _ _ _ _ _ _ _)
      | (with_reducible exact ih1 _ _ _ _ _ _ _ _ _ _)
      | (with_reducible exact ih2 _ _ _ _ _ _ _)
      | (with_reducible exact ih3 _ _ _ _ _ _ _ _ _)
      | (with_reducible exact medlarlaw23_live.mono _)
      | (with_reducible exact sub_Has.mono _ _ _ _ _)
      | (with_reducible exact trace_Bound.mono _ _ _)
      | (with_reducible exact trace_Trace.mono _ _ _ _ _ _ _)
      | (with_reducible exact LeO.refl _)
      | (with_reducible exact LeO.none _)
      | (with_reducible refine LeO.ite ?_ ?_)
      | (with_reducible refine LeO.bind ?_ (fun _ => ?_))
      | exact ih0 _ _ _ _ _ _ _ _ _ _
      | exact ih1 _ _ _ _ _ _ _ _ _ _
      | exact ih2 _ _ _ _ _ _ _
      | exact ih3 _ _ _ _ _ _ _ _ _
      | exact medlarlaw23_live.mono _
      | exact sub_Has.mono _ _ _ _ _
      | exact trace_Bound.mono _ _ _
      | exact trace_Trace.mono _ _ _ _ _ _ _
      | exact LeO.none _
      | refine LeO.ite ?_ ?_
      | refine LeO.bind ?_ (fun _ => ?_)
theorem medlarlaw23_TraceEnds.mono : ∀ a0 a1 a2 a3 k, LeO (medlarlaw23_TraceEnds.f k a0 a1 a2 a3) (medlarlaw23_TraceEnds.f (k + 1) a0 a1 a2 a3) := by
  intro a0 a1 a2 a3 k
  obtain ⟨ih0, ih1, ih2, ih3⟩ := medlarlaw23_TraceEnds.mono_l k
  unfold medlarlaw23_TraceEnds.f
  repeat' first
      | (with_reducible exact ih0 _ _ _ _ _ _ _ _ _ _)
      | (with_reducible exact ih1 _ _ _ _ _ _ _ _ _ _)
      | (with_reducible exact ih2 _ _ _ _ _ _ _)
      | (with_reducible exact ih3 _ _ _ _ _ _ _ _ _)
      | (with_reducible exact medlarlaw23_live.mono _)
      | (with_reducible exact sub_Has.mono _ _ _ _ _)
      | (with_reducible exact trace_Bound.mono _ _ _)
      | (with_reducible exact trace_Trace.mono _ _ _ _ _ _ _)
      | (with_reducible exact LeO.refl _)
      | (with_reducible exact LeO.none _)
      | (with_reducible refine LeO.ite ?_ ?_)
      | (with_reducible refine LeO.bind ?_ (fun _ => ?_))
      | exact ih0 _ _ _ _ _ _ _ _ _ _
      | exact ih1 _ _ _ _ _ _ _ _ _ _
      | exact ih2 _ _ _ _ _ _ _
      | exact ih3 _ _ _ _ _ _ _ _ _
      | exact medlarlaw23_live.mono _
      | exact sub_Has.mono _ _ _ _ _
      | exact trace_Bound.mono _ _ _
      | exact trace_Trace.mono _ _ _ _ _ _ _
      | exact LeO.none _
      | refine LeO.ite ?_ ?_
      | refine LeO.bind ?_ (fun _ => ?_)
set_option maxHeartbeats 8000000 in
set_option maxRecDepth 100000 in
theorem medlarlaw23_TraceEnds.calls (k : Nat) (a0 : Int) (a1 : Int) (A2 : Option Addr) (c2 : Nat) (l2 : List (S24)) (A3 : Option Addr) (c3 : Nat) (l3 : List Bool) (r : Bool) (w : World) (hr2 : Kd.C k24 w A2 l2.length l2) (hc2 : l2.length ≤ c2) (hr3 : Kd.C Kd.bool w A3 l3.length l3) (hc3 : l3.length ≤ c3) (h : medlarlaw23_TraceEnds.f k a0 a1 l2 l3 = some r) (hT : Aside0 (r = true)) :
    Calls Try.prog 6 #[.int .i64 a0, .int .i64 a1, .slice A2 l2.length c2, .slice A3 l3.length c3] w fun e w' => e = .returned (.bool r) ∧ Below w.heap.size w w' := by
  have hu42 := Try.underlying42
  have hu48 := Try.underlying48
  have hu24 := Try.underlying24
  have HR2 := Aside0.mk hr2
  have HC2 := Aside0.mk hc2
  clear hr2 hc2
  have HR3 := Aside0.mk hr3
  have HC3 := Aside0.mk hc3
  clear hr3 hc3
  have HB := Aside0.mk (Below.refl w.heap.size w)
  have H : ((medlarlaw23_live.f k).bind fun t487 => ((medlarlaw23_few.f true ([] : List Int) l3 l2).bind fun t489 => (if t489 = true then ((trace_Trace.f k a0 a1 l2 true ([] : List Int) l3).bind fun bt490 => ((trace_Bound.f k a0 (l2.length : Int)).bind fun bt495 => (if bt490.2.2.2 = 0 then (if (l3.length : Int) > 0 then (if 0 < (l3.length : Int) then (medlarlaw23_TraceEnds.j0 k a0 l2 l3 t487 bt495.1 bt495.2 (rdOf false l3 0) bt490.1 bt490.2.1 bt490.2.2.1) else (none)) else (medlarlaw23_TraceEnds.j0 k a0 l2 l3 t487 bt495.1 bt495.2 false bt490.1 bt490.2.1 bt490.2.2.1)) else (some t487)))) else (some t487)))) = some r := h
  clear h
  replace H := Option.bind_eq_some_iff.mp H
  obtain ⟨t487, A50, H⟩ := H
  replace H : ((medlarlaw23_few.f true ([] : List Int) l3 l2).bind fun t489 => (if t489 = true then ((trace_Trace.f k a0 a1 l2 true ([] : List Int) l3).bind fun bt490 => ((trace_Bound.f k a0 (l2.length : Int)).bind fun bt495 => (if bt490.2.2.2 = 0 then (if (l3.length : Int) > 0 then (if 0 < (l3.length : Int) then (medlarlaw23_TraceEnds.j0 k a0 l2 l3 t487 bt495.1 bt495.2 (rdOf false l3 0) bt490.1 bt490.2.1 bt490.2.2.1) else (none)) else (medlarlaw23_TraceEnds.j0 k a0 l2 l3 t487 bt495.1 bt495.2 false bt490.1 bt490.2.1 bt490.2.2.1)) else (some t487)))) else (some t487))) = some r := H
  have A5 := Aside0.mk A50
  clear A50
  replace H := Option.bind_eq_some_iff.mp H
  obtain ⟨t489, A60, H⟩ := H
  replace H : (if t489 = true then ((trace_Trace.f k a0 a1 l2 true ([] : List Int) l3).bind fun bt490 => ((trace_Bound.f k a0 (l2.length : Int)).bind fun bt495 => (if bt490.2.2.2 = 0 then (if (l3.length : Int) > 0 then (if 0 < (l3.length : Int) then (medlarlaw23_TraceEnds.j0 k a0 l2 l3 t487 bt495.1 bt495.2 (rdOf false l3 0) bt490.1 bt490.2.1 bt490.2.2.1) else (none)) else (medlarlaw23_TraceEnds.j0 k a0 l2 l3 t487 bt495.1 bt495.2 false bt490.1 bt490.2.1 bt490.2.2.1)) else (some t487)))) else (some t487)) = some r := H
  have A6 := Aside0.mk A60
  clear A60
  by_cases c7 : t489 = true
  · subst c7
    have H1 : ((trace_Trace.f k a0 a1 l2 true ([] : List Int) l3).bind fun bt490 => ((trace_Bound.f k a0 (l2.length : Int)).bind fun bt495 => (if bt490.2.2.2 = 0 then (if (l3.length : Int) > 0 then (if 0 < (l3.length : Int) then (medlarlaw23_TraceEnds.j0 k a0 l2 l3 t487 bt495.1 bt495.2 (rdOf false l3 0) bt490.1 bt490.2.1 bt490.2.2.1) else (none)) else (medlarlaw23_TraceEnds.j0 k a0 l2 l3 t487 bt495.1 bt495.2 false bt490.1 bt490.2.1 bt490.2.2.1)) else (some t487)))) = some r := by rw [if_pos rfl] at H; exact H
    clear H
    have H := H1
    clear H1
    replace H := Option.bind_eq_some_iff.mp H
    obtain ⟨⟨t490, t491, t492, t493⟩, A80, H⟩ := H
    replace H : ((trace_Bound.f k a0 (l2.length : Int)).bind fun bt495 => (if t493 = 0 then (if (l3.length : Int) > 0 then (if 0 < (l3.length : Int) then (medlarlaw23_TraceEnds.j0 k a0 l2 l3 t487 bt495.1 bt495.2 (rdOf false l3 0) t490 t491 t492) else (none)) else (medlarlaw23_TraceEnds.j0 k a0 l2 l3 t487 bt495.1 bt495.2 false t490 t491 t492)) else (some t487))) = some r := H
    have A8 := Aside0.mk A80
    clear A80
    replace H := Option.bind_eq_some_iff.mp H
    obtain ⟨⟨t495, t496⟩, A90, H⟩ := H
    replace H : (if t493 = 0 then (if (l3.length : Int) > 0 then (if 0 < (l3.length : Int) then (medlarlaw23_TraceEnds.j0 k a0 l2 l3 t487 t495 t496 (rdOf false l3 0) t490 t491 t492) else (none)) else (medlarlaw23_TraceEnds.j0 k a0 l2 l3 t487 t495 t496 false t490 t491 t492)) else (some t487)) = some r := H
    have A9 := Aside0.mk A90
    clear A90
    by_cases c10 : t493 = 0
    · rw [if_pos c10] at H
      have c10b0 : (t493 == 0) = true := beq_iff_eq.mpr c10
      have c10b1 : (t493 != 0) = false := bne_eq_false_iff_eq.mpr c10
      clear c10
      have HC11 := Aside0.mk H
      clear H
      go_enter Try.func6, Try.ntmps6
      go_upto_region 9 with (first | ((with_reducible refine gate_callee (f := 9) rfl ?_); refine goesL_ (some 22) rfl rfl Try.func9 (by kernel_rfl) rfl #[] rfl (by (try simp only [List.map_toArray, List.map_cons, List.map_nil]); first | done | rfl | (simp only [List.length_drop, List.length_take]; rfl)) ?_; (with_reducible refine (medlarlaw23_live.calls k  t487 _ A5.out).mono ?_); rintro e w12 ⟨rfl, hb⟩; refine ⟨_, rfl, ?_⟩; have n0_ := Aside0.mk (below_step (by repeat (first | (with_reducible first | exact HB.out | apply below_alloc | apply pw_below_drewN | apply below_drew1) | exact HB.out)) hb); clear HB; have HB := n0_; clear n0_; (try clear hb); (try clear hb2); (try clear hk); (try clear hi)) | ((with_reducible refine gate_dst (N := 10) rfl ?_); refine box_event ?hg (N := 10) ?hd (cs := #[.bool false, .slice none 0 0, .slice none 0 0]) (t := 42) ?hr ?_; (case hd => rfl); (case hg => rfl); (case hr => first | (go_simp; done) | (go_simp; rfl)); intro gb488 hg w13 hbox hb; have n0_ := Aside0.mk (below_step (by repeat (first | (with_reducible first | exact HB.out | apply below_alloc | apply pw_below_drewN | apply below_drew1) | exact HB.out)) hb); have n1_ := Aside0.mk (hbox); have n2_ := Aside0.mk ((by rw [hg]; exact (below_size (by repeat (first | (with_reducible first | exact HB.out | apply below_alloc | apply pw_below_drewN | apply below_drew1) | exact HB.out))) : w.heap.size ≤ gb488)); have n3_ := Aside0.mk ((by rw [hg]; exact (below_size (by repeat (first | (with_reducible first | exact HB.out | apply below_alloc | apply pw_below_drewN | apply below_drew1) | exact HB.out))) : w.heap.size ≤ gb488)); clear HB; have HB := n0_; have BK488 := n1_; have GW488 := n2_; have GE488 := n3_; clear n0_ n1_ n2_ n3_; clear hb hbox hg; have hcz14_0 : w13.cell? ⟨gb488, 0, none⟩ = some (.bool false) := (blk_cell BK488.out 0).trans rfl; have hcz14_1 : w13.cell? ⟨gb488, 1, none⟩ = some (.slice none 0 0) := (blk_cell BK488.out 1).trans rfl; have hcz14_2 : w13.cell? ⟨gb488, 2, none⟩ = some (.slice none 0 0) := (blk_cell BK488.out 2).trans rfl; have hfz14_0 := blk_frozen BK488.out 0; have hfz14_1 := blk_frozen BK488.out 1; have hfz14_2 := blk_frozen BK488.out 2) | ((with_reducible refine gate_callee (f := 15) rfl ?_); refine goesL_ (some 27) rfl rfl Try.func15 (by kernel_rfl) rfl #[.agg #[.bool true, .slice none 0 0, .slice A3 l3.length c3], .slice A2 l2.length c2] rfl (by (try simp only [List.map_toArray, List.map_cons, List.map_nil]); first | done | rfl | (simp only [List.length_drop, List.length_take]; rfl)) ?_; (refine (medlarlaw23_few.calls true _ _ ([] : List Int) _ _ l3 _ _ l2 true _ ?side1 ?side2 ?side3 ?side4 ?side5 ?side6 A6.out).mono ?_); (case side1 => exact Kd.C_nil _ _); (case side2 => exact Nat.le_refl _); (case side3 => exact Kd.C_below HR3.out (by repeat (first | (with_reducible first | exact HB.out | apply below_alloc | apply pw_below_drewN | apply below_drew1 | refine below_set ?_ GE488.out) | exact HB.out))); (case side4 => exact HC3.out); (case side5 => exact Kd.C_below HR2.out (by repeat (first | (with_reducible first | exact HB.out | apply below_alloc | apply pw_below_drewN | apply below_drew1 | refine below_set ?_ GE488.out) | exact HB.out))); (case side6 => exact HC2.out); rintro e w15 ⟨rfl, hb⟩; refine ⟨_, rfl, ?_⟩; have n0_ := Aside0.mk (blk_below (g := gb488) (o := .cells #[.bool true, .slice none 0 0, .slice A3 l3.length c3] 42 (0, 0)) (by (with_reducible repeat (first | refine blk_drewN ?_ _ | refine blk_drew ?_ | refine blk_alloc ?_ _)); refine blk_put (cs := #[.bool true, .slice none 0 0, .slice none 0 0]) ?_ 2 _ rfl; (with_reducible repeat (first | refine blk_drewN ?_ _ | refine blk_drew ?_ | refine blk_alloc ?_ _)); refine blk_put (cs := #[.bool true, .slice none 0 0, .slice none 0 0]) ?_ 1 _ rfl; (with_reducible repeat (first | refine blk_drewN ?_ _ | refine blk_drew ?_ | refine blk_alloc ?_ _)); refine blk_put (cs := #[.bool false, .slice none 0 0, .slice none 0 0]) ?_ 0 _ rfl; (with_reducible repeat (first | refine blk_drewN ?_ _ | refine blk_drew ?_ | refine blk_alloc ?_ _)); exact BK488.out) hb); have n1_ := Aside0.mk (below_step (by repeat (first | (with_reducible first | exact HB.out | apply below_alloc | apply pw_below_drewN | apply below_drew1 | refine below_set ?_ GE488.out) | exact HB.out)) hb); clear BK488; clear HB; have BK488 := n0_; have HB := n1_; clear n0_ n1_; (try clear hb); (try clear hb2); (try clear hk); (try clear hi); have hcz16_0 : w15.cell? ⟨gb488, 0, none⟩ = some (.bool true) := (blk_cell BK488.out 0).trans rfl; have hcz16_1 : w15.cell? ⟨gb488, 1, none⟩ = some (.slice none 0 0) := (blk_cell BK488.out 1).trans rfl; have hcz16_2 : w15.cell? ⟨gb488, 2, none⟩ = some (.slice A3 l3.length c3) := (blk_cell BK488.out 2).trans rfl; have hfz16_0 := blk_frozen BK488.out 0; have hfz16_1 := blk_frozen BK488.out 1; have hfz16_2 := blk_frozen BK488.out 2) | ((with_reducible refine gate_callee (f := 20) rfl ?_); refine goesL_ (some 35) rfl rfl Try.func20 (by kernel_rfl) rfl #[.int .i64 a0, .int .i64 a1, .slice A2 l2.length c2, .agg #[.bool true, .slice none 0 0, .slice A3 l3.length c3]] rfl (by (try simp only [List.map_toArray, List.map_cons, List.map_nil]); first | done | rfl | (simp only [List.length_drop, List.length_take]; rfl)) ?_; (refine (trace_Trace.calls k a0 a1 _ _ l2 true _ _ ([] : List Int) _ _ l3 t490 t491 t492 t493 _ ?side1 ?side2 ?side3 ?side4 ?side5 ?side6 A8.out).mono ?_); (case side1 => repeat (first | exact (Kd.C_below HR2.out HB.out) | (with_reducible refine Kd.C_alloc ?_ _) | (with_reducible refine Kd.C_drewN ?_ _) | (with_reducible refine Kd.C_drew ?_))); (case side2 => exact HC2.out); (case side3 => exact Kd.C_nil _ _); (case side4 => exact Nat.le_refl _); (case side5 => repeat (first | exact (Kd.C_below HR3.out HB.out) | (with_reducible refine Kd.C_alloc ?_ _) | (with_reducible refine Kd.C_drewN ?_ _) | (with_reducible refine Kd.C_drew ?_))); (case side6 => exact HC3.out); rintro e w17 ⟨rfl, hb⟩; refine ⟨_, rfl, ?_⟩; have n0_ := Aside0.mk (blk_below (g := gb488) (o := .cells #[.bool true, .slice none 0 0, .slice A3 l3.length c3] 42 (0, 0)) (by (with_reducible repeat (first | refine blk_drewN ?_ _ | refine blk_drew ?_ | refine blk_alloc ?_ _)); exact BK488.out) hb); have n1_ := Aside0.mk (below_step (by repeat (first | (with_reducible first | exact HB.out | apply below_alloc | apply pw_below_drewN | apply below_drew1 | refine below_set ?_ GE488.out) | exact HB.out)) hb); clear BK488; clear HB; have BK488 := n0_; have HB := n1_; clear n0_ n1_; (try clear hb); (try clear hb2); (try clear hk); (try clear hi)) | ((with_reducible refine gate_dst (N := 11) rfl ?_); refine box_event ?hg (N := 11) ?hd (cs := #[.bool false, .int .u64 0, .int .i64 0]) (t := 48) ?hr ?_; (case hd => rfl); (case hg => rfl); (case hr => first | (go_simp; done) | (go_simp; rfl)); intro gb494 hg w18 hbox hb; have n0_ := Aside0.mk (blk_below (g := gb488) (o := .cells #[.bool true, .slice none 0 0, .slice A3 l3.length c3] 42 (0, 0)) (by (with_reducible repeat (first | refine blk_drewN ?_ _ | refine blk_drew ?_ | refine blk_alloc ?_ _)); exact BK488.out) hb); have n1_ := Aside0.mk (below_step (by repeat (first | (with_reducible first | exact HB.out | apply below_alloc | apply pw_below_drewN | apply below_drew1 | refine below_set ?_ GE488.out) | exact HB.out)) hb); have n2_ := Aside0.mk (hbox); have n3_ := Aside0.mk ((by rw [hg]; exact (below_size (by repeat (first | (with_reducible first | exact HB.out | apply below_alloc | apply pw_below_drewN | apply below_drew1 | refine below_set ?_ GE488.out) | exact HB.out))) : w.heap.size ≤ gb494)); have n4_ := Aside0.mk ((by rw [hg]; exact (below_size (by repeat (first | (with_reducible first | exact HB.out | apply below_alloc | apply pw_below_drewN | apply below_drew1 | refine below_set ?_ GE488.out) | exact HB.out))) : w.heap.size ≤ gb494)); have n5_ := Aside0.mk ((by rw [hg]; exact Nat.ne_of_lt (blk_lt (g := gb488) (o := .cells #[.bool true, .slice none 0 0, .slice A3 l3.length c3] 42 (0, 0)) (by (with_reducible repeat (first | refine blk_drewN ?_ _ | refine blk_drew ?_ | refine blk_alloc ?_ _)); exact BK488.out)) : gb488 ≠ gb494)); have n6_ := Aside0.mk ((by rw [hg]; exact Nat.ne_of_gt (blk_lt (g := gb488) (o := .cells #[.bool true, .slice none 0 0, .slice A3 l3.length c3] 42 (0, 0)) (by (with_reducible repeat (first | refine blk_drewN ?_ _ | refine blk_drew ?_ | refine blk_alloc ?_ _)); exact BK488.out)) : gb494 ≠ gb488)); clear BK488; clear HB; have BK488 := n0_; have HB := n1_; have BK494 := n2_; have GW494 := n3_; have GE494 := n4_; have NB488_494 := n5_; have NB494_488 := n6_; clear n0_ n1_ n2_ n3_ n4_ n5_ n6_; clear hb hbox hg; have hnb19 := NB494_488.out; have hnc19 := NB488_494.out; have hcz20_0 : w18.cell? ⟨gb494, 0, none⟩ = some (.bool false) := (blk_cell BK494.out 0).trans rfl; have hcz20_1 : w18.cell? ⟨gb494, 1, none⟩ = some (.int .u64 0) := (blk_cell BK494.out 1).trans rfl; have hcz20_2 : w18.cell? ⟨gb494, 2, none⟩ = some (.int .i64 0) := (blk_cell BK494.out 2).trans rfl; have hfz20_0 := blk_frozen BK494.out 0; have hfz20_1 := blk_frozen BK494.out 1; have hfz20_2 := blk_frozen BK494.out 2) | ((with_reducible refine gate_callee (f := 18) rfl ?_); refine goesL_ (some 42) rfl rfl Try.func18 (by kernel_rfl) rfl #[.int .i64 a0, .int .i64 (l2.length : Int)] rfl (by (try simp only [List.map_toArray, List.map_cons, List.map_nil]); first | done | rfl | (simp only [List.length_drop, List.length_take]; rfl)) ?_; (with_reducible refine (trace_Bound.calls k a0 (l2.length : Int) t495 t496 _ A9.out).mono ?_); rintro e w' ⟨rfl, ⟨nd, rfl⟩⟩; refine ⟨_, rfl, ?_⟩))
      (try simp only [Act.put, List.setIfInBounds_toArray, List.set_cons_zero, List.set_cons_succ])
      go_cut [15] (fun v15 wc => ∃ (kq : Nat) (x15_10 : Bool), v15 = .bool x15_10 ∧ Aside0 (medlarlaw23_TraceEnds.j0 kq a0 l2 l3 t487 t495 t496 x15_10 t490 t491 t492 = some r) ∧ Aside0 (kq ≤ k) ∧ Aside0 (wc.heap[gb488]? = some (.cells #[.bool true, (.slice none 0 0), (.slice A3 l3.length c3)] 42 (0, 0))) ∧ Aside0 (wc.heap[gb494]? = some (.cells #[.bool t490, .int .u64 t491, .int .i64 t492] 48 (0, 0))) ∧ Aside0 (Below w.heap.size w wc))
      case first =>
        have H := HC11.out
        clear HC11
        by_cases c21 : (l3.length : Int) > 0
        · rw [if_pos c21] at H
          have c21b0 : decide (0 < (l3.length : Int)) = true := decide_eq_true c21
          have c21b1 : decide (0 < l3.length) = true := decide_eq_true (by omega)
          clear c21
          (first | rw [c21b0] | (simp only [i64_w, i32_w]; rw [c21b0]) | skip)
          by_cases c22 : 0 < (l3.length : Int)
          · rw [if_pos c22] at H
            have c22b0 : decide (0 < (l3.length : Int)) = true := decide_eq_true c22
            have c22b1 : decide (0 < l3.length) = true := decide_eq_true (by omega)
            clear c22
            have H' := Aside0.mk H
            clear H
            have p497 : 0 ≤ (0 : Int) := (by omega)
            have q497 : 0 < (l3.length : Int) := of_decide_eq_true (by first | (with_reducible assumption) | assumption)
            obtain ⟨ad497, e497, hx497_0⟩ := Kd.at_bool HR3.out 0 p497 q497
            cases e497
            have qi497 : (0 < l3.length) = True := eq_true (by omega)
            (try rw [show ((0 : Int)).toNat = 0 from rfl] at hx497_0)
            (try rw [Addr.add_zero'] at hx497_0)
            have hn497_0 : ad497.block ≠ gb494 := Nat.ne_of_lt (Nat.lt_of_lt_of_le (by have := World.block_lt_of_cell? _ _ hx497_0; first | rwa [add_block] at this | exact this) GW494.out)
            have hn497_1 : ad497.block ≠ gb494 := Nat.ne_of_lt (Nat.lt_of_lt_of_le (by have := World.block_lt_of_cell? _ _ hx497_0; first | rwa [add_block] at this | exact this) GW494.out)
            have hn497_2 : ad497.block ≠ gb494 := Nat.ne_of_lt (Nat.lt_of_lt_of_le (by have := World.block_lt_of_cell? _ _ hx497_0; first | rwa [add_block] at this | exact this) GW494.out)
            replace hx497_0 := (HB.out.cell (World.block_lt_of_cell? w _ hx497_0)).trans hx497_0
            replace hx497_0 := (cell_far (p := ⟨gb494, 0, none⟩) (by first | (rw [add_block]; exact hn497_0) | (show (Addr.add _ _).block ≠ _; rw [add_block]; exact hn497_0) | exact hn497_0) (.bool t490)).trans hx497_0
            replace hx497_0 := (cell_far (p := ⟨gb494, 1, none⟩) (by first | (rw [add_block]; exact hn497_1) | (show (Addr.add _ _).block ≠ _; rw [add_block]; exact hn497_1) | exact hn497_1) (.int .u64 t491)).trans hx497_0
            replace hx497_0 := (cell_far (p := ⟨gb494, 2, none⟩) (by first | (rw [add_block]; exact hn497_2) | (show (Addr.add _ _).block ≠ _; rw [add_block]; exact hn497_2) | exact hn497_2) (.int .i64 t492)).trans hx497_0
            clear hn497_0
            clear hn497_1
            clear hn497_2
            replace p497 := eq_true p497
            replace q497 := eq_true q497
            go_wp2
            go_meet
            case rel => exact ⟨_, (rdOf false l3 0), (by first | rfl | (simp; done) | (simp [*]; done)), H', ⟨by first | omega | exact Nat.le_refl _⟩, ⟨by (with_reducible repeat (first | refine blk_drewN ?_ _ | refine blk_drew ?_ | refine blk_alloc ?_ _)); refine blk_far ?_ NB488_494.out _; (with_reducible repeat (first | refine blk_drewN ?_ _ | refine blk_drew ?_ | refine blk_alloc ?_ _)); refine blk_far ?_ NB488_494.out _; (with_reducible repeat (first | refine blk_drewN ?_ _ | refine blk_drew ?_ | refine blk_alloc ?_ _)); refine blk_far ?_ NB488_494.out _; (with_reducible repeat (first | refine blk_drewN ?_ _ | refine blk_drew ?_ | refine blk_alloc ?_ _)); exact BK488.out⟩, ⟨by (with_reducible repeat (first | refine blk_drewN ?_ _ | refine blk_drew ?_ | refine blk_alloc ?_ _)); refine blk_put (cs := #[.bool t490, .int .u64 t491, .int .i64 0]) ?_ 2 _ rfl; (with_reducible repeat (first | refine blk_drewN ?_ _ | refine blk_drew ?_ | refine blk_alloc ?_ _)); refine blk_put (cs := #[.bool t490, .int .u64 0, .int .i64 0]) ?_ 1 _ rfl; (with_reducible repeat (first | refine blk_drewN ?_ _ | refine blk_drew ?_ | refine blk_alloc ?_ _)); refine blk_put (cs := #[.bool false, .int .u64 0, .int .i64 0]) ?_ 0 _ rfl; (with_reducible repeat (first | refine blk_drewN ?_ _ | refine blk_drew ?_ | refine blk_alloc ?_ _)); exact BK494.out⟩, ⟨by repeat (first | (with_reducible first | exact HB.out | apply below_alloc | apply pw_below_drewN | apply below_drew1 | refine below_set ?_ GE488.out | refine below_set ?_ GE494.out) | exact HB.out)⟩⟩
          · rw [if_neg c22] at H
            exact absurd H (by simp)
        · rw [if_neg c21] at H
          have c21b0 : decide (0 < (l3.length : Int)) = false := decide_eq_false c21
          have c21b1 : decide (0 < l3.length) = false := decide_eq_false (by omega)
          clear c21
          (first | rw [c21b0] | (simp only [i64_w, i32_w]; rw [c21b0]) | skip)
          have H' := Aside0.mk H
          clear H
          go_wp2
          go_meet
          case rel => exact ⟨_, (false), (by first | rfl | (simp; done) | (simp [*]; done)), H', ⟨by first | omega | exact Nat.le_refl _⟩, ⟨by (with_reducible repeat (first | refine blk_drewN ?_ _ | refine blk_drew ?_ | refine blk_alloc ?_ _)); refine blk_far ?_ NB488_494.out _; (with_reducible repeat (first | refine blk_drewN ?_ _ | refine blk_drew ?_ | refine blk_alloc ?_ _)); refine blk_far ?_ NB488_494.out _; (with_reducible repeat (first | refine blk_drewN ?_ _ | refine blk_drew ?_ | refine blk_alloc ?_ _)); refine blk_far ?_ NB488_494.out _; (with_reducible repeat (first | refine blk_drewN ?_ _ | refine blk_drew ?_ | refine blk_alloc ?_ _)); exact BK488.out⟩, ⟨by (with_reducible repeat (first | refine blk_drewN ?_ _ | refine blk_drew ?_ | refine blk_alloc ?_ _)); refine blk_put (cs := #[.bool t490, .int .u64 t491, .int .i64 0]) ?_ 2 _ rfl; (with_reducible repeat (first | refine blk_drewN ?_ _ | refine blk_drew ?_ | refine blk_alloc ?_ _)); refine blk_put (cs := #[.bool t490, .int .u64 0, .int .i64 0]) ?_ 1 _ rfl; (with_reducible repeat (first | refine blk_drewN ?_ _ | refine blk_drew ?_ | refine blk_alloc ?_ _)); refine blk_put (cs := #[.bool false, .int .u64 0, .int .i64 0]) ?_ 0 _ rfl; (with_reducible repeat (first | refine blk_drewN ?_ _ | refine blk_drew ?_ | refine blk_alloc ?_ _)); exact BK494.out⟩, ⟨by repeat (first | (with_reducible first | exact HB.out | apply below_alloc | apply pw_below_drewN | apply below_drew1 | refine below_set ?_ GE488.out | refine below_set ?_ GE494.out) | exact HB.out)⟩⟩
      case rest =>
        clear HC11
        try clear c1
        try clear c2
        try clear p2
        try clear c3
        try clear p4
        try clear q4
        try clear hx4
        try clear qi4
        try clear c6
        try clear c7
        try clear c9
        try clear c10
        try clear c10b0
        try clear c10b1
        try clear c15
        try clear c18
        try clear c19
        try clear c20
        try clear c21
        try clear c21b0
        try clear c21b1
        try clear c22
        try clear c22b0
        try clear c22b1
        try clear hcz14_0
        try clear hcz14_1
        try clear hcz14_2
        try clear hcz16_0
        try clear hcz16_1
        try clear hcz16_2
        try clear hcz20_0
        try clear hcz20_1
        try clear hcz20_2
        try clear hfz14_0
        try clear hfz14_1
        try clear hfz14_2
        try clear hfz16_0
        try clear hfz16_1
        try clear hfz16_2
        try clear hfz20_0
        try clear hfz20_1
        try clear hfz20_2
        try clear hx497_0
        try clear p497
        try clear q497
        obtain ⟨kq, x15_10, rfl, HA, HJ10, BK488, BK494, HB⟩ := hcut
        cases kq with
        | zero => exact absurd HA.out (by simp [medlarlaw23_TraceEnds.j0])
        | succ kj10 =>
          have H := HA.out
          clear HA
          simp only [medlarlaw23_TraceEnds.j0] at H
          have HC23 := Aside0.mk H
          clear H
          go_upto_region 10 with (fail)
          go_cut [16] (fun v16 wc => ∃ (kq : Nat) (x16_22 : Bool), v16 = .bool x16_22 ∧ Aside0 (medlarlaw23_TraceEnds.j1 kq a0 l2 t487 t495 t496 x15_10 x16_22 t490 t491 t492 = some r) ∧ Aside0 (kq ≤ kj10) ∧ Aside0 (wc.heap[gb488]? = some (.cells #[.bool true, (.slice none 0 0), (.slice A3 l3.length c3)] 42 (0, 0))) ∧ Aside0 (wc.heap[gb494]? = some (.cells #[.bool t490, .int .u64 t491, .int .i64 t492] 48 (0, 0))) ∧ Aside0 (Below w.heap.size w wc))
          case first =>
            have H := HC23.out
            clear HC23
            by_cases c24 : (l3.length : Int) > 1
            · rw [if_pos c24] at H
              have c24b0 : decide (1 < (l3.length : Int)) = true := decide_eq_true c24
              have c24b1 : decide (1 < l3.length) = true := decide_eq_true (by omega)
              clear c24
              (first | rw [c24b0] | (simp only [i64_w, i32_w]; rw [c24b0]) | skip)
              by_cases c25 : 1 < (l3.length : Int)
              · rw [if_pos c25] at H
                have c25b0 : decide (1 < (l3.length : Int)) = true := decide_eq_true c25
                have c25b1 : decide (1 < l3.length) = true := decide_eq_true (by omega)
                clear c25
                have H' := Aside0.mk H
                clear H
                have p498 : 0 ≤ (1 : Int) := (by omega)
                have q498 : 1 < (l3.length : Int) := of_decide_eq_true (by first | (with_reducible assumption) | assumption)
                obtain ⟨ad498, e498, hx498_0⟩ := Kd.at_bool HR3.out 1 p498 q498
                cases e498
                (try simp only [show (1 : Int).toNat = 1 from rfl, Nat.reduceMul, Nat.reduceEqDiff, Go.Addr.add, ↓reduceIte] at hx498_0)
                have qi498 : (1 < l3.length) = True := eq_true (by omega)
                (try rw [show ((1 : Int)).toNat = 1 from rfl] at hx498_0)
                replace hx498_0 := (HB.out.cell (World.block_lt_of_cell? w _ hx498_0)).trans hx498_0
                replace p498 := eq_true p498
                replace q498 := eq_true q498
                go_wp2
                go_meet
                case rel => exact ⟨_, (rdOf false l3 1), (by first | rfl | (simp; done) | (simp [*]; done)), H', ⟨by have := HJ10.out; first | omega | exact Nat.le_refl _⟩, ⟨by (with_reducible repeat (first | refine blk_drewN ?_ _ | refine blk_drew ?_ | refine blk_alloc ?_ _)); exact BK488.out⟩, ⟨by (with_reducible repeat (first | refine blk_drewN ?_ _ | refine blk_drew ?_ | refine blk_alloc ?_ _)); exact BK494.out⟩, ⟨by repeat (first | (with_reducible first | exact HB.out | apply below_alloc | apply pw_below_drewN | apply below_drew1 | refine below_set ?_ GE488.out | refine below_set ?_ GE494.out) | exact HB.out)⟩⟩
              · rw [if_neg c25] at H
                exact absurd H (by simp)
            · rw [if_neg c24] at H
              have c24b0 : decide (1 < (l3.length : Int)) = false := decide_eq_false c24
              have c24b1 : decide (1 < l3.length) = false := decide_eq_false (by omega)
              clear c24
              (first | rw [c24b0] | (simp only [i64_w, i32_w]; rw [c24b0]) | skip)
              have H' := Aside0.mk H
              clear H
              go_wp2
              go_meet
              case rel => exact ⟨_, (false), (by first | rfl | (simp; done) | (simp [*]; done)), H', ⟨by have := HJ10.out; first | omega | exact Nat.le_refl _⟩, ⟨by (with_reducible repeat (first | refine blk_drewN ?_ _ | refine blk_drew ?_ | refine blk_alloc ?_ _)); exact BK488.out⟩, ⟨by (with_reducible repeat (first | refine blk_drewN ?_ _ | refine blk_drew ?_ | refine blk_alloc ?_ _)); exact BK494.out⟩, ⟨by repeat (first | (with_reducible first | exact HB.out | apply below_alloc | apply pw_below_drewN | apply below_drew1 | refine below_set ?_ GE488.out | refine below_set ?_ GE494.out) | exact HB.out)⟩⟩
          case rest =>
            clear HC23
            try clear c1
            try clear c2
            try clear p2
            try clear c3
            try clear p4
            try clear q4
            try clear hx4
            try clear qi4
            try clear c6
            try clear c7
            try clear c9
            try clear c10
            try clear c10b0
            try clear c10b1
            try clear c15
            try clear c18
            try clear c19
            try clear c20
            try clear c21
            try clear c21b0
            try clear c21b1
            try clear c22
            try clear c22b0
            try clear c22b1
            try clear c24
            try clear c24b0
            try clear c24b1
            try clear c25
            try clear c25b0
            try clear c25b1
            try clear hcz14_0
            try clear hcz14_1
            try clear hcz14_2
            try clear hcz16_0
            try clear hcz16_1
            try clear hcz16_2
            try clear hcz20_0
            try clear hcz20_1
            try clear hcz20_2
            try clear hfz14_0
            try clear hfz14_1
            try clear hfz14_2
            try clear hfz16_0
            try clear hfz16_1
            try clear hfz16_2
            try clear hfz20_0
            try clear hfz20_1
            try clear hfz20_2
            try clear hx497_0
            try clear hx498_0
            try clear p2
            try clear p4
            try clear p497
            try clear p498
            try clear q4
            try clear q497
            try clear q498
            obtain ⟨kq, x16_22, rfl, HA, HJ22, BK488, BK494, HB⟩ := hcut
            cases kq with
            | zero => exact absurd HA.out (by simp [medlarlaw23_TraceEnds.j1])
            | succ kj22 =>
              have H := HA.out
              clear HA
              simp only [medlarlaw23_TraceEnds.j1] at H
              have HC26 := Aside0.mk H
              clear H
              go_upto_region 11 with (fail)
              go_cut [86] (fun v86 wc => ∃ (kq : Nat) (x86_25 : Bool), v86 = .bool x86_25 ∧ Aside0 (medlarlaw23_TraceEnds.j2 kq a0 l2 t487 x86_25 t490 t491 t492 = some r) ∧ Aside0 (kq ≤ kj22) ∧ Aside0 (wc.heap[gb488]? = some (.cells #[.bool true, (.slice none 0 0), (.slice A3 l3.length c3)] 42 (0, 0))) ∧ Aside0 (wc.heap[gb494]? = some (.cells #[.bool t490, .int .u64 t491, .int .i64 t492] 48 (0, 0))) ∧ Aside0 (Below w.heap.size w wc))
              case first =>
                have H := HC26.out
                clear HC26
                by_cases c27 : t496 = 0
                · rw [if_pos c27] at H
                  have c27b0 : (t496 == 0) = true := beq_iff_eq.mpr c27
                  have c27b1 : (t496 != 0) = false := bne_eq_false_iff_eq.mpr c27
                  clear c27
                  (first | rw [c27b0] | (simp only [i64_w, i32_w]; rw [c27b0]) | skip)
                  by_cases c28 : t492 < 1
                  · rw [if_pos c28] at H
                    have c28b0 : decide (t492 < 1) = true := decide_eq_true c28
                    clear c28
                    have H' := Aside0.mk H
                    clear H
                    have hnb29 := NB494_488.out
                    have hnc29 := NB488_494.out
                    have hcz30_0 : wc.cell? ⟨gb494, 0, none⟩ = some (.bool t490) := (blk_cell BK494.out 0).trans rfl
                    have hcz30_1 : wc.cell? ⟨gb494, 1, none⟩ = some (.int .u64 t491) := (blk_cell BK494.out 1).trans rfl
                    have hcz30_2 : wc.cell? ⟨gb494, 2, none⟩ = some (.int .i64 t492) := (blk_cell BK494.out 2).trans rfl
                    have hfz30_0 := blk_frozen BK494.out 0
                    have hfz30_1 := blk_frozen BK494.out 1
                    have hfz30_2 := blk_frozen BK494.out 2
                    go_wp2
                    go_meet
                    case rel => exact ⟨_, (true), (by first | rfl | (simp; done) | (simp [*]; done)), H', ⟨by have := HJ10.out; have := HJ22.out; first | omega | exact Nat.le_refl _⟩, ⟨by (with_reducible repeat (first | refine blk_drewN ?_ _ | refine blk_drew ?_ | refine blk_alloc ?_ _)); exact BK488.out⟩, ⟨by (with_reducible repeat (first | refine blk_drewN ?_ _ | refine blk_drew ?_ | refine blk_alloc ?_ _)); exact BK494.out⟩, ⟨by repeat (first | (with_reducible first | exact HB.out | apply below_alloc | apply pw_below_drewN | apply below_drew1 | refine below_set ?_ GE488.out | refine below_set ?_ GE494.out) | exact HB.out)⟩⟩
                  · rw [if_neg c28] at H
                    have c28b0 : decide (t492 < 1) = false := decide_eq_false c28
                    clear c28
                    by_cases c31 : t492 > t495
                    · rw [if_pos c31] at H
                      have c31b0 : decide (t495 < t492) = true := decide_eq_true c31
                      clear c31
                      have H' := Aside0.mk H
                      clear H
                      have hnb32 := NB494_488.out
                      have hnc32 := NB488_494.out
                      have hcz33_0 : wc.cell? ⟨gb494, 0, none⟩ = some (.bool t490) := (blk_cell BK494.out 0).trans rfl
                      have hcz33_1 : wc.cell? ⟨gb494, 1, none⟩ = some (.int .u64 t491) := (blk_cell BK494.out 1).trans rfl
                      have hcz33_2 : wc.cell? ⟨gb494, 2, none⟩ = some (.int .i64 t492) := (blk_cell BK494.out 2).trans rfl
                      have hfz33_0 := blk_frozen BK494.out 0
                      have hfz33_1 := blk_frozen BK494.out 1
                      have hfz33_2 := blk_frozen BK494.out 2
                      go_wp2
                      go_meet
                      case rel => exact ⟨_, (true), (by first | rfl | (simp; done) | (simp [*]; done)), H', ⟨by have := HJ10.out; have := HJ22.out; first | omega | exact Nat.le_refl _⟩, ⟨by (with_reducible repeat (first | refine blk_drewN ?_ _ | refine blk_drew ?_ | refine blk_alloc ?_ _)); exact BK488.out⟩, ⟨by (with_reducible repeat (first | refine blk_drewN ?_ _ | refine blk_drew ?_ | refine blk_alloc ?_ _)); exact BK494.out⟩, ⟨by repeat (first | (with_reducible first | exact HB.out | apply below_alloc | apply pw_below_drewN | apply below_drew1 | refine below_set ?_ GE488.out | refine below_set ?_ GE494.out) | exact HB.out)⟩⟩
                    · rw [if_neg c31] at H
                      have c31b0 : decide (t495 < t492) = false := decide_eq_false c31
                      clear c31
                      by_cases c34 : x15_10 = true
                      · subst c34
                        have H1 : (medlarlaw23_TraceEnds.j2 kj22 a0 l2 t487 (t490 != (!x16_22)) t490 t491 t492) = some r := by rw [if_pos rfl] at H; exact H
                        clear H
                        have H := H1
                        clear H1
                        have H' := Aside0.mk H
                        clear H
                        have hnb35 := NB494_488.out
                        have hnc35 := NB488_494.out
                        have hcz36_0 : wc.cell? ⟨gb494, 0, none⟩ = some (.bool t490) := (blk_cell BK494.out 0).trans rfl
                        have hcz36_1 : wc.cell? ⟨gb494, 1, none⟩ = some (.int .u64 t491) := (blk_cell BK494.out 1).trans rfl
                        have hcz36_2 : wc.cell? ⟨gb494, 2, none⟩ = some (.int .i64 t492) := (blk_cell BK494.out 2).trans rfl
                        have hfz36_0 := blk_frozen BK494.out 0
                        have hfz36_1 := blk_frozen BK494.out 1
                        have hfz36_2 := blk_frozen BK494.out 2
                        go_wp2
                        go_meet
                        case rel => exact ⟨_, ((t490 != (!x16_22))), (by first | rfl | (simp; done) | (simp [*]; done)), H', ⟨by have := HJ10.out; have := HJ22.out; first | omega | exact Nat.le_refl _⟩, ⟨by (with_reducible repeat (first | refine blk_drewN ?_ _ | refine blk_drew ?_ | refine blk_alloc ?_ _)); exact BK488.out⟩, ⟨by (with_reducible repeat (first | refine blk_drewN ?_ _ | refine blk_drew ?_ | refine blk_alloc ?_ _)); exact BK494.out⟩, ⟨by repeat (first | (with_reducible first | exact HB.out | apply below_alloc | apply pw_below_drewN | apply below_drew1 | refine below_set ?_ GE488.out | refine below_set ?_ GE494.out) | exact HB.out)⟩⟩
                      · replace c34 := Bool.eq_false_iff.mpr c34
                        subst c34
                        have H1 : (medlarlaw23_TraceEnds.j2 kj22 a0 l2 t487 (t490 != false) t490 t491 t492) = some r := by rw [if_neg (show ¬ (false = true) by decide)] at H; exact H
                        clear H
                        have H := H1
                        clear H1
                        have H' := Aside0.mk H
                        clear H
                        have hnb37 := NB494_488.out
                        have hnc37 := NB488_494.out
                        have hcz38_0 : wc.cell? ⟨gb494, 0, none⟩ = some (.bool t490) := (blk_cell BK494.out 0).trans rfl
                        have hcz38_1 : wc.cell? ⟨gb494, 1, none⟩ = some (.int .u64 t491) := (blk_cell BK494.out 1).trans rfl
                        have hcz38_2 : wc.cell? ⟨gb494, 2, none⟩ = some (.int .i64 t492) := (blk_cell BK494.out 2).trans rfl
                        have hfz38_0 := blk_frozen BK494.out 0
                        have hfz38_1 := blk_frozen BK494.out 1
                        have hfz38_2 := blk_frozen BK494.out 2
                        go_wp2
                        go_meet
                        case rel => exact ⟨_, ((t490 != false)), (by first | rfl | (simp; done) | (simp [*]; done)), H', ⟨by have := HJ10.out; have := HJ22.out; first | omega | exact Nat.le_refl _⟩, ⟨by (with_reducible repeat (first | refine blk_drewN ?_ _ | refine blk_drew ?_ | refine blk_alloc ?_ _)); exact BK488.out⟩, ⟨by (with_reducible repeat (first | refine blk_drewN ?_ _ | refine blk_drew ?_ | refine blk_alloc ?_ _)); exact BK494.out⟩, ⟨by repeat (first | (with_reducible first | exact HB.out | apply below_alloc | apply pw_below_drewN | apply below_drew1 | refine below_set ?_ GE488.out | refine below_set ?_ GE494.out) | exact HB.out)⟩⟩
                · rw [if_neg c27] at H
                  have c27b0 : (t496 == 0) = false := beq_eq_false_iff_ne.mpr c27
                  have c27b1 : (t496 != 0) = true := bne_iff_ne.mpr c27
                  (first | rw [c27b0] | (simp only [i64_w, i32_w]; rw [c27b0]) | skip)
                  have H' := Aside0.mk H
                  clear H
                  go_wp2
                  go_meet
                  case rel => exact ⟨_, (true), (by first | rfl | (simp; done) | (simp [*]; done)), H', ⟨by have := HJ10.out; have := HJ22.out; first | omega | exact Nat.le_refl _⟩, ⟨by (with_reducible repeat (first | refine blk_drewN ?_ _ | refine blk_drew ?_ | refine blk_alloc ?_ _)); exact BK488.out⟩, ⟨by (with_reducible repeat (first | refine blk_drewN ?_ _ | refine blk_drew ?_ | refine blk_alloc ?_ _)); exact BK494.out⟩, ⟨by repeat (first | (with_reducible first | exact HB.out | apply below_alloc | apply pw_below_drewN | apply below_drew1 | refine below_set ?_ GE488.out | refine below_set ?_ GE494.out) | exact HB.out)⟩⟩
              case rest =>
                clear HC26
                try clear c1
                try clear c2
                try clear p2
                try clear c3
                try clear p4
                try clear q4
                try clear hx4
                try clear qi4
                try clear c6
                try clear c7
                try clear c9
                try clear c10
                try clear c10b0
                try clear c10b1
                try clear c15
                try clear c18
                try clear c19
                try clear c20
                try clear c21
                try clear c21b0
                try clear c21b1
                try clear c22
                try clear c22b0
                try clear c22b1
                try clear c24
                try clear c24b0
                try clear c24b1
                try clear c25
                try clear c25b0
                try clear c25b1
                try clear c27
                try clear c27b0
                try clear c27b1
                try clear c28
                try clear c28b0
                try clear c29
                try clear c31
                try clear c31b0
                try clear c32
                try clear c34
                try clear c35
                try clear c37
                try clear hcz14_0
                try clear hcz14_1
                try clear hcz14_2
                try clear hcz16_0
                try clear hcz16_1
                try clear hcz16_2
                try clear hcz20_0
                try clear hcz20_1
                try clear hcz20_2
                try clear hcz30_0
                try clear hcz30_1
                try clear hcz30_2
                try clear hcz33_0
                try clear hcz33_1
                try clear hcz33_2
                try clear hcz36_0
                try clear hcz36_1
                try clear hcz36_2
                try clear hcz38_0
                try clear hcz38_1
                try clear hcz38_2
                try clear hfz14_0
                try clear hfz14_1
                try clear hfz14_2
                try clear hfz16_0
                try clear hfz16_1
                try clear hfz16_2
                try clear hfz20_0
                try clear hfz20_1
                try clear hfz20_2
                try clear hfz30_0
                try clear hfz30_1
                try clear hfz30_2
                try clear hfz33_0
                try clear hfz33_1
                try clear hfz33_2
                try clear hfz36_0
                try clear hfz36_1
                try clear hfz36_2
                try clear hfz38_0
                try clear hfz38_1
                try clear hfz38_2
                try clear hx497_0
                try clear hx498_0
                try clear p2
                try clear p4
                try clear p497
                try clear p498
                try clear q4
                try clear q497
                try clear q498
                obtain ⟨kq, x86_25, rfl, HA, HJ25, BK488, BK494, HB⟩ := hcut
                cases kq with
                | zero => exact absurd HA.out (by simp [medlarlaw23_TraceEnds.j2])
                | succ kj25 =>
                  have H := HA.out
                  clear HA
                  simp only [medlarlaw23_TraceEnds.j2] at H
                  by_cases c39 : x86_25 = true
                  · subst c39
                    have H1 : (some false) = some r := by rw [if_pos rfl] at H; exact H
                    clear H
                    have H := H1
                    clear H1
                    exact absurd ((Option.some.inj H).trans hT.out) Bool.false_ne_true
                  · replace c39 := Bool.eq_false_iff.mpr c39
                    subst c39
                    have H1 : (if t490 = true then (medlarlaw23_TraceEnds.l0 kj25 a0 t487 false l2 (l2.length : Int) 0 t490 t491 t492) else (if t487 = true then (if t491 = 0 then (some (decide (t492 ≤ 2))) else (some false)) else (some false))) = some r := by rw [if_neg (show ¬ (false = true) by decide)] at H; exact H
                    clear H
                    have H := H1
                    clear H1
                    by_cases c40 : t490 = true
                    · subst c40
                      have H1 : (medlarlaw23_TraceEnds.l0 kj25 a0 t487 false l2 (l2.length : Int) 0 true t491 t492) = some r := by rw [if_pos rfl] at H; exact H
                      clear H
                      have H := H1
                      clear H1
                      have H' := Aside0.mk H
                      clear H
                      have hnb41 := NB494_488.out
                      have hnc41 := NB488_494.out
                      have hcz42_0 : wc.cell? ⟨gb494, 0, none⟩ = some (.bool true) := (blk_cell BK494.out 0).trans rfl
                      have hcz42_1 : wc.cell? ⟨gb494, 1, none⟩ = some (.int .u64 t491) := (blk_cell BK494.out 1).trans rfl
                      have hcz42_2 : wc.cell? ⟨gb494, 2, none⟩ = some (.int .i64 t492) := (blk_cell BK494.out 2).trans rfl
                      have hfz42_0 := blk_frozen BK494.out 0
                      have hfz42_1 := blk_frozen BK494.out 1
                      have hfz42_2 := blk_frozen BK494.out 2
                      go_wp2
                      go_loopg [17, 103] kj25 (fun kq v17 v103 w' => ∃ (x17_4 : Bool) (x103_4 : Int), v17 = .bool x17_4 ∧ v103 = .int .i64 x103_4 ∧ Aside0 (medlarlaw23_TraceEnds.l0 kq a0 t487 x17_4 l2 (l2.length : Int) x103_4 true t491 t492 = some r) ∧ Aside0 (kq ≤ kj25) ∧ Aside0 (w'.heap[gb488]? = some (.cells #[.bool true, (.slice none 0 0), (.slice A3 l3.length c3)] 42 (0, 0))) ∧ Aside0 (w'.heap[gb494]? = some (.cells #[.bool true, .int .u64 t491, .int .i64 t492] 48 (0, 0))) ∧ Aside0 (Below w.heap.size w w'))
                      case atStart => exact ⟨(false), (0), (by first | rfl | (simp; done) | (simp [*]; done)), (by first | rfl | (simp; done) | (simp [*]; done)), H', ⟨Nat.le_refl _⟩, ⟨by (with_reducible repeat (first | refine blk_drewN ?_ _ | refine blk_drew ?_ | refine blk_alloc ?_ _)); exact BK488.out⟩, ⟨by (with_reducible repeat (first | refine blk_drewN ?_ _ | refine blk_drew ?_ | refine blk_alloc ?_ _)); exact BK494.out⟩, ⟨by repeat (first | (with_reducible first | exact HB.out | apply below_alloc | apply pw_below_drewN | apply below_drew1 | refine below_set ?_ GE488.out | refine below_set ?_ GE494.out) | exact HB.out)⟩⟩
                      case round =>
                        clear H'
                        try clear c1
                        try clear c2
                        try clear p2
                        try clear c3
                        try clear c4
                        try clear p4
                        try clear q4
                        try clear hx4
                        try clear qi4
                        try clear c6
                        try clear c7
                        try clear c9
                        try clear c10
                        try clear c10b0
                        try clear c10b1
                        try clear c15
                        try clear c18
                        try clear c19
                        try clear c20
                        try clear c21
                        try clear c21b0
                        try clear c21b1
                        try clear c22
                        try clear c22b0
                        try clear c22b1
                        try clear c24
                        try clear c24b0
                        try clear c24b1
                        try clear c25
                        try clear c25b0
                        try clear c25b1
                        try clear c27
                        try clear c27b0
                        try clear c27b1
                        try clear c28
                        try clear c28b0
                        try clear c29
                        try clear c31
                        try clear c31b0
                        try clear c32
                        try clear c34
                        try clear c35
                        try clear c37
                        try clear c39
                        try clear c40
                        try clear c41
                        try clear hcz14_0
                        try clear hcz14_1
                        try clear hcz14_2
                        try clear hcz16_0
                        try clear hcz16_1
                        try clear hcz16_2
                        try clear hcz20_0
                        try clear hcz20_1
                        try clear hcz20_2
                        try clear hcz30_0
                        try clear hcz30_1
                        try clear hcz30_2
                        try clear hcz33_0
                        try clear hcz33_1
                        try clear hcz33_2
                        try clear hcz36_0
                        try clear hcz36_1
                        try clear hcz36_2
                        try clear hcz38_0
                        try clear hcz38_1
                        try clear hcz38_2
                        try clear hcz42_0
                        try clear hcz42_1
                        try clear hcz42_2
                        try clear hfz14_0
                        try clear hfz14_1
                        try clear hfz14_2
                        try clear hfz16_0
                        try clear hfz16_1
                        try clear hfz16_2
                        try clear hfz20_0
                        try clear hfz20_1
                        try clear hfz20_2
                        try clear hfz30_0
                        try clear hfz30_1
                        try clear hfz30_2
                        try clear hfz33_0
                        try clear hfz33_1
                        try clear hfz33_2
                        try clear hfz36_0
                        try clear hfz36_1
                        try clear hfz36_2
                        try clear hfz38_0
                        try clear hfz38_1
                        try clear hfz38_2
                        try clear hfz42_0
                        try clear hfz42_1
                        try clear hfz42_2
                        try clear hx497_0
                        try clear hx498_0
                        try clear p2
                        try clear p4
                        try clear p497
                        try clear p498
                        try clear q4
                        try clear q497
                        try clear q498
                        obtain ⟨x17_4, x103_4, rfl, rfl, HA, HK4, BK488, BK494, HB⟩ := hrel
                        cases gk with
                        | zero => exact absurd HA.out (by simp [medlarlaw23_TraceEnds.l0])
                        | succ k4 =>
                          have H := HA.out
                          clear HA
                          simp only [medlarlaw23_TraceEnds.l0] at H
                          by_cases c43 : x103_4 < (l2.length : Int)
                          · rw [if_pos c43] at H
                            have c43b0 : decide (x103_4 < (l2.length : Int)) = true := decide_eq_true c43
                            clear c43
                            by_cases c44 : 0 ≤ x103_4
                            · rw [if_pos c44] at H
                              have c44b0 : decide (0 ≤ x103_4) = true := decide_eq_true c44
                              clear c44
                              by_cases c45 : x103_4 < (l2.length : Int)
                              · rw [if_pos c45] at H
                                have c45b0 : decide (x103_4 < (l2.length : Int)) = true := decide_eq_true c45
                                clear c45
                                replace H := Option.bind_eq_some_iff.mp H
                                obtain ⟨⟨t501, t502⟩, A460, H⟩ := H
                                replace H : (if t502 = 0 then (if x17_4 = true then (medlarlaw23_TraceEnds.l0 k4 a0 t487 true l2 (l2.length : Int) (wrap64 (x103_4 + 1)) true t491 t492) else (medlarlaw23_TraceEnds.l0 k4 a0 t487 t501 l2 (l2.length : Int) (wrap64 (x103_4 + 1)) true t491 t492)) else (some false)) = some r := H
                                have A46 := Aside0.mk A460
                                clear A460
                                by_cases c47 : t502 = 0
                                · rw [if_pos c47] at H
                                  have c47b0 : (t502 == 0) = true := beq_iff_eq.mpr c47
                                  have c47b1 : (t502 != 0) = false := bne_eq_false_iff_eq.mpr c47
                                  clear c47
                                  by_cases c48 : x17_4 = true
                                  · subst c48
                                    have H1 : (medlarlaw23_TraceEnds.l0 k4 a0 t487 true l2 (l2.length : Int) (wrap64 (x103_4 + 1)) true t491 t492) = some r := by rw [if_pos rfl] at H; exact H
                                    clear H
                                    have H := H1
                                    clear H1
                                    have H' := Aside0.mk H
                                    clear H
                                    have p499 : 0 ≤ (x103_4 : Int) := of_decide_eq_true (by first | (with_reducible assumption) | assumption)
                                    have q499 : x103_4 < (l2.length : Int) := of_decide_eq_true (by first | (with_reducible assumption) | assumption)
                                    obtain ⟨ad499, e499, hx499_0, hx499_1⟩ := at_T24 HR2.out x103_4 p499 q499
                                    cases e499
                                    replace hx499_0 := (HB.out.cell (World.block_lt_of_cell? w _ hx499_0)).trans hx499_0
                                    replace hx499_1 := (HB.out.cell (World.block_lt_of_cell? w _ hx499_1)).trans hx499_1
                                    replace p499 := eq_true p499
                                    replace q499 := eq_true q499
                                    go_wp2_with (first | ((with_reducible refine gate_dst (N := 19) rfl ?_); refine box_event ?hg (N := 19) ?hd (cs := #[.int .u64 0, .int .u64 0]) (t := 24) ?hr ?_; (case hd => rfl); (case hg => rfl); (case hr => first | (go_simp; done) | (go_simp; rfl)); intro gb500 hg w49 hbox hb; have n0_ := Aside0.mk (blk_below (g := gb488) (o := .cells #[.bool true, .slice none 0 0, .slice A3 l3.length c3] 42 (0, 0)) (by (with_reducible repeat (first | refine blk_drewN ?_ _ | refine blk_drew ?_ | refine blk_alloc ?_ _)); exact BK488.out) hb); have n1_ := Aside0.mk (blk_below (g := gb494) (o := .cells #[.bool true, .int .u64 t491, .int .i64 t492] 48 (0, 0)) (by (with_reducible repeat (first | refine blk_drewN ?_ _ | refine blk_drew ?_ | refine blk_alloc ?_ _)); exact BK494.out) hb); have n2_ := Aside0.mk (below_step (by repeat (first | (with_reducible first | exact HB.out | apply below_alloc | apply pw_below_drewN | apply below_drew1 | refine below_set ?_ GE488.out | refine below_set ?_ GE494.out) | exact HB.out)) hb); have n3_ := Aside0.mk (hbox); have n4_ := Aside0.mk ((by rw [hg]; exact (below_size (by repeat (first | (with_reducible first | exact HB.out | apply below_alloc | apply pw_below_drewN | apply below_drew1 | refine below_set ?_ GE488.out | refine below_set ?_ GE494.out) | exact HB.out))) : w.heap.size ≤ gb500)); have n5_ := Aside0.mk ((by rw [hg]; exact (below_size (by repeat (first | (with_reducible first | exact HB.out | apply below_alloc | apply pw_below_drewN | apply below_drew1 | refine below_set ?_ GE488.out | refine below_set ?_ GE494.out) | exact HB.out))) : w.heap.size ≤ gb500)); have n6_ := Aside0.mk ((by rw [hg]; exact Nat.ne_of_lt (blk_lt (g := gb488) (o := .cells #[.bool true, .slice none 0 0, .slice A3 l3.length c3] 42 (0, 0)) (by (with_reducible repeat (first | refine blk_drewN ?_ _ | refine blk_drew ?_ | refine blk_alloc ?_ _)); exact BK488.out)) : gb488 ≠ gb500)); have n7_ := Aside0.mk ((by rw [hg]; exact Nat.ne_of_gt (blk_lt (g := gb488) (o := .cells #[.bool true, .slice none 0 0, .slice A3 l3.length c3] 42 (0, 0)) (by (with_reducible repeat (first | refine blk_drewN ?_ _ | refine blk_drew ?_ | refine blk_alloc ?_ _)); exact BK488.out)) : gb500 ≠ gb488)); have n8_ := Aside0.mk ((by rw [hg]; exact Nat.ne_of_lt (blk_lt (g := gb494) (o := .cells #[.bool true, .int .u64 t491, .int .i64 t492] 48 (0, 0)) (by (with_reducible repeat (first | refine blk_drewN ?_ _ | refine blk_drew ?_ | refine blk_alloc ?_ _)); exact BK494.out)) : gb494 ≠ gb500)); have n9_ := Aside0.mk ((by rw [hg]; exact Nat.ne_of_gt (blk_lt (g := gb494) (o := .cells #[.bool true, .int .u64 t491, .int .i64 t492] 48 (0, 0)) (by (with_reducible repeat (first | refine blk_drewN ?_ _ | refine blk_drew ?_ | refine blk_alloc ?_ _)); exact BK494.out)) : gb500 ≠ gb494)); clear BK488; clear BK494; clear HB; have BK488 := n0_; have BK494 := n1_; have HB := n2_; have BK500 := n3_; have GW500 := n4_; have GE500 := n5_; have NB488_500 := n6_; have NB500_488 := n7_; have NB494_500 := n8_; have NB500_494 := n9_; clear n0_ n1_ n2_ n3_ n4_ n5_ n6_ n7_ n8_ n9_; clear hb hbox hg; have hnb50 := NB500_488.out; have hnc50 := NB488_500.out; have hnb51 := NB500_494.out; have hnc51 := NB494_500.out; have hcz52_0 : w49.cell? ⟨gb500, 0, none⟩ = some (.int .u64 0) := (blk_cell BK500.out 0).trans rfl; have hcz52_1 : w49.cell? ⟨gb500, 1, none⟩ = some (.int .u64 0) := (blk_cell BK500.out 1).trans rfl; have hfz52_0 := blk_frozen BK500.out 0; have hfz52_1 := blk_frozen BK500.out 1; have hnb53 := NB494_488.out; have hnc53 := NB488_494.out; have hcz54_0 : w49.cell? ⟨gb494, 0, none⟩ = some (.bool true) := (blk_cell BK494.out 0).trans rfl; have hcz54_1 : w49.cell? ⟨gb494, 1, none⟩ = some (.int .u64 t491) := (blk_cell BK494.out 1).trans rfl; have hcz54_2 : w49.cell? ⟨gb494, 2, none⟩ = some (.int .i64 t492) := (blk_cell BK494.out 2).trans rfl; have hfz54_0 := blk_frozen BK494.out 0; have hfz54_1 := blk_frozen BK494.out 1; have hfz54_2 := blk_frozen BK494.out 2) | ((with_reducible refine gate_callee (f := 13) rfl ?_); refine goesL_ (some 112) rfl rfl Try.func13 (by kernel_rfl) rfl #[.int .i64 a0, .agg #[.int .u64 ((rd_T24 l2 x103_4).f0), .int .u64 ((rd_T24 l2 x103_4).f1)], .int .u64 t491] rfl (by (try simp only [List.map_toArray, List.map_cons, List.map_nil]); first | done | rfl | (simp only [List.length_drop, List.length_take]; rfl)) ?_; (with_reducible refine (sub_Has.calls k4 a0 ((rd_T24 l2 x103_4).f0) ((rd_T24 l2 x103_4).f1) t491 t501 t502 _ A46.out).mono ?_); rintro e w55 ⟨rfl, hb⟩; refine ⟨_, rfl, ?_⟩; have n0_ := Aside0.mk (blk_below (g := gb488) (o := .cells #[.bool true, .slice none 0 0, .slice A3 l3.length c3] 42 (0, 0)) (by (with_reducible repeat (first | refine blk_drewN ?_ _ | refine blk_drew ?_ | refine blk_alloc ?_ _)); refine blk_far ?_ NB488_500.out _; (with_reducible repeat (first | refine blk_drewN ?_ _ | refine blk_drew ?_ | refine blk_alloc ?_ _)); refine blk_far ?_ NB488_500.out _; (with_reducible repeat (first | refine blk_drewN ?_ _ | refine blk_drew ?_ | refine blk_alloc ?_ _)); exact BK488.out) hb); have n1_ := Aside0.mk (blk_below (g := gb494) (o := .cells #[.bool true, .int .u64 t491, .int .i64 t492] 48 (0, 0)) (by (with_reducible repeat (first | refine blk_drewN ?_ _ | refine blk_drew ?_ | refine blk_alloc ?_ _)); refine blk_far ?_ NB494_500.out _; (with_reducible repeat (first | refine blk_drewN ?_ _ | refine blk_drew ?_ | refine blk_alloc ?_ _)); refine blk_far ?_ NB494_500.out _; (with_reducible repeat (first | refine blk_drewN ?_ _ | refine blk_drew ?_ | refine blk_alloc ?_ _)); exact BK494.out) hb); have n2_ := Aside0.mk (blk_below (g := gb500) (o := .cells #[.int .u64 ((rd_T24 l2 x103_4).f0), .int .u64 ((rd_T24 l2 x103_4).f1)] 24 (0, 0)) (by (with_reducible repeat (first | refine blk_drewN ?_ _ | refine blk_drew ?_ | refine blk_alloc ?_ _)); refine blk_put (cs := #[.int .u64 ((rd_T24 l2 x103_4).f0), .int .u64 0]) ?_ 1 _ rfl; (with_reducible repeat (first | refine blk_drewN ?_ _ | refine blk_drew ?_ | refine blk_alloc ?_ _)); refine blk_put (cs := #[.int .u64 0, .int .u64 0]) ?_ 0 _ rfl; (with_reducible repeat (first | refine blk_drewN ?_ _ | refine blk_drew ?_ | refine blk_alloc ?_ _)); exact BK500.out) hb); have n3_ := Aside0.mk (below_step (by repeat (first | (with_reducible first | exact HB.out | apply below_alloc | apply pw_below_drewN | apply below_drew1 | refine below_set ?_ GE488.out | refine below_set ?_ GE494.out | refine below_set ?_ GE500.out) | exact HB.out)) hb); clear BK488; clear BK494; clear BK500; clear HB; have BK488 := n0_; have BK494 := n1_; have BK500 := n2_; have HB := n3_; clear n0_ n1_ n2_ n3_; (try clear hb); (try clear hb2); (try clear hk); (try clear hi)))
                                    go_roundg k4
                                    case measure => have := HJ10.out; have := HJ22.out; have := HJ25.out; have := HK4.out; omega
                                    case rel => exact ⟨(true), (wrap64 (x103_4 + 1)), (by first | rfl | (simp; done) | (simp [*]; done)), (by first | rfl | (simp; done) | (simp [*]; done)), H', ⟨by have := HJ10.out; have := HJ22.out; have := HJ25.out; have := HK4.out; omega⟩, ⟨by (with_reducible repeat (first | refine blk_drewN ?_ _ | refine blk_drew ?_ | refine blk_alloc ?_ _)); exact BK488.out⟩, ⟨by (with_reducible repeat (first | refine blk_drewN ?_ _ | refine blk_drew ?_ | refine blk_alloc ?_ _)); exact BK494.out⟩, ⟨by repeat (first | (with_reducible first | exact HB.out | apply below_alloc | apply pw_below_drewN | apply below_drew1 | refine below_set ?_ GE488.out | refine below_set ?_ GE494.out | refine below_set ?_ GE500.out) | exact HB.out)⟩⟩
                                  · replace c48 := Bool.eq_false_iff.mpr c48
                                    subst c48
                                    have H1 : (medlarlaw23_TraceEnds.l0 k4 a0 t487 t501 l2 (l2.length : Int) (wrap64 (x103_4 + 1)) true t491 t492) = some r := by rw [if_neg (show ¬ (false = true) by decide)] at H; exact H
                                    clear H
                                    have H := H1
                                    clear H1
                                    have H' := Aside0.mk H
                                    clear H
                                    have p499 : 0 ≤ (x103_4 : Int) := of_decide_eq_true (by first | (with_reducible assumption) | assumption)
                                    have q499 : x103_4 < (l2.length : Int) := of_decide_eq_true (by first | (with_reducible assumption) | assumption)
                                    obtain ⟨ad499, e499, hx499_0, hx499_1⟩ := at_T24 HR2.out x103_4 p499 q499
                                    cases e499
                                    replace hx499_0 := (HB.out.cell (World.block_lt_of_cell? w _ hx499_0)).trans hx499_0
                                    replace hx499_1 := (HB.out.cell (World.block_lt_of_cell? w _ hx499_1)).trans hx499_1
                                    replace p499 := eq_true p499
                                    replace q499 := eq_true q499
                                    go_wp2_with (first | ((with_reducible refine gate_dst (N := 19) rfl ?_); refine box_event ?hg (N := 19) ?hd (cs := #[.int .u64 0, .int .u64 0]) (t := 24) ?hr ?_; (case hd => rfl); (case hg => rfl); (case hr => first | (go_simp; done) | (go_simp; rfl)); intro gb500 hg w56 hbox hb; have n0_ := Aside0.mk (blk_below (g := gb488) (o := .cells #[.bool true, .slice none 0 0, .slice A3 l3.length c3] 42 (0, 0)) (by (with_reducible repeat (first | refine blk_drewN ?_ _ | refine blk_drew ?_ | refine blk_alloc ?_ _)); exact BK488.out) hb); have n1_ := Aside0.mk (blk_below (g := gb494) (o := .cells #[.bool true, .int .u64 t491, .int .i64 t492] 48 (0, 0)) (by (with_reducible repeat (first | refine blk_drewN ?_ _ | refine blk_drew ?_ | refine blk_alloc ?_ _)); exact BK494.out) hb); have n2_ := Aside0.mk (below_step (by repeat (first | (with_reducible first | exact HB.out | apply below_alloc | apply pw_below_drewN | apply below_drew1 | refine below_set ?_ GE488.out | refine below_set ?_ GE494.out) | exact HB.out)) hb); have n3_ := Aside0.mk (hbox); have n4_ := Aside0.mk ((by rw [hg]; exact (below_size (by repeat (first | (with_reducible first | exact HB.out | apply below_alloc | apply pw_below_drewN | apply below_drew1 | refine below_set ?_ GE488.out | refine below_set ?_ GE494.out) | exact HB.out))) : w.heap.size ≤ gb500)); have n5_ := Aside0.mk ((by rw [hg]; exact (below_size (by repeat (first | (with_reducible first | exact HB.out | apply below_alloc | apply pw_below_drewN | apply below_drew1 | refine below_set ?_ GE488.out | refine below_set ?_ GE494.out) | exact HB.out))) : w.heap.size ≤ gb500)); have n6_ := Aside0.mk ((by rw [hg]; exact Nat.ne_of_lt (blk_lt (g := gb488) (o := .cells #[.bool true, .slice none 0 0, .slice A3 l3.length c3] 42 (0, 0)) (by (with_reducible repeat (first | refine blk_drewN ?_ _ | refine blk_drew ?_ | refine blk_alloc ?_ _)); exact BK488.out)) : gb488 ≠ gb500)); have n7_ := Aside0.mk ((by rw [hg]; exact Nat.ne_of_gt (blk_lt (g := gb488) (o := .cells #[.bool true, .slice none 0 0, .slice A3 l3.length c3] 42 (0, 0)) (by (with_reducible repeat (first | refine blk_drewN ?_ _ | refine blk_drew ?_ | refine blk_alloc ?_ _)); exact BK488.out)) : gb500 ≠ gb488)); have n8_ := Aside0.mk ((by rw [hg]; exact Nat.ne_of_lt (blk_lt (g := gb494) (o := .cells #[.bool true, .int .u64 t491, .int .i64 t492] 48 (0, 0)) (by (with_reducible repeat (first | refine blk_drewN ?_ _ | refine blk_drew ?_ | refine blk_alloc ?_ _)); exact BK494.out)) : gb494 ≠ gb500)); have n9_ := Aside0.mk ((by rw [hg]; exact Nat.ne_of_gt (blk_lt (g := gb494) (o := .cells #[.bool true, .int .u64 t491, .int .i64 t492] 48 (0, 0)) (by (with_reducible repeat (first | refine blk_drewN ?_ _ | refine blk_drew ?_ | refine blk_alloc ?_ _)); exact BK494.out)) : gb500 ≠ gb494)); clear BK488; clear BK494; clear HB; have BK488 := n0_; have BK494 := n1_; have HB := n2_; have BK500 := n3_; have GW500 := n4_; have GE500 := n5_; have NB488_500 := n6_; have NB500_488 := n7_; have NB494_500 := n8_; have NB500_494 := n9_; clear n0_ n1_ n2_ n3_ n4_ n5_ n6_ n7_ n8_ n9_; clear hb hbox hg; have hnb57 := NB500_488.out; have hnc57 := NB488_500.out; have hnb58 := NB500_494.out; have hnc58 := NB494_500.out; have hcz59_0 : w56.cell? ⟨gb500, 0, none⟩ = some (.int .u64 0) := (blk_cell BK500.out 0).trans rfl; have hcz59_1 : w56.cell? ⟨gb500, 1, none⟩ = some (.int .u64 0) := (blk_cell BK500.out 1).trans rfl; have hfz59_0 := blk_frozen BK500.out 0; have hfz59_1 := blk_frozen BK500.out 1; have hnb60 := NB494_488.out; have hnc60 := NB488_494.out; have hcz61_0 : w56.cell? ⟨gb494, 0, none⟩ = some (.bool true) := (blk_cell BK494.out 0).trans rfl; have hcz61_1 : w56.cell? ⟨gb494, 1, none⟩ = some (.int .u64 t491) := (blk_cell BK494.out 1).trans rfl; have hcz61_2 : w56.cell? ⟨gb494, 2, none⟩ = some (.int .i64 t492) := (blk_cell BK494.out 2).trans rfl; have hfz61_0 := blk_frozen BK494.out 0; have hfz61_1 := blk_frozen BK494.out 1; have hfz61_2 := blk_frozen BK494.out 2) | ((with_reducible refine gate_callee (f := 13) rfl ?_); refine goesL_ (some 112) rfl rfl Try.func13 (by kernel_rfl) rfl #[.int .i64 a0, .agg #[.int .u64 ((rd_T24 l2 x103_4).f0), .int .u64 ((rd_T24 l2 x103_4).f1)], .int .u64 t491] rfl (by (try simp only [List.map_toArray, List.map_cons, List.map_nil]); first | done | rfl | (simp only [List.length_drop, List.length_take]; rfl)) ?_; (with_reducible refine (sub_Has.calls k4 a0 ((rd_T24 l2 x103_4).f0) ((rd_T24 l2 x103_4).f1) t491 t501 t502 _ A46.out).mono ?_); rintro e w62 ⟨rfl, hb⟩; refine ⟨_, rfl, ?_⟩; have n0_ := Aside0.mk (blk_below (g := gb488) (o := .cells #[.bool true, .slice none 0 0, .slice A3 l3.length c3] 42 (0, 0)) (by (with_reducible repeat (first | refine blk_drewN ?_ _ | refine blk_drew ?_ | refine blk_alloc ?_ _)); refine blk_far ?_ NB488_500.out _; (with_reducible repeat (first | refine blk_drewN ?_ _ | refine blk_drew ?_ | refine blk_alloc ?_ _)); refine blk_far ?_ NB488_500.out _; (with_reducible repeat (first | refine blk_drewN ?_ _ | refine blk_drew ?_ | refine blk_alloc ?_ _)); exact BK488.out) hb); have n1_ := Aside0.mk (blk_below (g := gb494) (o := .cells #[.bool true, .int .u64 t491, .int .i64 t492] 48 (0, 0)) (by (with_reducible repeat (first | refine blk_drewN ?_ _ | refine blk_drew ?_ | refine blk_alloc ?_ _)); refine blk_far ?_ NB494_500.out _; (with_reducible repeat (first | refine blk_drewN ?_ _ | refine blk_drew ?_ | refine blk_alloc ?_ _)); refine blk_far ?_ NB494_500.out _; (with_reducible repeat (first | refine blk_drewN ?_ _ | refine blk_drew ?_ | refine blk_alloc ?_ _)); exact BK494.out) hb); have n2_ := Aside0.mk (blk_below (g := gb500) (o := .cells #[.int .u64 ((rd_T24 l2 x103_4).f0), .int .u64 ((rd_T24 l2 x103_4).f1)] 24 (0, 0)) (by (with_reducible repeat (first | refine blk_drewN ?_ _ | refine blk_drew ?_ | refine blk_alloc ?_ _)); refine blk_put (cs := #[.int .u64 ((rd_T24 l2 x103_4).f0), .int .u64 0]) ?_ 1 _ rfl; (with_reducible repeat (first | refine blk_drewN ?_ _ | refine blk_drew ?_ | refine blk_alloc ?_ _)); refine blk_put (cs := #[.int .u64 0, .int .u64 0]) ?_ 0 _ rfl; (with_reducible repeat (first | refine blk_drewN ?_ _ | refine blk_drew ?_ | refine blk_alloc ?_ _)); exact BK500.out) hb); have n3_ := Aside0.mk (below_step (by repeat (first | (with_reducible first | exact HB.out | apply below_alloc | apply pw_below_drewN | apply below_drew1 | refine below_set ?_ GE488.out | refine below_set ?_ GE494.out | refine below_set ?_ GE500.out) | exact HB.out)) hb); clear BK488; clear BK494; clear BK500; clear HB; have BK488 := n0_; have BK494 := n1_; have BK500 := n2_; have HB := n3_; clear n0_ n1_ n2_ n3_; (try clear hb); (try clear hb2); (try clear hk); (try clear hi)))
                                    go_roundg k4
                                    case measure => have := HJ10.out; have := HJ22.out; have := HJ25.out; have := HK4.out; omega
                                    case rel => exact ⟨(t501), (wrap64 (x103_4 + 1)), (by first | rfl | (simp; done) | (simp [*]; done)), (by first | rfl | (simp; done) | (simp [*]; done)), H', ⟨by have := HJ10.out; have := HJ22.out; have := HJ25.out; have := HK4.out; omega⟩, ⟨by (with_reducible repeat (first | refine blk_drewN ?_ _ | refine blk_drew ?_ | refine blk_alloc ?_ _)); exact BK488.out⟩, ⟨by (with_reducible repeat (first | refine blk_drewN ?_ _ | refine blk_drew ?_ | refine blk_alloc ?_ _)); exact BK494.out⟩, ⟨by repeat (first | (with_reducible first | exact HB.out | apply below_alloc | apply pw_below_drewN | apply below_drew1 | refine below_set ?_ GE488.out | refine below_set ?_ GE494.out | refine below_set ?_ GE500.out) | exact HB.out)⟩⟩
                                · rw [if_neg c47] at H
                                  have c47b0 : (t502 == 0) = false := beq_eq_false_iff_ne.mpr c47
                                  have c47b1 : (t502 != 0) = true := bne_iff_ne.mpr c47
                                  exact absurd ((Option.some.inj H).trans hT.out) Bool.false_ne_true
                              · rw [if_neg c45] at H
                                exact absurd H (by simp)
                            · rw [if_neg c44] at H
                              exact absurd H (by simp)
                          · rw [if_neg c43] at H
                            have c43b0 : decide (x103_4 < (l2.length : Int)) = false := decide_eq_false c43
                            clear c43
                            by_cases c63 : t487 = true
                            · subst c63
                              have H1 : (some x17_4) = some r := by rw [if_pos rfl] at H; exact H
                              clear H
                              have H := H1
                              clear H1
                              obtain rfl := Option.some.inj H
                              go_wp2
                              go_ret
                              exact ⟨by first | rfl | (simp [errW_none, errW_some] <;> rfl) | (simp [*, errW_none, errW_some] <;> rfl), by repeat (first | (with_reducible first | exact HB.out | apply below_alloc | apply pw_below_drewN | apply below_drew1 | refine below_set ?_ GE488.out | refine below_set ?_ GE494.out) | exact HB.out)⟩
                            · replace c63 := Bool.eq_false_iff.mpr c63
                              subst c63
                              have H1 : (some false) = some r := by rw [if_neg (show ¬ (false = true) by decide)] at H; exact H
                              clear H
                              have H := H1
                              clear H1
                              exact absurd ((Option.some.inj H).trans hT.out) Bool.false_ne_true
                    · replace c40 := Bool.eq_false_iff.mpr c40
                      subst c40
                      have H1 : (if t487 = true then (if t491 = 0 then (some (decide (t492 ≤ 2))) else (some false)) else (some false)) = some r := by rw [if_neg (show ¬ (false = true) by decide)] at H; exact H
                      clear H
                      have H := H1
                      clear H1
                      by_cases c64 : t487 = true
                      · subst c64
                        have H1 : (if t491 = 0 then (some (decide (t492 ≤ 2))) else (some false)) = some r := by rw [if_pos rfl] at H; exact H
                        clear H
                        have H := H1
                        clear H1
                        by_cases c65 : t491 = 0
                        · rw [if_pos c65] at H
                          have c65b0 : (t491 == 0) = true := beq_iff_eq.mpr c65
                          have c65b1 : (t491 != 0) = false := bne_eq_false_iff_eq.mpr c65
                          clear c65
                          obtain rfl := Option.some.inj H
                          have hnb66 := NB494_488.out
                          have hnc66 := NB488_494.out
                          have hcz67_0 : wc.cell? ⟨gb494, 0, none⟩ = some (.bool false) := (blk_cell BK494.out 0).trans rfl
                          have hcz67_1 : wc.cell? ⟨gb494, 1, none⟩ = some (.int .u64 t491) := (blk_cell BK494.out 1).trans rfl
                          have hcz67_2 : wc.cell? ⟨gb494, 2, none⟩ = some (.int .i64 t492) := (blk_cell BK494.out 2).trans rfl
                          have hfz67_0 := blk_frozen BK494.out 0
                          have hfz67_1 := blk_frozen BK494.out 1
                          have hfz67_2 := blk_frozen BK494.out 2
                          go_wp2
                          go_ret
                          exact ⟨by first | rfl | (simp [errW_none, errW_some] <;> rfl) | (simp [*, errW_none, errW_some] <;> rfl), by repeat (first | (with_reducible first | exact HB.out | apply below_alloc | apply pw_below_drewN | apply below_drew1 | refine below_set ?_ GE488.out | refine below_set ?_ GE494.out) | exact HB.out)⟩
                        · rw [if_neg c65] at H
                          have c65b0 : (t491 == 0) = false := beq_eq_false_iff_ne.mpr c65
                          have c65b1 : (t491 != 0) = true := bne_iff_ne.mpr c65
                          exact absurd ((Option.some.inj H).trans hT.out) Bool.false_ne_true
                      · replace c64 := Bool.eq_false_iff.mpr c64
                        subst c64
                        have H1 : (some false) = some r := by rw [if_neg (show ¬ (false = true) by decide)] at H; exact H
                        clear H
                        have H := H1
                        clear H1
                        exact absurd ((Option.some.inj H).trans hT.out) Bool.false_ne_true
    · rw [if_neg c10] at H
      have c10b0 : (t493 == 0) = false := beq_eq_false_iff_ne.mpr c10
      have c10b1 : (t493 != 0) = true := bne_iff_ne.mpr c10
      obtain rfl := Option.some.inj H
      go_enter Try.func6, Try.ntmps6
      go_wp2_with (first | ((with_reducible refine gate_callee (f := 9) rfl ?_); refine goesL_ (some 22) rfl rfl Try.func9 (by kernel_rfl) rfl #[] rfl (by (try simp only [List.map_toArray, List.map_cons, List.map_nil]); first | done | rfl | (simp only [List.length_drop, List.length_take]; rfl)) ?_; (with_reducible refine (medlarlaw23_live.calls k  t487 _ A5.out).mono ?_); rintro e w68 ⟨rfl, hb⟩; refine ⟨_, rfl, ?_⟩; have n0_ := Aside0.mk (below_step (by repeat (first | (with_reducible first | exact HB.out | apply below_alloc | apply pw_below_drewN | apply below_drew1) | exact HB.out)) hb); clear HB; have HB := n0_; clear n0_; (try clear hb); (try clear hb2); (try clear hk); (try clear hi)) | ((with_reducible refine gate_dst (N := 10) rfl ?_); refine box_event ?hg (N := 10) ?hd (cs := #[.bool false, .slice none 0 0, .slice none 0 0]) (t := 42) ?hr ?_; (case hd => rfl); (case hg => rfl); (case hr => first | (go_simp; done) | (go_simp; rfl)); intro gb488 hg w69 hbox hb; have n0_ := Aside0.mk (below_step (by repeat (first | (with_reducible first | exact HB.out | apply below_alloc | apply pw_below_drewN | apply below_drew1) | exact HB.out)) hb); have n1_ := Aside0.mk (hbox); have n2_ := Aside0.mk ((by rw [hg]; exact (below_size (by repeat (first | (with_reducible first | exact HB.out | apply below_alloc | apply pw_below_drewN | apply below_drew1) | exact HB.out))) : w.heap.size ≤ gb488)); have n3_ := Aside0.mk ((by rw [hg]; exact (below_size (by repeat (first | (with_reducible first | exact HB.out | apply below_alloc | apply pw_below_drewN | apply below_drew1) | exact HB.out))) : w.heap.size ≤ gb488)); clear HB; have HB := n0_; have BK488 := n1_; have GW488 := n2_; have GE488 := n3_; clear n0_ n1_ n2_ n3_; clear hb hbox hg; have hcz70_0 : w69.cell? ⟨gb488, 0, none⟩ = some (.bool false) := (blk_cell BK488.out 0).trans rfl; have hcz70_1 : w69.cell? ⟨gb488, 1, none⟩ = some (.slice none 0 0) := (blk_cell BK488.out 1).trans rfl; have hcz70_2 : w69.cell? ⟨gb488, 2, none⟩ = some (.slice none 0 0) := (blk_cell BK488.out 2).trans rfl; have hfz70_0 := blk_frozen BK488.out 0; have hfz70_1 := blk_frozen BK488.out 1; have hfz70_2 := blk_frozen BK488.out 2) | ((with_reducible refine gate_callee (f := 15) rfl ?_); refine goesL_ (some 27) rfl rfl Try.func15 (by kernel_rfl) rfl #[.agg #[.bool true, .slice none 0 0, .slice A3 l3.length c3], .slice A2 l2.length c2] rfl (by (try simp only [List.map_toArray, List.map_cons, List.map_nil]); first | done | rfl | (simp only [List.length_drop, List.length_take]; rfl)) ?_; (refine (medlarlaw23_few.calls true _ _ ([] : List Int) _ _ l3 _ _ l2 true _ ?side1 ?side2 ?side3 ?side4 ?side5 ?side6 A6.out).mono ?_); (case side1 => exact Kd.C_nil _ _); (case side2 => exact Nat.le_refl _); (case side3 => exact Kd.C_below HR3.out (by repeat (first | (with_reducible first | exact HB.out | apply below_alloc | apply pw_below_drewN | apply below_drew1 | refine below_set ?_ GE488.out) | exact HB.out))); (case side4 => exact HC3.out); (case side5 => exact Kd.C_below HR2.out (by repeat (first | (with_reducible first | exact HB.out | apply below_alloc | apply pw_below_drewN | apply below_drew1 | refine below_set ?_ GE488.out) | exact HB.out))); (case side6 => exact HC2.out); rintro e w71 ⟨rfl, hb⟩; refine ⟨_, rfl, ?_⟩; have n0_ := Aside0.mk (blk_below (g := gb488) (o := .cells #[.bool true, .slice none 0 0, .slice A3 l3.length c3] 42 (0, 0)) (by (with_reducible repeat (first | refine blk_drewN ?_ _ | refine blk_drew ?_ | refine blk_alloc ?_ _)); refine blk_put (cs := #[.bool true, .slice none 0 0, .slice none 0 0]) ?_ 2 _ rfl; (with_reducible repeat (first | refine blk_drewN ?_ _ | refine blk_drew ?_ | refine blk_alloc ?_ _)); refine blk_put (cs := #[.bool true, .slice none 0 0, .slice none 0 0]) ?_ 1 _ rfl; (with_reducible repeat (first | refine blk_drewN ?_ _ | refine blk_drew ?_ | refine blk_alloc ?_ _)); refine blk_put (cs := #[.bool false, .slice none 0 0, .slice none 0 0]) ?_ 0 _ rfl; (with_reducible repeat (first | refine blk_drewN ?_ _ | refine blk_drew ?_ | refine blk_alloc ?_ _)); exact BK488.out) hb); have n1_ := Aside0.mk (below_step (by repeat (first | (with_reducible first | exact HB.out | apply below_alloc | apply pw_below_drewN | apply below_drew1 | refine below_set ?_ GE488.out) | exact HB.out)) hb); clear BK488; clear HB; have BK488 := n0_; have HB := n1_; clear n0_ n1_; (try clear hb); (try clear hb2); (try clear hk); (try clear hi); have hcz72_0 : w71.cell? ⟨gb488, 0, none⟩ = some (.bool true) := (blk_cell BK488.out 0).trans rfl; have hcz72_1 : w71.cell? ⟨gb488, 1, none⟩ = some (.slice none 0 0) := (blk_cell BK488.out 1).trans rfl; have hcz72_2 : w71.cell? ⟨gb488, 2, none⟩ = some (.slice A3 l3.length c3) := (blk_cell BK488.out 2).trans rfl; have hfz72_0 := blk_frozen BK488.out 0; have hfz72_1 := blk_frozen BK488.out 1; have hfz72_2 := blk_frozen BK488.out 2) | ((with_reducible refine gate_callee (f := 20) rfl ?_); refine goesL_ (some 35) rfl rfl Try.func20 (by kernel_rfl) rfl #[.int .i64 a0, .int .i64 a1, .slice A2 l2.length c2, .agg #[.bool true, .slice none 0 0, .slice A3 l3.length c3]] rfl (by (try simp only [List.map_toArray, List.map_cons, List.map_nil]); first | done | rfl | (simp only [List.length_drop, List.length_take]; rfl)) ?_; (refine (trace_Trace.calls k a0 a1 _ _ l2 true _ _ ([] : List Int) _ _ l3 t490 t491 t492 t493 _ ?side1 ?side2 ?side3 ?side4 ?side5 ?side6 A8.out).mono ?_); (case side1 => repeat (first | exact (Kd.C_below HR2.out HB.out) | (with_reducible refine Kd.C_alloc ?_ _) | (with_reducible refine Kd.C_drewN ?_ _) | (with_reducible refine Kd.C_drew ?_))); (case side2 => exact HC2.out); (case side3 => exact Kd.C_nil _ _); (case side4 => exact Nat.le_refl _); (case side5 => repeat (first | exact (Kd.C_below HR3.out HB.out) | (with_reducible refine Kd.C_alloc ?_ _) | (with_reducible refine Kd.C_drewN ?_ _) | (with_reducible refine Kd.C_drew ?_))); (case side6 => exact HC3.out); rintro e w73 ⟨rfl, hb⟩; refine ⟨_, rfl, ?_⟩; have n0_ := Aside0.mk (blk_below (g := gb488) (o := .cells #[.bool true, .slice none 0 0, .slice A3 l3.length c3] 42 (0, 0)) (by (with_reducible repeat (first | refine blk_drewN ?_ _ | refine blk_drew ?_ | refine blk_alloc ?_ _)); exact BK488.out) hb); have n1_ := Aside0.mk (below_step (by repeat (first | (with_reducible first | exact HB.out | apply below_alloc | apply pw_below_drewN | apply below_drew1 | refine below_set ?_ GE488.out) | exact HB.out)) hb); clear BK488; clear HB; have BK488 := n0_; have HB := n1_; clear n0_ n1_; (try clear hb); (try clear hb2); (try clear hk); (try clear hi)) | ((with_reducible refine gate_dst (N := 11) rfl ?_); refine box_event ?hg (N := 11) ?hd (cs := #[.bool false, .int .u64 0, .int .i64 0]) (t := 48) ?hr ?_; (case hd => rfl); (case hg => rfl); (case hr => first | (go_simp; done) | (go_simp; rfl)); intro gb494 hg w74 hbox hb; have n0_ := Aside0.mk (blk_below (g := gb488) (o := .cells #[.bool true, .slice none 0 0, .slice A3 l3.length c3] 42 (0, 0)) (by (with_reducible repeat (first | refine blk_drewN ?_ _ | refine blk_drew ?_ | refine blk_alloc ?_ _)); exact BK488.out) hb); have n1_ := Aside0.mk (below_step (by repeat (first | (with_reducible first | exact HB.out | apply below_alloc | apply pw_below_drewN | apply below_drew1 | refine below_set ?_ GE488.out) | exact HB.out)) hb); have n2_ := Aside0.mk (hbox); have n3_ := Aside0.mk ((by rw [hg]; exact (below_size (by repeat (first | (with_reducible first | exact HB.out | apply below_alloc | apply pw_below_drewN | apply below_drew1 | refine below_set ?_ GE488.out) | exact HB.out))) : w.heap.size ≤ gb494)); have n4_ := Aside0.mk ((by rw [hg]; exact (below_size (by repeat (first | (with_reducible first | exact HB.out | apply below_alloc | apply pw_below_drewN | apply below_drew1 | refine below_set ?_ GE488.out) | exact HB.out))) : w.heap.size ≤ gb494)); have n5_ := Aside0.mk ((by rw [hg]; exact Nat.ne_of_lt (blk_lt (g := gb488) (o := .cells #[.bool true, .slice none 0 0, .slice A3 l3.length c3] 42 (0, 0)) (by (with_reducible repeat (first | refine blk_drewN ?_ _ | refine blk_drew ?_ | refine blk_alloc ?_ _)); exact BK488.out)) : gb488 ≠ gb494)); have n6_ := Aside0.mk ((by rw [hg]; exact Nat.ne_of_gt (blk_lt (g := gb488) (o := .cells #[.bool true, .slice none 0 0, .slice A3 l3.length c3] 42 (0, 0)) (by (with_reducible repeat (first | refine blk_drewN ?_ _ | refine blk_drew ?_ | refine blk_alloc ?_ _)); exact BK488.out)) : gb494 ≠ gb488)); clear BK488; clear HB; have BK488 := n0_; have HB := n1_; have BK494 := n2_; have GW494 := n3_; have GE494 := n4_; have NB488_494 := n5_; have NB494_488 := n6_; clear n0_ n1_ n2_ n3_ n4_ n5_ n6_; clear hb hbox hg; have hnb75 := NB494_488.out; have hnc75 := NB488_494.out; have hcz76_0 : w74.cell? ⟨gb494, 0, none⟩ = some (.bool false) := (blk_cell BK494.out 0).trans rfl; have hcz76_1 : w74.cell? ⟨gb494, 1, none⟩ = some (.int .u64 0) := (blk_cell BK494.out 1).trans rfl; have hcz76_2 : w74.cell? ⟨gb494, 2, none⟩ = some (.int .i64 0) := (blk_cell BK494.out 2).trans rfl; have hfz76_0 := blk_frozen BK494.out 0; have hfz76_1 := blk_frozen BK494.out 1; have hfz76_2 := blk_frozen BK494.out 2) | ((with_reducible refine gate_callee (f := 18) rfl ?_); refine goesL_ (some 42) rfl rfl Try.func18 (by kernel_rfl) rfl #[.int .i64 a0, .int .i64 (l2.length : Int)] rfl (by (try simp only [List.map_toArray, List.map_cons, List.map_nil]); first | done | rfl | (simp only [List.length_drop, List.length_take]; rfl)) ?_; (with_reducible refine (trace_Bound.calls k a0 (l2.length : Int) t495 t496 _ A9.out).mono ?_); rintro e w' ⟨rfl, ⟨nd, rfl⟩⟩; refine ⟨_, rfl, ?_⟩))
      go_ret
      exact ⟨by first | rfl | (simp [errW_none, errW_some] <;> rfl) | (simp [*, errW_none, errW_some] <;> rfl), by repeat (first | (with_reducible first | exact HB.out | apply below_alloc | apply pw_below_drewN | apply below_drew1 | refine below_set ?_ GE488.out | refine below_set ?_ GE494.out) | exact HB.out)⟩
  · replace c7 := Bool.eq_false_iff.mpr c7
    subst c7
    have H1 : (some t487) = some r := by rw [if_neg (show ¬ (false = true) by decide)] at H; exact H
    clear H
    have H := H1
    clear H1
    obtain rfl := Option.some.inj H
    go_enter Try.func6, Try.ntmps6
    go_wp2_with (first | ((with_reducible refine gate_callee (f := 9) rfl ?_); refine goesL_ (some 22) rfl rfl Try.func9 (by kernel_rfl) rfl #[] rfl (by (try simp only [List.map_toArray, List.map_cons, List.map_nil]); first | done | rfl | (simp only [List.length_drop, List.length_take]; rfl)) ?_; (with_reducible refine (medlarlaw23_live.calls k  t487 _ A5.out).mono ?_); rintro e w77 ⟨rfl, hb⟩; refine ⟨_, rfl, ?_⟩; have n0_ := Aside0.mk (below_step (by repeat (first | (with_reducible first | exact HB.out | apply below_alloc | apply pw_below_drewN | apply below_drew1) | exact HB.out)) hb); clear HB; have HB := n0_; clear n0_; (try clear hb); (try clear hb2); (try clear hk); (try clear hi)) | ((with_reducible refine gate_dst (N := 10) rfl ?_); refine box_event ?hg (N := 10) ?hd (cs := #[.bool false, .slice none 0 0, .slice none 0 0]) (t := 42) ?hr ?_; (case hd => rfl); (case hg => rfl); (case hr => first | (go_simp; done) | (go_simp; rfl)); intro gb488 hg w78 hbox hb; have n0_ := Aside0.mk (below_step (by repeat (first | (with_reducible first | exact HB.out | apply below_alloc | apply pw_below_drewN | apply below_drew1) | exact HB.out)) hb); have n1_ := Aside0.mk (hbox); have n2_ := Aside0.mk ((by rw [hg]; exact (below_size (by repeat (first | (with_reducible first | exact HB.out | apply below_alloc | apply pw_below_drewN | apply below_drew1) | exact HB.out))) : w.heap.size ≤ gb488)); have n3_ := Aside0.mk ((by rw [hg]; exact (below_size (by repeat (first | (with_reducible first | exact HB.out | apply below_alloc | apply pw_below_drewN | apply below_drew1) | exact HB.out))) : w.heap.size ≤ gb488)); clear HB; have HB := n0_; have BK488 := n1_; have GW488 := n2_; have GE488 := n3_; clear n0_ n1_ n2_ n3_; clear hb hbox hg; have hcz79_0 : w78.cell? ⟨gb488, 0, none⟩ = some (.bool false) := (blk_cell BK488.out 0).trans rfl; have hcz79_1 : w78.cell? ⟨gb488, 1, none⟩ = some (.slice none 0 0) := (blk_cell BK488.out 1).trans rfl; have hcz79_2 : w78.cell? ⟨gb488, 2, none⟩ = some (.slice none 0 0) := (blk_cell BK488.out 2).trans rfl; have hfz79_0 := blk_frozen BK488.out 0; have hfz79_1 := blk_frozen BK488.out 1; have hfz79_2 := blk_frozen BK488.out 2) | ((with_reducible refine gate_callee (f := 15) rfl ?_); refine goesL_ (some 27) rfl rfl Try.func15 (by kernel_rfl) rfl #[.agg #[.bool true, .slice none 0 0, .slice A3 l3.length c3], .slice A2 l2.length c2] rfl (by (try simp only [List.map_toArray, List.map_cons, List.map_nil]); first | done | rfl | (simp only [List.length_drop, List.length_take]; rfl)) ?_; (refine (medlarlaw23_few.calls true _ _ ([] : List Int) _ _ l3 _ _ l2 false _ ?side1 ?side2 ?side3 ?side4 ?side5 ?side6 A6.out).mono ?_); (case side1 => exact Kd.C_nil _ _); (case side2 => exact Nat.le_refl _); (case side3 => exact Kd.C_below HR3.out (by repeat (first | (with_reducible first | exact HB.out | apply below_alloc | apply pw_below_drewN | apply below_drew1 | refine below_set ?_ GE488.out) | exact HB.out))); (case side4 => exact HC3.out); (case side5 => exact Kd.C_below HR2.out (by repeat (first | (with_reducible first | exact HB.out | apply below_alloc | apply pw_below_drewN | apply below_drew1 | refine below_set ?_ GE488.out) | exact HB.out))); (case side6 => exact HC2.out); rintro e w80 ⟨rfl, hb⟩; refine ⟨_, rfl, ?_⟩; have n0_ := Aside0.mk (blk_below (g := gb488) (o := .cells #[.bool true, .slice none 0 0, .slice A3 l3.length c3] 42 (0, 0)) (by (with_reducible repeat (first | refine blk_drewN ?_ _ | refine blk_drew ?_ | refine blk_alloc ?_ _)); refine blk_put (cs := #[.bool true, .slice none 0 0, .slice none 0 0]) ?_ 2 _ rfl; (with_reducible repeat (first | refine blk_drewN ?_ _ | refine blk_drew ?_ | refine blk_alloc ?_ _)); refine blk_put (cs := #[.bool true, .slice none 0 0, .slice none 0 0]) ?_ 1 _ rfl; (with_reducible repeat (first | refine blk_drewN ?_ _ | refine blk_drew ?_ | refine blk_alloc ?_ _)); refine blk_put (cs := #[.bool false, .slice none 0 0, .slice none 0 0]) ?_ 0 _ rfl; (with_reducible repeat (first | refine blk_drewN ?_ _ | refine blk_drew ?_ | refine blk_alloc ?_ _)); exact BK488.out) hb); have n1_ := Aside0.mk (below_step (by repeat (first | (with_reducible first | exact HB.out | apply below_alloc | apply pw_below_drewN | apply below_drew1 | refine below_set ?_ GE488.out) | exact HB.out)) hb); clear BK488; clear HB; have BK488 := n0_; have HB := n1_; clear n0_ n1_; (try clear hb); (try clear hb2); (try clear hk); (try clear hi)))
    go_ret
    exact ⟨by first | rfl | (simp [errW_none, errW_some] <;> rfl) | (simp [*, errW_none, errW_some] <;> rfl), by repeat (first | (with_reducible first | exact HB.out | apply below_alloc | apply pw_below_drewN | apply below_drew1 | refine below_set ?_ GE488.out) | exact HB.out)⟩

end Go.Proofs.Ytnbiddloiiljjaa.MP
